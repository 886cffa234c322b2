/- A part of the proof. -/
import Derived.Test.YtehmojdjpmliaaaGreatDoorProg
import Derived.Test.YtehmojdjpmliaaaGreatDoorMore
import Derived.KernelRfl
set_option linter.all false
namespace Go.Scarf
open Go.RowKit Go.Proofs
theorem sl_22 : SliceOf Tryz.prog 22 9 1 := ⟨Tryz.underlying22, Tryz.sizeOf9⟩
theorem sl_23 : SliceOf Tryz.prog 23 25 4 := ⟨Tryz.underlying23, Tryz.sizeOf25⟩
theorem fa_25_0 : FieldAt Tryz.prog 25 0 0 := ⟨_, _, _, Tryz.underlying25, rfl, rfl, Tryz.sizeOf3, by decide⟩
theorem fa_25_1 : FieldAt Tryz.prog 25 1 1 := ⟨_, _, _, Tryz.underlying25, rfl, rfl, Tryz.sizeOf9, by decide⟩
theorem fa_25_2 : FieldAt Tryz.prog 25 2 2 := ⟨_, _, _, Tryz.underlying25, rfl, rfl, Tryz.sizeOf22, by decide⟩
theorem fa_25_3 : FieldAt Tryz.prog 25 3 3 := ⟨_, _, _, Tryz.underlying25, rfl, rfl, Tryz.sizeOf23, by decide⟩
theorem fa_52_0 : FieldAt Tryz.prog 52 0 0 := ⟨_, _, _, Tryz.underlying52, rfl, rfl, Tryz.sizeOf49, by decide⟩
theorem fa_52_1 : FieldAt Tryz.prog 52 1 1 := ⟨_, _, _, Tryz.underlying52, rfl, rfl, Tryz.sizeOf50, by decide⟩
theorem fa_54_0 : FieldAt Tryz.prog 54 0 0 := ⟨_, _, _, Tryz.underlying54, rfl, rfl, Tryz.sizeOf52, by decide⟩
theorem fa_54_1 : FieldAt Tryz.prog 54 1 2 := ⟨_, _, _, Tryz.underlying54, rfl, rfl, Tryz.sizeOf4, by decide⟩
theorem fa_54_2 : FieldAt Tryz.prog 54 2 3 := ⟨_, _, _, Tryz.underlying54, rfl, rfl, Tryz.sizeOf3, by decide⟩
theorem fa_65_0 : FieldAt Tryz.prog 65 0 0 := ⟨_, _, _, Tryz.underlying65, rfl, rfl, Tryz.sizeOf4, by decide⟩
theorem fa_65_1 : FieldAt Tryz.prog 65 1 1 := ⟨_, _, _, Tryz.underlying65, rfl, rfl, Tryz.sizeOf9, by decide⟩
theorem fa_65_2 : FieldAt Tryz.prog 65 2 2 := ⟨_, _, _, Tryz.underlying65, rfl, rfl, Tryz.sizeOf3, by decide⟩
theorem fa_109_0 : FieldAt Tryz.prog 109 0 0 := ⟨_, _, _, Tryz.underlying109, rfl, rfl, Tryz.sizeOf4, by decide⟩
theorem fa_109_1 : FieldAt Tryz.prog 109 1 1 := ⟨_, _, _, Tryz.underlying109, rfl, rfl, Tryz.sizeOf4, by decide⟩
theorem fa_109_2 : FieldAt Tryz.prog 109 2 2 := ⟨_, _, _, Tryz.underlying109, rfl, rfl, Tryz.sizeOf9, by decide⟩
theorem fa_109_3 : FieldAt Tryz.prog 109 3 3 := ⟨_, _, _, Tryz.underlying109, rfl, rfl, Tryz.sizeOf9, by decide⟩
theorem fa_109_4 : FieldAt Tryz.prog 109 4 4 := ⟨_, _, _, Tryz.underlying109, rfl, rfl, Tryz.sizeOf9, by decide⟩
theorem en_13 : Enters Tryz.prog 13 := Tryz.call13
theorem en_14 : Enters Tryz.prog 14 := Tryz.call14
theorem en_16 : Enters Tryz.prog 16 := Tryz.call16
theorem en_17 : Enters Tryz.prog 17 := Tryz.call17
theorem en_18 : Enters Tryz.prog 18 := Tryz.call18
theorem en_22 : Enters Tryz.prog 22 := Tryz.call22
theorem en_23 : Enters Tryz.prog 23 := Tryz.call23
theorem en_24 : Enters Tryz.prog 24 := Tryz.call24
theorem en_25 : Enters Tryz.prog 25 := Tryz.call25
theorem en_26 : Enters Tryz.prog 26 := Tryz.call26
theorem en_31 : Enters Tryz.prog 31 := Tryz.call31
theorem en_33 : Enters Tryz.prog 33 := Tryz.call33
theorem en_36 : Enters Tryz.prog 36 := Tryz.call36
theorem en_39 : Enters Tryz.prog 39 := Tryz.call39
theorem en_42 : Enters Tryz.prog 42 := Tryz.call42
theorem en_43 : Enters Tryz.prog 43 := Tryz.call43
theorem en_49 : Enters Tryz.prog 49 := Tryz.call49
theorem en_50 : Enters Tryz.prog 50 := Tryz.call50
theorem en_51 : Enters Tryz.prog 51 := Tryz.call51
theorem en_52 : Enters Tryz.prog 52 := Tryz.call52
theorem en_53 : Enters Tryz.prog 53 := Tryz.call53
theorem en_55 : Enters Tryz.prog 55 := Tryz.call55
theorem en_56 : Enters Tryz.prog 56 := Tryz.call56
theorem en_59 : Enters Tryz.prog 59 := Tryz.call59
theorem en_60 : Enters Tryz.prog 60 := Tryz.call60
theorem en_61 : Enters Tryz.prog 61 := Tryz.call61
theorem en_62 : Enters Tryz.prog 62 := Tryz.call62
theorem en_64 : Enters Tryz.prog 64 := Tryz.call64
theorem en_65 : Enters Tryz.prog 65 := Tryz.call65
theorem en_69 : Enters Tryz.prog 69 := Tryz.call69
theorem en_73 : Enters Tryz.prog 73 := Tryz.call73
theorem en_74 : Enters Tryz.prog 74 := Tryz.call74
theorem en_75 : Enters Tryz.prog 75 := Tryz.call75
theorem en_76 : Enters Tryz.prog 76 := Tryz.call76
theorem en_77 : Enters Tryz.prog 77 := Tryz.call77
theorem en_80 : Enters Tryz.prog 80 := Tryz.call80
theorem en_81 : Enters Tryz.prog 81 := Tryz.call81
theorem en_84 : Enters Tryz.prog 84 := Tryz.call84
theorem en_85 : Enters Tryz.prog 85 := Tryz.call85
theorem en_86 : Enters Tryz.prog 86 := Tryz.call86
theorem en_87 : Enters Tryz.prog 87 := Tryz.call87
theorem en_88 : Enters Tryz.prog 88 := Tryz.call88
theorem en_89 : Enters Tryz.prog 89 := Tryz.call89
theorem en_91 : Enters Tryz.prog 91 := Tryz.call91
theorem en_92 : Enters Tryz.prog 92 := Tryz.call92
theorem en_93 : Enters Tryz.prog 93 := Tryz.call93
theorem en_104 : Enters Tryz.prog 104 := Tryz.call104
theorem en_105 : Enters Tryz.prog 105 := Tryz.call105
theorem en_109 : Enters Tryz.prog 109 := Tryz.call109
theorem en_110 : Enters Tryz.prog 110 := Tryz.call110
theorem en_111 : Enters Tryz.prog 111 := Tryz.call111
theorem en_112 : Enters Tryz.prog 112 := Tryz.call112
theorem en_117 : Enters Tryz.prog 117 := Tryz.call117
theorem en_118 : Enters Tryz.prog 118 := Tryz.call118
theorem en_119 : Enters Tryz.prog 119 := Tryz.call119
theorem en_122 : Enters Tryz.prog 122 := Tryz.call122
theorem en_124 : Enters Tryz.prog 124 := Tryz.call124
theorem en_125 : Enters Tryz.prog 125 := Tryz.call125
theorem en_126 : Enters Tryz.prog 126 := Tryz.call126
theorem en_137 : Enters Tryz.prog 137 := Tryz.call137
theorem en_138 : Enters Tryz.prog 138 := Tryz.call138
theorem en_139 : Enters Tryz.prog 139 := Tryz.call139
theorem en_140 : Enters Tryz.prog 140 := Tryz.call140
theorem en_146 : Enters Tryz.prog 146 := Tryz.call146
theorem en_147 : Enters Tryz.prog 147 := Tryz.call147
theorem en_148 : Enters Tryz.prog 148 := Tryz.call148
theorem en_149 : Enters Tryz.prog 149 := Tryz.call149
theorem en_150 : Enters Tryz.prog 150 := Tryz.call150
theorem en_151 : Enters Tryz.prog 151 := Tryz.call151
theorem en_152 : Enters Tryz.prog 152 := Tryz.call152
theorem en_161 : Enters Tryz.prog 161 := Tryz.call161
theorem en_185 : Enters Tryz.prog 185 := Tryz.call185
theorem en_187 : Enters Tryz.prog 187 := Tryz.call187
theorem en_210 : Enters Tryz.prog 210 := Tryz.call210
theorem en_211 : Enters Tryz.prog 211 := Tryz.call211
theorem en_222 : Enters Tryz.prog 222 := Tryz.call222
end Go.Scarf
namespace Go.Scarf
open Go.RowKit Go.Proofs
theorem el_23 : Elems Tryz.prog 23 25 4 72 := .of (.agg #[.int .i64 (0), .string (bs ([])), .slice (none) (0) (0), .slice (none) (0) (0)]) Tryz.underlying23 (by kernel_rfl) rfl
theorem el_50 : Elems Tryz.prog 50 5 1 1 := .of (.int .u8 (0)) Tryz.underlying50 (by kernel_rfl) rfl
end Go.Scarf
