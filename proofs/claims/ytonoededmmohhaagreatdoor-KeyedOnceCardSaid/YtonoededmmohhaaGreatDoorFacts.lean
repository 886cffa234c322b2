/- A part of the proof. -/
import Derived.Test.YtonoededmmohhaaGreatDoorProg
import Derived.Test.YtonoededmmohhaaGreatDoorMore
import Derived.KernelRfl
set_option linter.all false
namespace Go.Scarf
open Go.RowKit Go.Proofs
theorem sl_22 : SliceOf Tryz.prog 22 9 1 := ⟨Tryz.underlying22, Tryz.sizeOf9⟩
theorem sl_28 : SliceOf Tryz.prog 28 22 1 := ⟨Tryz.underlying28, Tryz.sizeOf22⟩
theorem sl_30 : SliceOf Tryz.prog 30 32 4 := ⟨Tryz.underlying30, Tryz.sizeOf32⟩
theorem fa_32_0 : FieldAt Tryz.prog 32 0 0 := ⟨_, _, _, Tryz.underlying32, rfl, rfl, Tryz.sizeOf3, by decide⟩
theorem fa_32_1 : FieldAt Tryz.prog 32 1 1 := ⟨_, _, _, Tryz.underlying32, rfl, rfl, Tryz.sizeOf9, by decide⟩
theorem fa_32_2 : FieldAt Tryz.prog 32 2 2 := ⟨_, _, _, Tryz.underlying32, rfl, rfl, Tryz.sizeOf22, by decide⟩
theorem fa_32_3 : FieldAt Tryz.prog 32 3 3 := ⟨_, _, _, Tryz.underlying32, rfl, rfl, Tryz.sizeOf30, by decide⟩
theorem fa_63_0 : FieldAt Tryz.prog 63 0 0 := ⟨_, _, _, Tryz.underlying63, rfl, rfl, Tryz.sizeOf4, by decide⟩
theorem fa_63_1 : FieldAt Tryz.prog 63 1 1 := ⟨_, _, _, Tryz.underlying63, rfl, rfl, Tryz.sizeOf9, by decide⟩
theorem fa_63_2 : FieldAt Tryz.prog 63 2 2 := ⟨_, _, _, Tryz.underlying63, rfl, rfl, Tryz.sizeOf3, by decide⟩
theorem fa_85_0 : FieldAt Tryz.prog 85 0 0 := ⟨_, _, _, Tryz.underlying85, rfl, rfl, Tryz.sizeOf4, by decide⟩
theorem fa_85_1 : FieldAt Tryz.prog 85 1 1 := ⟨_, _, _, Tryz.underlying85, rfl, rfl, Tryz.sizeOf4, by decide⟩
theorem fa_85_2 : FieldAt Tryz.prog 85 2 2 := ⟨_, _, _, Tryz.underlying85, rfl, rfl, Tryz.sizeOf9, by decide⟩
theorem fa_85_3 : FieldAt Tryz.prog 85 3 3 := ⟨_, _, _, Tryz.underlying85, rfl, rfl, Tryz.sizeOf9, by decide⟩
theorem fa_85_4 : FieldAt Tryz.prog 85 4 4 := ⟨_, _, _, Tryz.underlying85, rfl, rfl, Tryz.sizeOf9, by decide⟩
theorem fa_95_0 : FieldAt Tryz.prog 95 0 0 := ⟨_, _, _, Tryz.underlying95, rfl, rfl, Tryz.sizeOf92, by decide⟩
theorem fa_95_1 : FieldAt Tryz.prog 95 1 1 := ⟨_, _, _, Tryz.underlying95, rfl, rfl, Tryz.sizeOf93, by decide⟩
theorem fa_97_0 : FieldAt Tryz.prog 97 0 0 := ⟨_, _, _, Tryz.underlying97, rfl, rfl, Tryz.sizeOf95, by decide⟩
theorem fa_97_1 : FieldAt Tryz.prog 97 1 2 := ⟨_, _, _, Tryz.underlying97, rfl, rfl, Tryz.sizeOf4, by decide⟩
theorem fa_97_2 : FieldAt Tryz.prog 97 2 3 := ⟨_, _, _, Tryz.underlying97, rfl, rfl, Tryz.sizeOf3, by decide⟩
theorem en_6 : Enters Tryz.prog 6 := Tryz.call6
theorem en_7 : Enters Tryz.prog 7 := Tryz.call7
theorem en_8 : Enters Tryz.prog 8 := Tryz.call8
theorem en_9 : Enters Tryz.prog 9 := Tryz.call9
theorem en_13 : Enters Tryz.prog 13 := Tryz.call13
theorem en_15 : Enters Tryz.prog 15 := Tryz.call15
theorem en_17 : Enters Tryz.prog 17 := Tryz.call17
theorem en_21 : Enters Tryz.prog 21 := Tryz.call21
theorem en_22 : Enters Tryz.prog 22 := Tryz.call22
theorem en_23 : Enters Tryz.prog 23 := Tryz.call23
theorem en_24 : Enters Tryz.prog 24 := Tryz.call24
theorem en_25 : Enters Tryz.prog 25 := Tryz.call25
theorem en_28 : Enters Tryz.prog 28 := Tryz.call28
theorem en_29 : Enters Tryz.prog 29 := Tryz.call29
theorem en_33 : Enters Tryz.prog 33 := Tryz.call33
theorem en_34 : Enters Tryz.prog 34 := Tryz.call34
theorem en_35 : Enters Tryz.prog 35 := Tryz.call35
theorem en_37 : Enters Tryz.prog 37 := Tryz.call37
theorem en_38 : Enters Tryz.prog 38 := Tryz.call38
theorem en_39 : Enters Tryz.prog 39 := Tryz.call39
theorem en_40 : Enters Tryz.prog 40 := Tryz.call40
theorem en_41 : Enters Tryz.prog 41 := Tryz.call41
theorem en_42 : Enters Tryz.prog 42 := Tryz.call42
theorem en_43 : Enters Tryz.prog 43 := Tryz.call43
theorem en_44 : Enters Tryz.prog 44 := Tryz.call44
theorem en_45 : Enters Tryz.prog 45 := Tryz.call45
theorem en_53 : Enters Tryz.prog 53 := Tryz.call53
theorem en_54 : Enters Tryz.prog 54 := Tryz.call54
theorem en_55 : Enters Tryz.prog 55 := Tryz.call55
theorem en_56 : Enters Tryz.prog 56 := Tryz.call56
theorem en_57 : Enters Tryz.prog 57 := Tryz.call57
theorem en_58 : Enters Tryz.prog 58 := Tryz.call58
theorem en_59 : Enters Tryz.prog 59 := Tryz.call59
theorem en_60 : Enters Tryz.prog 60 := Tryz.call60
theorem en_61 : Enters Tryz.prog 61 := Tryz.call61
theorem en_62 : Enters Tryz.prog 62 := Tryz.call62
theorem en_63 : Enters Tryz.prog 63 := Tryz.call63
theorem en_64 : Enters Tryz.prog 64 := Tryz.call64
theorem en_65 : Enters Tryz.prog 65 := Tryz.call65
theorem en_66 : Enters Tryz.prog 66 := Tryz.call66
theorem en_67 : Enters Tryz.prog 67 := Tryz.call67
theorem en_68 : Enters Tryz.prog 68 := Tryz.call68
theorem en_73 : Enters Tryz.prog 73 := Tryz.call73
theorem en_74 : Enters Tryz.prog 74 := Tryz.call74
theorem en_75 : Enters Tryz.prog 75 := Tryz.call75
theorem en_77 : Enters Tryz.prog 77 := Tryz.call77
theorem en_78 : Enters Tryz.prog 78 := Tryz.call78
theorem en_79 : Enters Tryz.prog 79 := Tryz.call79
theorem en_80 : Enters Tryz.prog 80 := Tryz.call80
theorem en_81 : Enters Tryz.prog 81 := Tryz.call81
theorem en_82 : Enters Tryz.prog 82 := Tryz.call82
theorem en_83 : Enters Tryz.prog 83 := Tryz.call83
theorem en_84 : Enters Tryz.prog 84 := Tryz.call84
theorem en_89 : Enters Tryz.prog 89 := Tryz.call89
theorem en_90 : Enters Tryz.prog 90 := Tryz.call90
theorem en_91 : Enters Tryz.prog 91 := Tryz.call91
theorem en_92 : Enters Tryz.prog 92 := Tryz.call92
theorem en_100 : Enters Tryz.prog 100 := Tryz.call100
theorem en_101 : Enters Tryz.prog 101 := Tryz.call101
theorem en_102 : Enters Tryz.prog 102 := Tryz.call102
theorem en_103 : Enters Tryz.prog 103 := Tryz.call103
theorem en_104 : Enters Tryz.prog 104 := Tryz.call104
theorem en_105 : Enters Tryz.prog 105 := Tryz.call105
theorem en_106 : Enters Tryz.prog 106 := Tryz.call106
theorem en_107 : Enters Tryz.prog 107 := Tryz.call107
theorem en_108 : Enters Tryz.prog 108 := Tryz.call108
theorem en_109 : Enters Tryz.prog 109 := Tryz.call109
theorem en_110 : Enters Tryz.prog 110 := Tryz.call110
theorem en_119 : Enters Tryz.prog 119 := Tryz.call119
theorem en_121 : Enters Tryz.prog 121 := Tryz.call121
theorem en_134 : Enters Tryz.prog 134 := Tryz.call134
theorem en_135 : Enters Tryz.prog 135 := Tryz.call135
theorem en_136 : Enters Tryz.prog 136 := Tryz.call136
theorem en_137 : Enters Tryz.prog 137 := Tryz.call137
theorem en_149 : Enters Tryz.prog 149 := Tryz.call149
theorem en_150 : Enters Tryz.prog 150 := Tryz.call150
theorem en_164 : Enters Tryz.prog 164 := Tryz.call164
theorem en_165 : Enters Tryz.prog 165 := Tryz.call165
theorem en_166 : Enters Tryz.prog 166 := Tryz.call166
theorem en_171 : Enters Tryz.prog 171 := Tryz.call171
theorem en_181 : Enters Tryz.prog 181 := Tryz.call181
end Go.Scarf
namespace Go.Scarf
open Go.RowKit Go.Proofs
theorem el_22 : Elems Tryz.prog 22 9 1 16 := .of (.string (bs ([]))) Tryz.underlying22 (by kernel_rfl) rfl
theorem el_30 : Elems Tryz.prog 30 32 4 72 := .of (.agg #[.int .i64 (0), .string (bs ([])), .slice (none) (0) (0), .slice (none) (0) (0)]) Tryz.underlying30 (by kernel_rfl) rfl
theorem el_93 : Elems Tryz.prog 93 5 1 1 := .of (.int .u8 (0)) Tryz.underlying93 (by kernel_rfl) rfl
end Go.Scarf
