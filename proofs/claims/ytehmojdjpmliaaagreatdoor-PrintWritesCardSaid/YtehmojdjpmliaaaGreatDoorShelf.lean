/- A part of the proof. -/
import Derived.Shelf.Strings.Builder1
import Derived.Shelf.Strings.Builder2
import Derived.Shelf.Strings.Trim
import Derived.Shelf.Small.Utf8
import Derived.Shelf.Small.Bits
import Derived.Shelf.Small.Strs
import Derived.Shelf.Small.Wraps
import Derived.Shelf.Strings.BuilderF
import Derived.Shelf.Strings.BuilderK
import Derived.Shelf.Strings.BuilderRune
import Derived.Shelf.Utf8.AppendRunePlain
import Derived.Shelf.Strconv.Itoa0
import Derived.Shelf.Strconv.Itoa1
import Derived.Shelf.LaysM
import Derived.Shelf.Strconv.Itoa2
import Derived.Shelf.Strconv.Itoa3
import Derived.Shelf.Strconv.Itoa4
import Derived.Shelf.Strconv.ParseIntEmpty
import Derived.Shelf.Strconv.Clone
import Derived.Shelf.Strconv.SyntaxError
import Derived.Shelf.LaysC
import Derived.Shelf.Strconv.ToError
import Derived.Shelf.Strconv.Lower
import Derived.Shelf.Strconv.ParseUint10
import Derived.Shelf.Strconv.ParseUint10Empty
import Derived.Shelf.Strconv.ParseUint10Any
import Derived.Shelf.Strconv.ParseInt10
import Derived.Shelf.Strconv.RangeError
import Derived.Shelf.Strconv.ToErrorRange
import Derived.Shelf.Strconv.ParseUintEmpty
import Derived.Shelf.Strconv.ParseUint10b64
import Derived.Shelf.Strconv.ParseUint10b32
import Derived.Shelf.Strconv.ParseUint10b16
import Derived.Shelf.Strconv.ParseUint10b8
import Derived.Shelf.Strconv.ParseUint10At
import Derived.Shelf.Strconv.ParseInt10At64
import Derived.Shelf.Strconv.ParseInt10At32
import Derived.Shelf.Strconv.ParseInt10At16
import Derived.Shelf.Strconv.ParseInt10At8
import Derived.Shelf.Strconv.ParseInt10All
import Derived.Shelf.Strconv.ParseIntPublic10
import Derived.Shelf.Strconv.ErrVarParseInt
import Derived.Shelf.Strings.Search1
import Derived.Shelf.Strings.Prefix
import Derived.Shelf.Unicode.Decode
import Derived.Shelf.Strings.Runes
import Derived.Shelf.Strings.AsciiSet
import Derived.Shelf.Bits.Mul64
import Derived.Shelf.Strings.Repeat
import Derived.Shelf.Unicode.DecodeSlow
import Derived.Shelf.Unicode.DecodeAny
import Derived.Ground.Names2Prog
import Derived.Shelf.Slices.Clone
import Derived.Shelf.Slices.SearchI
import Derived.Ground.SlgmProg
import Derived.Shelf.SortM.Plain
import Derived.Shelf.SortM.SortNone
import Derived.Test.YtehmojdjpmliaaaGreatDoorProg
set_option linter.all false
set_option linter.all false
namespace Go.Proofs
open Go.Shelf
def Tryz.lays161_ren : Go.Shelf.Ren := ⟨fun | 161 => 125 | 231 => 153 | 227 => 154 | 233 => 155 | 235 => 156 | 228 => 189 | 197 => 147 | 151 => 190 | 260 => 179 | 152 => 213 | 137 => 187 | 119 => 224 | 224 => 225 | 225 => 226 | 217 => 212 | 266 => 223 | n => n, fun | 9 => 9 | 4 => 4 | 3 => 3 | 5 => 5 | 117 => 141 | 116 => 140 | 0 => 0 | 124 => 144 | 105 => 125 | 21 => 21 | 119 => 163 | 46 => 130 | 139 => 166 | 138 => 165 | n => n, fun | 3 => 1 | 4 => 2 | n => n⟩
theorem Tryz.lays161 : Go.Proofs.Lays.n161 Tryz.prog Tryz.lays161_ren := {
  mixed := by kernel_rfl
  f119 := Tryz.func224.trans (congrArg some (by kernel_rfl))
  f137 := Tryz.func187.trans (congrArg some (by kernel_rfl))
  f151 := Tryz.func190.trans (congrArg some (by kernel_rfl))
  f152 := Tryz.func213.trans (congrArg some (by kernel_rfl))
  f161 := Tryz.func125.trans (congrArg some (by kernel_rfl))
  f197 := Tryz.func147.trans (congrArg some (by kernel_rfl))
  f217 := Tryz.func212.trans (congrArg some (by kernel_rfl))
  f224 := Tryz.func225.trans (congrArg some (by kernel_rfl))
  f225 := Tryz.func226.trans (congrArg some (by kernel_rfl))
  f227 := Tryz.func154.trans (congrArg some (by kernel_rfl))
  f228 := Tryz.func189.trans (congrArg some (by kernel_rfl))
  f231 := Tryz.func153.trans (congrArg some (by kernel_rfl))
  f233 := Tryz.func155.trans (congrArg some (by kernel_rfl))
  f235 := Tryz.func156.trans (congrArg some (by kernel_rfl))
  f260 := Tryz.func179.trans (congrArg some (by kernel_rfl))
  f266 := Tryz.func223.trans (congrArg some (by kernel_rfl))
  t0 := Tryz.underlying0
  a0 := Tryz.isAgg0
  z0 := Tryz.sizeOf0
  v0 := Tryz.zeroValue0
  t3 := Tryz.underlying3
  a3 := Tryz.isAgg3
  z3 := Tryz.sizeOf3
  v3 := Tryz.zeroValue3
  t4 := Tryz.underlying4
  a4 := Tryz.isAgg4
  z4 := Tryz.sizeOf4
  v4 := Tryz.zeroValue4
  t5 := Tryz.underlying5
  a5 := Tryz.isAgg5
  z5 := Tryz.sizeOf5
  v5 := Tryz.zeroValue5
  t9 := Tryz.underlying9
  a9 := Tryz.isAgg9
  z9 := Tryz.sizeOf9
  v9 := Tryz.zeroValue9
  t21 := Tryz.underlying21
  a21 := Tryz.isAgg21
  z21 := Tryz.sizeOf21
  v21 := Tryz.zeroValue21
  t46 := Tryz.underlying130
  a46 := Tryz.isAgg130
  z46 := Tryz.sizeOf130
  v46 := Tryz.zeroValue130
  t105 := Tryz.underlying125
  a105 := Tryz.isAgg125
  z105 := Tryz.sizeOf125
  v105 := Tryz.zeroValue125
  t116 := Tryz.underlying140
  a116 := Tryz.isAgg140
  z116 := Tryz.sizeOf140
  t117 := Tryz.underlying141
  a117 := Tryz.isAgg141
  z117 := Tryz.sizeOf141
  v117 := Tryz.zeroValue141
  t119 := Tryz.underlying163
  a119 := Tryz.isAgg163
  z119 := Tryz.sizeOf163
  t124 := Tryz.underlying144
  a124 := Tryz.isAgg144
  z124 := Tryz.sizeOf144
  v124 := Tryz.zeroValue144
  t138 := Tryz.underlying165
  a138 := Tryz.isAgg165
  z138 := Tryz.sizeOf165
  v138 := Tryz.zeroValue165
  t139 := Tryz.underlying166
  a139 := Tryz.isAgg166
  z139 := Tryz.sizeOf166
  v139 := Tryz.zeroValue166
  g3 := by kernel_rfl
  g4 := by kernel_rfl }
open Go.RowKit in
theorem Tryz.strings_TrimLeft_one (s : ByteArray) (c : UInt8) (hc : c.toNat < 128) (w : World) :
    Calls Tryz.prog 125 #[.string s, .string ⟨#[c]⟩] w fun e w' => e = .returned (.string ⟨(Lib.trimLeftB s.data.toList c).toArray⟩) ∧ w' = w := Any.strings_TrimLeft_one Tryz.lays161 s c hc w
def Tryz.lays162_ren : Go.Shelf.Ren := ⟨fun | 162 => 126 | 232 => 157 | 227 => 154 | 234 => 158 | 236 => 159 | 228 => 189 | 271 => 191 | 151 => 190 | 120 => 214 | 197 => 147 | 152 => 213 | 260 => 179 | 137 => 187 | 119 => 224 | 224 => 225 | 225 => 226 | 217 => 212 | 266 => 223 | n => n, fun | 9 => 9 | 4 => 4 | 3 => 3 | 5 => 5 | 117 => 141 | 116 => 140 | 0 => 0 | 124 => 144 | 21 => 21 | 105 => 125 | 46 => 130 | 119 => 163 | 139 => 166 | 138 => 165 | n => n, fun | 3 => 1 | 4 => 2 | n => n⟩
theorem Tryz.lays162 : Go.Proofs.Lays.n162 Tryz.prog Tryz.lays162_ren := {
  mixed := by kernel_rfl
  f119 := Tryz.func224.trans (congrArg some (by kernel_rfl))
  f120 := Tryz.func214.trans (congrArg some (by kernel_rfl))
  f137 := Tryz.func187.trans (congrArg some (by kernel_rfl))
  f151 := Tryz.func190.trans (congrArg some (by kernel_rfl))
  f152 := Tryz.func213.trans (congrArg some (by kernel_rfl))
  f162 := Tryz.func126.trans (congrArg some (by kernel_rfl))
  f197 := Tryz.func147.trans (congrArg some (by kernel_rfl))
  f217 := Tryz.func212.trans (congrArg some (by kernel_rfl))
  f224 := Tryz.func225.trans (congrArg some (by kernel_rfl))
  f225 := Tryz.func226.trans (congrArg some (by kernel_rfl))
  f227 := Tryz.func154.trans (congrArg some (by kernel_rfl))
  f228 := Tryz.func189.trans (congrArg some (by kernel_rfl))
  f232 := Tryz.func157.trans (congrArg some (by kernel_rfl))
  f234 := Tryz.func158.trans (congrArg some (by kernel_rfl))
  f236 := Tryz.func159.trans (congrArg some (by kernel_rfl))
  f260 := Tryz.func179.trans (congrArg some (by kernel_rfl))
  f266 := Tryz.func223.trans (congrArg some (by kernel_rfl))
  f271 := Tryz.func191.trans (congrArg some (by kernel_rfl))
  t0 := Tryz.underlying0
  a0 := Tryz.isAgg0
  z0 := Tryz.sizeOf0
  v0 := Tryz.zeroValue0
  t3 := Tryz.underlying3
  a3 := Tryz.isAgg3
  z3 := Tryz.sizeOf3
  v3 := Tryz.zeroValue3
  t4 := Tryz.underlying4
  a4 := Tryz.isAgg4
  z4 := Tryz.sizeOf4
  v4 := Tryz.zeroValue4
  t5 := Tryz.underlying5
  a5 := Tryz.isAgg5
  z5 := Tryz.sizeOf5
  v5 := Tryz.zeroValue5
  t9 := Tryz.underlying9
  a9 := Tryz.isAgg9
  z9 := Tryz.sizeOf9
  v9 := Tryz.zeroValue9
  t21 := Tryz.underlying21
  a21 := Tryz.isAgg21
  z21 := Tryz.sizeOf21
  v21 := Tryz.zeroValue21
  t46 := Tryz.underlying130
  a46 := Tryz.isAgg130
  z46 := Tryz.sizeOf130
  v46 := Tryz.zeroValue130
  t105 := Tryz.underlying125
  a105 := Tryz.isAgg125
  z105 := Tryz.sizeOf125
  v105 := Tryz.zeroValue125
  t116 := Tryz.underlying140
  a116 := Tryz.isAgg140
  z116 := Tryz.sizeOf140
  t117 := Tryz.underlying141
  a117 := Tryz.isAgg141
  z117 := Tryz.sizeOf141
  v117 := Tryz.zeroValue141
  t119 := Tryz.underlying163
  a119 := Tryz.isAgg163
  z119 := Tryz.sizeOf163
  t124 := Tryz.underlying144
  a124 := Tryz.isAgg144
  z124 := Tryz.sizeOf144
  v124 := Tryz.zeroValue144
  t138 := Tryz.underlying165
  a138 := Tryz.isAgg165
  z138 := Tryz.sizeOf165
  v138 := Tryz.zeroValue165
  t139 := Tryz.underlying166
  a139 := Tryz.isAgg166
  z139 := Tryz.sizeOf166
  v139 := Tryz.zeroValue166
  g3 := by kernel_rfl
  g4 := by kernel_rfl }
open Go.RowKit in
theorem Tryz.strings_TrimRight_one (s : ByteArray) (c : UInt8) (hc : c.toNat < 128) (w : World) (hs : s.size ≤ 9223372036854775807) :
    Calls Tryz.prog 126 #[.string s, .string ⟨#[c]⟩] w fun e w' => e = .returned (.string ⟨(Lib.trimRightB s.data.toList c).toArray⟩) ∧ w' = w := Any.strings_TrimRight_one Tryz.lays162 s c hc w hs
def Tryz.lays137_ren : Go.Shelf.Ren := ⟨fun | 137 => 187 | 217 => 212 | 266 => 223 | n => n, fun | 9 => 9 | 5 => 5 | 3 => 3 | n => n, fun | n => n⟩
theorem Tryz.lays137 : Go.Proofs.Lays.n137 Tryz.prog Tryz.lays137_ren := {
  mixed := by kernel_rfl
  f137 := Tryz.func187.trans (congrArg some (by kernel_rfl))
  f217 := Tryz.func212.trans (congrArg some (by kernel_rfl))
  f266 := Tryz.func223.trans (congrArg some (by kernel_rfl))
  t3 := Tryz.underlying3
  a3 := Tryz.isAgg3
  z3 := Tryz.sizeOf3
  v3 := Tryz.zeroValue3
  t5 := Tryz.underlying5
  a5 := Tryz.isAgg5
  z5 := Tryz.sizeOf5
  v5 := Tryz.zeroValue5
  t9 := Tryz.underlying9
  a9 := Tryz.isAgg9
  z9 := Tryz.sizeOf9
  v9 := Tryz.zeroValue9 }
open Go.RowKit in
theorem Tryz.strings_IndexByte (s : ByteArray) (c : Int) (w : World) :
    Calls Tryz.prog 187 #[.string s, .int .u8 c] w fun e w' => e = .returned (.int .i64 (Lib.indexByte s.data.toList c.toNat.toUInt8)) ∧ w' = w := Any.strings_IndexByte Tryz.lays137 s c w
def Tryz.lays103_ren : Go.Shelf.Ren := ⟨fun | 103 => 150 | 210 => 186 | 206 => 195 | n => n, fun | 9 => 9 | 4 => 4 | 24 => 134 | 3 => 3 | n => n, fun | n => n⟩
theorem Tryz.lays103 : Go.Proofs.Lays.n103 Tryz.prog Tryz.lays103_ren := {
  mixed := by kernel_rfl
  f103 := Tryz.func150.trans (congrArg some (by kernel_rfl))
  f206 := Tryz.func195.trans (congrArg some (by kernel_rfl))
  f210 := Tryz.func186.trans (congrArg some (by kernel_rfl))
  t3 := Tryz.underlying3
  a3 := Tryz.isAgg3
  z3 := Tryz.sizeOf3
  v3 := Tryz.zeroValue3
  t4 := Tryz.underlying4
  a4 := Tryz.isAgg4
  z4 := Tryz.sizeOf4
  v4 := Tryz.zeroValue4
  t9 := Tryz.underlying9
  a9 := Tryz.isAgg9
  z9 := Tryz.sizeOf9
  v9 := Tryz.zeroValue9
  t24 := Tryz.underlying134
  a24 := Tryz.isAgg134
  z24 := Tryz.sizeOf134
  v24 := Tryz.zeroValue134 }
open Go.RowKit in
theorem Tryz.strings_CutPrefix (s p : ByteArray) (w : World) :
    Calls Tryz.prog 150 #[.string s, .string p] w fun e w' => e = .returned (.tuple #[.string ⟨(Lib.trimPrefix s.data.toList p.data.toList).toArray⟩, .bool (Lib.hasPrefix s.data.toList p.data.toList)]) ∧ w' = w := Any.strings_CutPrefix Tryz.lays103 s p w
def Tryz.lays242_ren : Go.Shelf.Ren := ⟨fun | 242 => 161 | 278 => 192 | n => n, fun | 37 => 50 | 21 => 21 | 51 => 159 | 4 => 4 | 5 => 5 | 46 => 130 | n => n, fun | n => n⟩
theorem Tryz.lays242 : Go.Proofs.Lays.n242 Tryz.prog Tryz.lays242_ren := {
  mixed := by kernel_rfl
  f242 := Tryz.func161.trans (congrArg some (by kernel_rfl))
  f278 := Tryz.func192.trans (congrArg some (by kernel_rfl))
  t4 := Tryz.underlying4
  a4 := Tryz.isAgg4
  z4 := Tryz.sizeOf4
  v4 := Tryz.zeroValue4
  t5 := Tryz.underlying5
  a5 := Tryz.isAgg5
  z5 := Tryz.sizeOf5
  v5 := Tryz.zeroValue5
  t21 := Tryz.underlying21
  a21 := Tryz.isAgg21
  z21 := Tryz.sizeOf21
  v21 := Tryz.zeroValue21
  t37 := Tryz.underlying50
  a37 := Tryz.isAgg50
  z37 := Tryz.sizeOf50
  v37 := Tryz.zeroValue50
  t46 := Tryz.underlying130
  a46 := Tryz.isAgg130
  z46 := Tryz.sizeOf130
  v46 := Tryz.zeroValue130
  t51 := Tryz.underlying159
  a51 := Tryz.isAgg159
  z51 := Tryz.sizeOf159
  v51 := Tryz.zeroValue159 }
open Go.RowKit in
theorem Tryz.utf8_AppendRune_plain (B : Nat) (v : Value) (n : Nat) (xs : List Value) (r : Int) (hr0 : -2147483648 ≤ r) (hr1 : r ≤ 2147483647) (w : World) (hown : w.ownsRow B 5 1 v n xs) (hlen : n + 4 ≤ 140737488355328) (hBw : B ≤ w.heap.size) :
    Calls Tryz.prog 161 #[v, .int .i32 r] w fun e w' => ∃ v', e = .returned v' ∧ w'.ownsRow B 5 1 v' (n + (Lib.runeCells r).length) (xs ++ Lib.runeCells r) ∧ ∃ o, (w.alloc o).grownBy w' v.ownBlock := Any.utf8_AppendRune_plain Tryz.lays242 (by kernel_rfl) B v n xs r hr0 hr1 w hown hlen hBw
def Tryz.laysM171_ren : Go.Shelf.Ren := ⟨fun | 171 => 92 | 243 => 123 | 246 => 149 | 283 => 182 | 284 => 183 | 285 => 184 | 286 => 185 | 129 => 177 | 317 => 208 | 318 => 209 | 319 => 210 | 320 => 211 | 337 => 221 | 338 => 222 | n => n, fun | 3 => 3 | 9 => 9 | 2 => 2 | 4 => 4 | 171 => 168 | 0 => 0 | 53 => 161 | 37 => 50 | 5 => 5 | 173 => 170 | 212 => 192 | 51 => 159 | 20 => 20 | 213 => 193 | 46 => 130 | 232 => 207 | 233 => 208 | n => n, fun | 17 => 3 | 18 => 6 | 19 => 7 | n => n⟩
theorem Tryz.laysM171 : Go.Proofs.LaysM.n171 Tryz.prog Tryz.laysM171_ren := {
  mixed := by kernel_rfl
  f129 := Tryz.func177.trans (congrArg some (by kernel_rfl))
  f171 := Tryz.func92.trans (congrArg some (by kernel_rfl))
  f243 := Tryz.func123.trans (congrArg some (by kernel_rfl))
  f246 := Tryz.func149.trans (congrArg some (by kernel_rfl))
  f283 := Tryz.func182.trans (congrArg some (by kernel_rfl))
  f284 := Tryz.func183.trans (congrArg some (by kernel_rfl))
  f285 := Tryz.func184.trans (congrArg some (by kernel_rfl))
  f286 := Tryz.func185.trans (congrArg some (by kernel_rfl))
  f317 := Tryz.func208.trans (congrArg some (by kernel_rfl))
  f318 := Tryz.func209.trans (congrArg some (by kernel_rfl))
  f319 := Tryz.func210.trans (congrArg some (by kernel_rfl))
  f320 := Tryz.func211.trans (congrArg some (by kernel_rfl))
  f337 := Tryz.func221.trans (congrArg some (by kernel_rfl))
  f338 := Tryz.func222.trans (congrArg some (by kernel_rfl))
  t0 := Tryz.underlying0
  a0 := Tryz.isAgg0
  z0 := Tryz.sizeOf0
  v0 := Tryz.zeroValue0
  t2 := Tryz.underlying2
  a2 := Tryz.isAgg2
  z2 := Tryz.sizeOf2
  v2 := Tryz.zeroValue2
  t3 := Tryz.underlying3
  a3 := Tryz.isAgg3
  z3 := Tryz.sizeOf3
  v3 := Tryz.zeroValue3
  t4 := Tryz.underlying4
  a4 := Tryz.isAgg4
  z4 := Tryz.sizeOf4
  v4 := Tryz.zeroValue4
  t5 := Tryz.underlying5
  a5 := Tryz.isAgg5
  z5 := Tryz.sizeOf5
  v5 := Tryz.zeroValue5
  t9 := Tryz.underlying9
  a9 := Tryz.isAgg9
  z9 := Tryz.sizeOf9
  v9 := Tryz.zeroValue9
  t20 := Tryz.underlying20
  a20 := Tryz.isAgg20
  z20 := Tryz.sizeOf20
  v20 := Tryz.zeroValue20
  t37 := Tryz.underlying50
  a37 := Tryz.isAgg50
  z37 := Tryz.sizeOf50
  v37 := Tryz.zeroValue50
  t46 := Tryz.underlying130
  a46 := Tryz.isAgg130
  z46 := Tryz.sizeOf130
  v46 := Tryz.zeroValue130
  t51 := Tryz.underlying159
  a51 := Tryz.isAgg159
  z51 := Tryz.sizeOf159
  v51 := Tryz.zeroValue159
  t53 := Tryz.underlying161
  a53 := Tryz.isAgg161
  z53 := Tryz.sizeOf161
  v53 := Tryz.zeroValue161
  t171 := Tryz.underlying168
  a171 := Tryz.isAgg168
  z171 := Tryz.sizeOf168
  v171 := Tryz.zeroValue168
  t173 := Tryz.underlying170
  a173 := Tryz.isAgg170
  z173 := Tryz.sizeOf170
  v173 := Tryz.zeroValue170
  t212 := Tryz.underlying192
  a212 := Tryz.isAgg192
  z212 := Tryz.sizeOf192
  v212 := Tryz.zeroValue192
  t213 := Tryz.underlying193
  a213 := Tryz.isAgg193
  z213 := Tryz.sizeOf193
  t232 := Tryz.underlying207
  a232 := Tryz.isAgg207
  z232 := Tryz.sizeOf207
  v232 := Tryz.zeroValue207
  t233 := Tryz.underlying208
  a233 := Tryz.isAgg208
  z233 := Tryz.sizeOf208
  v233 := Tryz.zeroValue208
  g17 := by kernel_rfl
  g18 := by kernel_rfl
  g19 := by kernel_rfl
  i0 := by kernel_rfl
  i2 := by kernel_rfl
  i3 := by kernel_rfl
  i4 := by kernel_rfl
  i5 := by kernel_rfl
  i9 := by kernel_rfl
  i20 := by kernel_rfl
  i37 := by kernel_rfl
  i46 := by kernel_rfl
  i51 := by kernel_rfl
  i53 := by kernel_rfl
  i171 := by kernel_rfl
  i173 := by kernel_rfl
  i212 := by kernel_rfl
  i232 := by kernel_rfl
  i233 := by kernel_rfl
  m17 := by kernel_rfl
  m18 := by kernel_rfl
  m19 := by kernel_rfl }
open Go.RowKit Go.Sort Go.Lib in
theorem Tryz.strconv_Itoa (n : Int) (h0 : -9223372036854775808 ≤ n) (h1 : n ≤ 9223372036854775807) (w : World) (htab : Lib.TabIs Tryz.prog w "internal/strconv.uint64pow10" .u64 Lib.pow10Tab) :
    Calls Tryz.prog 92 #[.int .i64 n] w fun e w' => e = .returned (.string ⟨(Lib.itoa n).toArray⟩) ∧ ∃ k os, w' = grow (w.drewN k) os := Any.strconv_Itoa Tryz.laysM171 n h0 h1 w htab
def Tryz.laysC174_ren : Go.Shelf.Ren := ⟨fun | 174 => 148 | 247 => 180 | 245 => 181 | 287 => 203 | 279 => 204 | 280 => 205 | 281 => 206 | 282 => 207 | 321 => 217 | 322 => 218 | 316 => 219 | 171 => 92 | 205 => 220 | 243 => 123 | 246 => 149 | 283 => 182 | 284 => 183 | 285 => 184 | 286 => 185 | 129 => 177 | 317 => 208 | 318 => 209 | 319 => 210 | 320 => 211 | 337 => 221 | 338 => 222 | n => n, fun | 9 => 9 | 3 => 3 | 2 => 2 | 75 => 69 | 85 => 132 | 4 => 4 | 167 => 185 | 5 => 5 | 53 => 161 | 175 => 186 | 46 => 130 | 168 => 188 | 37 => 50 | 0 => 0 | 210 => 201 | 21 => 21 | 127 => 75 | 145 => 206 | 143 => 204 | 171 => 168 | 173 => 170 | 212 => 192 | 51 => 159 | 20 => 20 | 213 => 193 | 232 => 207 | 233 => 208 | 80 => 56 | n => n, fun | 15 => 4 | 16 => 5 | 17 => 3 | 18 => 6 | 19 => 7 | n => n⟩
theorem Tryz.laysC174 : Go.Proofs.LaysC.n174 Tryz.prog Tryz.laysC174_ren := {
  mixed := by kernel_rfl
  f129 := Tryz.func177.trans (congrArg some (by kernel_rfl))
  f171 := Tryz.func92.trans (congrArg some (by kernel_rfl))
  f174 := Tryz.func148.trans (congrArg some (by kernel_rfl))
  f205 := Tryz.func220.trans (congrArg some (by kernel_rfl))
  f243 := Tryz.func123.trans (congrArg some (by kernel_rfl))
  f245 := Tryz.func181.trans (congrArg some (by kernel_rfl))
  f246 := Tryz.func149.trans (congrArg some (by kernel_rfl))
  f247 := Tryz.func180.trans (congrArg some (by kernel_rfl))
  f279 := Tryz.func204.trans (congrArg some (by kernel_rfl))
  f280 := Tryz.func205.trans (congrArg some (by kernel_rfl))
  f281 := Tryz.func206.trans (congrArg some (by kernel_rfl))
  f282 := Tryz.func207.trans (congrArg some (by kernel_rfl))
  f283 := Tryz.func182.trans (congrArg some (by kernel_rfl))
  f284 := Tryz.func183.trans (congrArg some (by kernel_rfl))
  f285 := Tryz.func184.trans (congrArg some (by kernel_rfl))
  f286 := Tryz.func185.trans (congrArg some (by kernel_rfl))
  f287 := Tryz.func203.trans (congrArg some (by kernel_rfl))
  f316 := Tryz.func219.trans (congrArg some (by kernel_rfl))
  f317 := Tryz.func208.trans (congrArg some (by kernel_rfl))
  f318 := Tryz.func209.trans (congrArg some (by kernel_rfl))
  f319 := Tryz.func210.trans (congrArg some (by kernel_rfl))
  f320 := Tryz.func211.trans (congrArg some (by kernel_rfl))
  f321 := Tryz.func217.trans (congrArg some (by kernel_rfl))
  f322 := Tryz.func218.trans (congrArg some (by kernel_rfl))
  f337 := Tryz.func221.trans (congrArg some (by kernel_rfl))
  f338 := Tryz.func222.trans (congrArg some (by kernel_rfl))
  t0 := Tryz.underlying0
  a0 := Tryz.isAgg0
  z0 := Tryz.sizeOf0
  v0 := Tryz.zeroValue0
  t2 := Tryz.underlying2
  a2 := Tryz.isAgg2
  z2 := Tryz.sizeOf2
  v2 := Tryz.zeroValue2
  t3 := Tryz.underlying3
  a3 := Tryz.isAgg3
  z3 := Tryz.sizeOf3
  v3 := Tryz.zeroValue3
  t4 := Tryz.underlying4
  a4 := Tryz.isAgg4
  z4 := Tryz.sizeOf4
  v4 := Tryz.zeroValue4
  t5 := Tryz.underlying5
  a5 := Tryz.isAgg5
  z5 := Tryz.sizeOf5
  v5 := Tryz.zeroValue5
  t9 := Tryz.underlying9
  a9 := Tryz.isAgg9
  z9 := Tryz.sizeOf9
  v9 := Tryz.zeroValue9
  t20 := Tryz.underlying20
  a20 := Tryz.isAgg20
  z20 := Tryz.sizeOf20
  v20 := Tryz.zeroValue20
  t21 := Tryz.underlying21
  a21 := Tryz.isAgg21
  z21 := Tryz.sizeOf21
  v21 := Tryz.zeroValue21
  t37 := Tryz.underlying50
  a37 := Tryz.isAgg50
  z37 := Tryz.sizeOf50
  v37 := Tryz.zeroValue50
  t46 := Tryz.underlying130
  a46 := Tryz.isAgg130
  z46 := Tryz.sizeOf130
  v46 := Tryz.zeroValue130
  t51 := Tryz.underlying159
  a51 := Tryz.isAgg159
  z51 := Tryz.sizeOf159
  v51 := Tryz.zeroValue159
  t53 := Tryz.underlying161
  a53 := Tryz.isAgg161
  z53 := Tryz.sizeOf161
  v53 := Tryz.zeroValue161
  t75 := Tryz.underlying69
  a75 := Tryz.isAgg69
  z75 := Tryz.sizeOf69
  v75 := Tryz.zeroValue69
  t85 := Tryz.underlying132
  a85 := Tryz.isAgg132
  z85 := Tryz.sizeOf132
  v85 := Tryz.zeroValue132
  t127 := Tryz.underlying75
  a127 := Tryz.isAgg75
  z127 := Tryz.sizeOf75
  v127 := Tryz.zeroValue75
  t143 := Tryz.underlying204
  a143 := Tryz.isAgg204
  z143 := Tryz.sizeOf204
  v143 := Tryz.zeroValue204
  t145 := Tryz.underlying206
  a145 := Tryz.isAgg206
  z145 := Tryz.sizeOf206
  v145 := Tryz.zeroValue206
  t167 := Tryz.underlying185
  a167 := Tryz.isAgg185
  z167 := Tryz.sizeOf185
  v167 := Tryz.zeroValue185
  t168 := Tryz.underlying188
  a168 := Tryz.isAgg188
  z168 := Tryz.sizeOf188
  v168 := Tryz.zeroValue188
  t171 := Tryz.underlying168
  a171 := Tryz.isAgg168
  z171 := Tryz.sizeOf168
  v171 := Tryz.zeroValue168
  t173 := Tryz.underlying170
  a173 := Tryz.isAgg170
  z173 := Tryz.sizeOf170
  v173 := Tryz.zeroValue170
  t175 := Tryz.underlying186
  a175 := Tryz.isAgg186
  z175 := Tryz.sizeOf186
  v175 := Tryz.zeroValue186
  t210 := Tryz.underlying201
  a210 := Tryz.isAgg201
  z210 := Tryz.sizeOf201
  v210 := Tryz.zeroValue201
  t212 := Tryz.underlying192
  a212 := Tryz.isAgg192
  z212 := Tryz.sizeOf192
  v212 := Tryz.zeroValue192
  t213 := Tryz.underlying193
  a213 := Tryz.isAgg193
  z213 := Tryz.sizeOf193
  t232 := Tryz.underlying207
  a232 := Tryz.isAgg207
  z232 := Tryz.sizeOf207
  v232 := Tryz.zeroValue207
  t233 := Tryz.underlying208
  a233 := Tryz.isAgg208
  z233 := Tryz.sizeOf208
  v233 := Tryz.zeroValue208
  g15 := by kernel_rfl
  g16 := by kernel_rfl
  g17 := by kernel_rfl
  g18 := by kernel_rfl
  g19 := by kernel_rfl
  t80 := Tryz.underlying56
  a80 := Tryz.isAgg56
  z80 := Tryz.sizeOf56
  v80 := Tryz.zeroValue56
  i0 := by kernel_rfl
  i2 := by kernel_rfl
  i3 := by kernel_rfl
  i4 := by kernel_rfl
  i5 := by kernel_rfl
  i9 := by kernel_rfl
  i20 := by kernel_rfl
  i21 := by kernel_rfl
  i37 := by kernel_rfl
  i46 := by kernel_rfl
  i51 := by kernel_rfl
  i53 := by kernel_rfl
  i75 := by kernel_rfl
  i80 := by kernel_rfl
  i85 := by kernel_rfl
  i127 := by kernel_rfl
  i143 := by kernel_rfl
  i145 := by kernel_rfl
  i167 := by kernel_rfl
  i168 := by kernel_rfl
  i171 := by kernel_rfl
  i173 := by kernel_rfl
  i175 := by kernel_rfl
  i210 := by kernel_rfl
  i212 := by kernel_rfl
  i232 := by kernel_rfl
  i233 := by kernel_rfl
  m15 := by kernel_rfl
  m16 := by kernel_rfl
  m17 := by kernel_rfl
  m18 := by kernel_rfl
  m19 := by kernel_rfl
  c0 := by kernel_rfl
  c2 := by kernel_rfl
  c3 := by kernel_rfl
  c4 := by kernel_rfl
  c5 := by kernel_rfl
  c9 := by kernel_rfl
  c20 := by kernel_rfl
  c21 := by kernel_rfl
  c37 := by kernel_rfl
  c46 := by kernel_rfl
  c51 := by kernel_rfl
  c53 := by kernel_rfl
  c75 := by kernel_rfl
  c80 := by kernel_rfl
  c85 := by kernel_rfl
  c127 := by kernel_rfl
  c143 := by kernel_rfl
  c145 := by kernel_rfl
  c167 := by kernel_rfl
  c168 := by kernel_rfl
  c171 := by kernel_rfl
  c173 := by kernel_rfl
  c175 := by kernel_rfl
  c210 := by kernel_rfl
  c212 := by kernel_rfl
  c213 := by kernel_rfl
  c232 := by kernel_rfl
  c233 := by kernel_rfl }
open Go.RowKit in
theorem Tryz.strconv_ParseInt_10_at64_ok (s : ByteArray) (hmax : s.size ≤ 9223372036854775806) (v : Int) (h : Lib.parseIntB 64 s.data.toList = .ok v) (w : World) :
    Calls Tryz.prog 148 #[.string s, .int .i64 10, .int .i64 64] w fun e w' => e = .returned (.tuple #[.int .i64 v, .nilIface]) ∧ (w' = w ∨ ∃ t, w' = Lib.bytesWorld w 5 t) := Any.strconv_ParseInt_10_at64_ok Tryz.laysC174 s hmax v h w
open Go.RowKit in
theorem Tryz.strconv_ParseInt_10_at64_range_var (s : ByteArray) (hlim : s.size ≤ 281474976710656) (h : Lib.parseIntB 64 s.data.toList = .range) (tp : TypeId) (p : Value) (w : World) (hvar : w.var? Tryz.prog "strconv.ErrRange" = some #[.iface tp p]) :
    Calls Tryz.prog 148 #[.string s, .int .i64 10, .int .i64 64] w fun e w' => ∃ N, e = .returned (.tuple #[.int .i64 (Lib.intSat 64 s.data.toList), .iface 188 (.pointer (some ⟨N, 0, none⟩))]) ∧ w.heap.size ≤ N ∧ w'.heap[N]? = some (.cells #[.string ⟨#[80, 97, 114, 115, 101, 73, 110, 116]⟩, .string s, .iface tp p] 201 (0, 0)) ∧ Below w.heap.size w w' := Any.strconv_ParseInt_10_at64_range_var Tryz.laysC174 s hlim h tp p w hvar
def Tryz.lays101_ren : Go.Shelf.Ren := ⟨fun | 101 => 152 | 208 => 188 | 206 => 195 | n => n, fun | 9 => 9 | 4 => 4 | 3 => 3 | n => n, fun | n => n⟩
theorem Tryz.lays101 : Go.Proofs.Lays.n101 Tryz.prog Tryz.lays101_ren := {
  mixed := by kernel_rfl
  f101 := Tryz.func152.trans (congrArg some (by kernel_rfl))
  f206 := Tryz.func195.trans (congrArg some (by kernel_rfl))
  f208 := Tryz.func188.trans (congrArg some (by kernel_rfl))
  t3 := Tryz.underlying3
  a3 := Tryz.isAgg3
  z3 := Tryz.sizeOf3
  v3 := Tryz.zeroValue3
  t4 := Tryz.underlying4
  a4 := Tryz.isAgg4
  z4 := Tryz.sizeOf4
  v4 := Tryz.zeroValue4
  t9 := Tryz.underlying9
  a9 := Tryz.isAgg9
  z9 := Tryz.sizeOf9
  v9 := Tryz.zeroValue9 }
open Go.RowKit Go.Lib in
theorem Tryz.strings_TrimPrefix (s p : ByteArray) (w : World) :
    Calls Tryz.prog 152 #[.string s, .string p] w fun e w' => e = .returned (.string ⟨(Lib.trimPrefix s.data.toList p.data.toList).toArray⟩) ∧ w' = w := Any.strings_TrimPrefix Tryz.lays101 s p w
def Tryz.lays197_ren : Go.Shelf.Ren := ⟨fun | 197 => 147 | 260 => 179 | n => n, fun | 9 => 9 | 21 => 21 | 3 => 3 | 4 => 4 | 5 => 5 | 105 => 125 | 119 => 163 | 0 => 0 | 46 => 130 | 139 => 166 | 138 => 165 | n => n, fun | 3 => 1 | 4 => 2 | n => n⟩
theorem Tryz.lays197 : Go.Proofs.Lays.n197 Tryz.prog Tryz.lays197_ren := {
  mixed := by kernel_rfl
  f197 := Tryz.func147.trans (congrArg some (by kernel_rfl))
  f260 := Tryz.func179.trans (congrArg some (by kernel_rfl))
  t0 := Tryz.underlying0
  a0 := Tryz.isAgg0
  z0 := Tryz.sizeOf0
  v0 := Tryz.zeroValue0
  t3 := Tryz.underlying3
  a3 := Tryz.isAgg3
  z3 := Tryz.sizeOf3
  v3 := Tryz.zeroValue3
  t4 := Tryz.underlying4
  a4 := Tryz.isAgg4
  z4 := Tryz.sizeOf4
  v4 := Tryz.zeroValue4
  t5 := Tryz.underlying5
  a5 := Tryz.isAgg5
  z5 := Tryz.sizeOf5
  v5 := Tryz.zeroValue5
  t9 := Tryz.underlying9
  a9 := Tryz.isAgg9
  z9 := Tryz.sizeOf9
  v9 := Tryz.zeroValue9
  t21 := Tryz.underlying21
  a21 := Tryz.isAgg21
  z21 := Tryz.sizeOf21
  v21 := Tryz.zeroValue21
  t46 := Tryz.underlying130
  a46 := Tryz.isAgg130
  z46 := Tryz.sizeOf130
  v46 := Tryz.zeroValue130
  t105 := Tryz.underlying125
  a105 := Tryz.isAgg125
  z105 := Tryz.sizeOf125
  v105 := Tryz.zeroValue125
  t119 := Tryz.underlying163
  a119 := Tryz.isAgg163
  z119 := Tryz.sizeOf163
  t138 := Tryz.underlying165
  a138 := Tryz.isAgg165
  z138 := Tryz.sizeOf165
  v138 := Tryz.zeroValue165
  t139 := Tryz.underlying166
  a139 := Tryz.isAgg166
  z139 := Tryz.sizeOf166
  v139 := Tryz.zeroValue166
  g3 := by kernel_rfl
  g4 := by kernel_rfl }
def Tryz.lays105_ren : Go.Shelf.Ren := ⟨fun | 105 => 140 | 212 => 162 | 99 => 163 | 165 => 164 | 166 => 73 | 170 => 165 | 169 => 53 | 263 => 193 | 264 => 194 | 206 => 195 | 240 => 109 | 241 => 196 | 276 => 136 | 277 => 215 | n => n, fun | 9 => 9 | 3 => 3 | 4 => 4 | 20 => 20 | 0 => 0 | 46 => 130 | 109 => 146 | 5 => 5 | 72 => 52 | 76 => 70 | 51 => 159 | 146 => 175 | 53 => 161 | 148 => 177 | 70 => 49 | 37 => 50 | 75 => 69 | 127 => 75 | 164 => 118 | 80 => 56 | n => n, fun | n => n⟩
theorem Tryz.lays105 : Go.Proofs.Lays.n105 Tryz.prog Tryz.lays105_ren := {
  mixed := by kernel_rfl
  f99 := Tryz.func163.trans (congrArg some (by kernel_rfl))
  f105 := Tryz.func140.trans (congrArg some (by kernel_rfl))
  f165 := Tryz.func164.trans (congrArg some (by kernel_rfl))
  f166 := Tryz.func73.trans (congrArg some (by kernel_rfl))
  f169 := Tryz.func53.trans (congrArg some (by kernel_rfl))
  f170 := Tryz.func165.trans (congrArg some (by kernel_rfl))
  f206 := Tryz.func195.trans (congrArg some (by kernel_rfl))
  f212 := Tryz.func162.trans (congrArg some (by kernel_rfl))
  f240 := Tryz.func109.trans (congrArg some (by kernel_rfl))
  f241 := Tryz.func196.trans (congrArg some (by kernel_rfl))
  f263 := Tryz.func193.trans (congrArg some (by kernel_rfl))
  f264 := Tryz.func194.trans (congrArg some (by kernel_rfl))
  f276 := Tryz.func136.trans (congrArg some (by kernel_rfl))
  f277 := Tryz.func215.trans (congrArg some (by kernel_rfl))
  t0 := Tryz.underlying0
  a0 := Tryz.isAgg0
  z0 := Tryz.sizeOf0
  v0 := Tryz.zeroValue0
  t3 := Tryz.underlying3
  a3 := Tryz.isAgg3
  z3 := Tryz.sizeOf3
  v3 := Tryz.zeroValue3
  t4 := Tryz.underlying4
  a4 := Tryz.isAgg4
  z4 := Tryz.sizeOf4
  v4 := Tryz.zeroValue4
  t5 := Tryz.underlying5
  a5 := Tryz.isAgg5
  z5 := Tryz.sizeOf5
  v5 := Tryz.zeroValue5
  t9 := Tryz.underlying9
  a9 := Tryz.isAgg9
  z9 := Tryz.sizeOf9
  v9 := Tryz.zeroValue9
  t20 := Tryz.underlying20
  a20 := Tryz.isAgg20
  z20 := Tryz.sizeOf20
  v20 := Tryz.zeroValue20
  t37 := Tryz.underlying50
  a37 := Tryz.isAgg50
  z37 := Tryz.sizeOf50
  v37 := Tryz.zeroValue50
  t46 := Tryz.underlying130
  a46 := Tryz.isAgg130
  z46 := Tryz.sizeOf130
  v46 := Tryz.zeroValue130
  t51 := Tryz.underlying159
  a51 := Tryz.isAgg159
  z51 := Tryz.sizeOf159
  v51 := Tryz.zeroValue159
  t53 := Tryz.underlying161
  a53 := Tryz.isAgg161
  z53 := Tryz.sizeOf161
  v53 := Tryz.zeroValue161
  t70 := Tryz.underlying49
  a70 := Tryz.isAgg49
  z70 := Tryz.sizeOf49
  v70 := Tryz.zeroValue49
  t72 := Tryz.underlying52
  a72 := Tryz.isAgg52
  z72 := Tryz.sizeOf52
  v72 := Tryz.zeroValue52
  t75 := Tryz.underlying69
  a75 := Tryz.isAgg69
  z75 := Tryz.sizeOf69
  v75 := Tryz.zeroValue69
  t76 := Tryz.underlying70
  a76 := Tryz.isAgg70
  z76 := Tryz.sizeOf70
  v76 := Tryz.zeroValue70
  t109 := Tryz.underlying146
  a109 := Tryz.isAgg146
  z109 := Tryz.sizeOf146
  v109 := Tryz.zeroValue146
  t127 := Tryz.underlying75
  a127 := Tryz.isAgg75
  z127 := Tryz.sizeOf75
  v127 := Tryz.zeroValue75
  t146 := Tryz.underlying175
  a146 := Tryz.isAgg175
  z146 := Tryz.sizeOf175
  v146 := Tryz.zeroValue175
  t148 := Tryz.underlying177
  a148 := Tryz.isAgg177
  z148 := Tryz.sizeOf177
  v148 := Tryz.zeroValue177
  t164 := Tryz.underlying118
  a164 := Tryz.isAgg118
  z164 := Tryz.sizeOf118
  v164 := Tryz.zeroValue118 }
theorem Tryz.Builder_Extra_105 : Builder.Extra Tryz.prog Tryz.lays105_ren := {
  sizeBuilder := by kernel_rfl
  liesBuilder := by kernel_rfl
  t5 := Tryz.underlying5
  a5 := Tryz.isAgg5
  z5 := Tryz.sizeOf5
  v5 := Tryz.zeroValue5
  infoByte := by kernel_rfl
  cellsByte := by kernel_rfl
  sizeByte := by kernel_rfl
  neB5 := by decide }
open Go.RowKit Go.Lib in
theorem Tryz.strings_Repeat (s : ByteArray) (c : Nat) (w : World) (hc : c ≤ 9223372036854775807) (hlen : s.size * c ≤ 140737488355328) :
    Calls Tryz.prog 140 #[.string s, .int .i64 c] w fun e w' => e = .returned (.string ⟨(Lib.repeatL s.data.toList c).toArray⟩) ∧ Below w.heap.size w w' := Any.strings_Repeat Tryz.lays105 Tryz.Builder_Extra_105 s c w hc hlen
open Go.RowKit Go.Lib in
theorem Tryz.utf8_DecodeRuneInString (s : ByteArray) (w : World) (hT : Lib.Utf8Tabs 1 2 w) :
    Calls Tryz.prog 147 #[.string s] w fun e w' => e = .returned (.tuple #[.int .i32 (Lib.decodeGo s).1, .int .i64 (Lib.decodeGo s).2]) ∧ Below w.heap.size w w' := Any.utf8_DecodeRuneInString Tryz.lays197 s w hT
end Go.Proofs
