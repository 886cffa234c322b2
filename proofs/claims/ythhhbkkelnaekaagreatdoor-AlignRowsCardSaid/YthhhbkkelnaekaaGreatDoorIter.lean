/- A part of the proof. -/
import Derived.Shelf.SlIter.Nil
import Derived.Shelf.SortM.Plain
import Derived.Shelf.SortM.SortNone
import Derived.Test.YthhhbkkelnaekaaGreatDoorProg
set_option linter.all false
namespace Go.Proofs
open Go.RowKit Go.Maps Go.Sort Go.Shelf
def Tryz.keys99_ren : Go.Shelf.Ren := ⟨fun | 7 => 99 | 10 => 127 | n => n, fun | 23 => 127 | 26 => 9 | 3 => 27 | 28 => 131 | 0 => 0 | 27 => 130 | 33 => 87 | 4 => 4 | n => n, fun  | n => n⟩
theorem Tryz.keys99 : Go.Proofs.SlLaysZ.n7 Tryz.prog Tryz.keys99_ren := {
  mixed := by kernel_rfl
  f7 := ⟨Tryz.f99.name, by kernel_rfl, Tryz.func99.trans (congrArg some (by kernel_rfl))⟩
  f10 := ⟨Tryz.f127.name, by kernel_rfl, Tryz.func127.trans (congrArg some (by kernel_rfl))⟩
  t0 := Tryz.underlying0
  a0 := Tryz.isAgg0
  z0 := Tryz.sizeOf0
  v0 := Tryz.zeroValue0
  t4 := Tryz.underlying4
  a4 := Tryz.isAgg4
  z4 := Tryz.sizeOf4
  v4 := Tryz.zeroValue4
  t23 := Tryz.underlying127
  a23 := Tryz.isAgg127
  z23 := Tryz.sizeOf127
  v23 := Tryz.zeroValue127
  t26 := Tryz.underlying9
  a26 := Tryz.isAgg9
  z26 := Tryz.sizeOf9
  v26 := Tryz.zeroValue9
  t27 := Tryz.underlying130
  a27 := Tryz.isAgg130
  z27 := Tryz.sizeOf130
  v27 := Tryz.zeroValue130
  t28 := Tryz.underlying131
  a28 := Tryz.isAgg131
  z28 := Tryz.sizeOf131
  v28 := Tryz.zeroValue131
  t33 := Tryz.underlying87
  a33 := Tryz.isAgg87
  z33 := Tryz.sizeOf87
  v33 := Tryz.zeroValue87 }
def Tryz.sorted98_ren : Go.Shelf.Ren := ⟨fun | 6 => 98 | 8 => 125 | 9 => 126 | 11 => 158 | 13 => 160 | 12 => 159 | 23 => 195 | 24 => 137 | 14 => 186 | 15 => 187 | 16 => 188 | 17 => 189 | 18 => 190 | 19 => 191 | 20 => 192 | 21 => 193 | 22 => 194 | 25 => 215 | 26 => 216 | 27 => 217 | 28 => 218 | 29 => 219 | 30 => 220 | 31 => 226 | n => n, fun | 26 => 9 | 28 => 131 | 24 => 25 | 0 => 0 | 3 => 3 | 37 => 176 | 48 => 173 | 50 => 142 | 4 => 4 | 40 => 220 | 39 => 219 | 45 => 124 | 5 => 5 | 9 => 9 | 51 => 243 | 55 => 104 | 57 => 254 | 58 => 255 | 33 => 87 | n => n, fun  | n => n⟩
theorem Tryz.sorted98 : Go.Proofs.SlLaysZ.n6 Tryz.prog Tryz.sorted98_ren := {
  mixed := by kernel_rfl
  f6 := ⟨Tryz.f98.name, by kernel_rfl, Tryz.func98.trans (congrArg some (by kernel_rfl))⟩
  f8 := ⟨Tryz.f125.name, by kernel_rfl, Tryz.func125.trans (congrArg some (by kernel_rfl))⟩
  f11 := ⟨Tryz.f158.name, by kernel_rfl, Tryz.func158.trans (congrArg some (by kernel_rfl))⟩
  t0 := Tryz.underlying0
  a0 := Tryz.isAgg0
  z0 := Tryz.sizeOf0
  v0 := Tryz.zeroValue0
  t24 := Tryz.underlying25
  a24 := Tryz.isAgg25
  z24 := Tryz.sizeOf25
  v24 := Tryz.zeroValue25
  t26 := Tryz.underlying9
  a26 := Tryz.isAgg9
  z26 := Tryz.sizeOf9
  v26 := Tryz.zeroValue9
  t28 := Tryz.underlying131
  a28 := Tryz.isAgg131
  z28 := Tryz.sizeOf131
  v28 := Tryz.zeroValue131
  i26 := by kernel_rfl }
def Tryz.sort126_ren : Go.Shelf.Ren := ⟨fun | 6 => 126 | 8 => 160 | 9 => 159 | 19 => 195 | 20 => 137 | 21 => 186 | 22 => 187 | 23 => 188 | 24 => 189 | 25 => 190 | 26 => 191 | 27 => 192 | 28 => 193 | 29 => 194 | 36 => 215 | 31 => 216 | 32 => 217 | 37 => 218 | 38 => 219 | 39 => 220 | 41 => 226 | n => n, fun | 27 => 25 | 29 => 9 | 3 => 3 | 32 => 176 | 26 => 25 | 0 => 0 | 44 => 173 | 46 => 142 | 4 => 4 | 36 => 220 | 35 => 219 | 41 => 124 | 5 => 5 | 9 => 9 | 53 => 243 | 57 => 104 | 63 => 254 | 64 => 255 | n => n, fun  | n => n⟩
theorem Tryz.sort126 : Go.Proofs.SlLaysM.n6 Tryz.prog Tryz.sort126_ren := {
  mixed := by kernel_rfl
  f6 := ⟨Tryz.f126.name, by kernel_rfl, Tryz.func126.trans (congrArg some (by kernel_rfl))⟩
  f8 := Tryz.func160.trans (congrArg some (by kernel_rfl))
  f9 := ⟨Tryz.f159.name, by kernel_rfl, Tryz.func159.trans (congrArg some (by kernel_rfl))⟩
  f19 := Tryz.func195.trans (congrArg some (by kernel_rfl))
  f20 := Tryz.func137.trans (congrArg some (by kernel_rfl))
  f21 := ⟨Tryz.f186.name, by kernel_rfl, Tryz.func186.trans (congrArg some (by kernel_rfl))⟩
  f22 := ⟨Tryz.f187.name, by kernel_rfl, Tryz.func187.trans (congrArg some (by kernel_rfl))⟩
  f23 := ⟨Tryz.f188.name, by kernel_rfl, Tryz.func188.trans (congrArg some (by kernel_rfl))⟩
  f24 := ⟨Tryz.f189.name, by kernel_rfl, Tryz.func189.trans (congrArg some (by kernel_rfl))⟩
  f25 := ⟨Tryz.f190.name, by kernel_rfl, Tryz.func190.trans (congrArg some (by kernel_rfl))⟩
  f26 := ⟨Tryz.f191.name, by kernel_rfl, Tryz.func191.trans (congrArg some (by kernel_rfl))⟩
  f27 := ⟨Tryz.f192.name, by kernel_rfl, Tryz.func192.trans (congrArg some (by kernel_rfl))⟩
  f28 := ⟨Tryz.f193.name, by kernel_rfl, Tryz.func193.trans (congrArg some (by kernel_rfl))⟩
  f29 := ⟨Tryz.f194.name, by kernel_rfl, Tryz.func194.trans (congrArg some (by kernel_rfl))⟩
  f31 := Tryz.func216.trans (congrArg some (by kernel_rfl))
  f32 := Tryz.func217.trans (congrArg some (by kernel_rfl))
  f36 := ⟨Tryz.f215.name, by kernel_rfl, Tryz.func215.trans (congrArg some (by kernel_rfl))⟩
  f37 := ⟨Tryz.f218.name, by kernel_rfl, Tryz.func218.trans (congrArg some (by kernel_rfl))⟩
  f38 := ⟨Tryz.f219.name, by kernel_rfl, Tryz.func219.trans (congrArg some (by kernel_rfl))⟩
  f39 := ⟨Tryz.f220.name, by kernel_rfl, Tryz.func220.trans (congrArg some (by kernel_rfl))⟩
  f41 := ⟨Tryz.f226.name, by kernel_rfl, Tryz.func226.trans (congrArg some (by kernel_rfl))⟩
  t0 := Tryz.underlying0
  a0 := Tryz.isAgg0
  z0 := Tryz.sizeOf0
  v0 := Tryz.zeroValue0
  t3 := Tryz.underlying3
  a3 := Tryz.isAgg3
  z3 := Tryz.sizeOf3
  v3 := Tryz.zeroValue3
  t4 := Tryz.underlying4
  a4 := Tryz.isAgg4
  z4 := Tryz.sizeOf4
  v4 := Tryz.zeroValue4
  t5 := Tryz.underlying5
  a5 := Tryz.isAgg5
  z5 := Tryz.sizeOf5
  v5 := Tryz.zeroValue5
  t9 := Tryz.underlying9
  a9 := Tryz.isAgg9
  z9 := Tryz.sizeOf9
  v9 := Tryz.zeroValue9
  t26 := Tryz.underlying25
  a26 := Tryz.isAgg25
  z26 := Tryz.sizeOf25
  v26 := Tryz.zeroValue25
  t27 := Tryz.underlying25
  a27 := Tryz.isAgg25
  z27 := Tryz.sizeOf25
  v27 := Tryz.zeroValue25
  t29 := Tryz.underlying9
  a29 := Tryz.isAgg9
  z29 := Tryz.sizeOf9
  v29 := Tryz.zeroValue9
  t32 := Tryz.underlying176
  a32 := Tryz.isAgg176
  z32 := Tryz.sizeOf176
  v32 := Tryz.zeroValue176
  t35 := Tryz.underlying219
  a35 := Tryz.isAgg219
  z35 := Tryz.sizeOf219
  v35 := Tryz.zeroValue219
  t36 := Tryz.underlying220
  a36 := Tryz.isAgg220
  z36 := Tryz.sizeOf220
  v36 := Tryz.zeroValue220
  t41 := Tryz.underlying124
  a41 := Tryz.isAgg124
  z41 := Tryz.sizeOf124
  v41 := Tryz.zeroValue124
  t44 := Tryz.underlying173
  a44 := Tryz.isAgg173
  z44 := Tryz.sizeOf173
  v44 := Tryz.zeroValue173
  t46 := Tryz.underlying142
  a46 := Tryz.isAgg142
  z46 := Tryz.sizeOf142
  v46 := Tryz.zeroValue142
  t53 := Tryz.underlying243
  a53 := Tryz.isAgg243
  z53 := Tryz.sizeOf243
  v53 := Tryz.zeroValue243
  t57 := Tryz.underlying104
  a57 := Tryz.isAgg104
  z57 := Tryz.sizeOf104
  v57 := Tryz.zeroValue104
  t63 := Tryz.underlying254
  a63 := Tryz.isAgg254
  z63 := Tryz.sizeOf254
  v63 := Tryz.zeroValue254
  t64 := Tryz.underlying255
  a64 := Tryz.isAgg255
  z64 := Tryz.sizeOf255
  v64 := Tryz.zeroValue255 }
theorem Tryz.sorts80 (m : Nat) : AnyZ.SortsIn Tryz.prog Tryz.sorted98_ren Fence.wide m :=
  ⟨fun blk off cap ss W hH hblk hsz => callsIn_wide.2 (AnyM.slices_Sort_string Tryz.sort126 blk off cap ss W hH hblk hsz),
   fun p cap W => callsIn_wide.2 (AnyM.slices_Sort_string_none Tryz.sort126 p cap W)⟩
theorem Tryz.maps_Keys_99 (mb : Option Nat) (W : World) : CallsIn Fence.wide 5 Tryz.prog 99 #[.map mb] W fun e w' => e = .returned (.func (.func 127) #[] #[.pointer (some ⟨W.heap.size, 0, none⟩)]) ∧ w' = W.alloc (.cells #[.map mb] 127) :=
  AnyZ.keys_in Tryz.keys99 Fence.wide 5 trivial rfl mb W
set_option maxHeartbeats 1000000 in
theorem Tryz.slices_Sorted_keys_98_99 {H : Type} (b nn : Nat) (D0 : DataW H) (R : Value → Option (DataW H × List MemPlace)) (w : World) (hown : w.ownsMap Tryz.prog 9 R b nn D0) (hmax : Maps.size D0 ≤ maxLen) (hbytes : Maps.size D0 * 16 ≤ 140737488355328) :
    CallsIn Fence.wide 5 Tryz.prog 98 #[.func (.func 127) #[] #[.pointer (some ⟨w.heap.size, 0, none⟩)]] (w.alloc (.cells #[.map (some b)] 127)) fun e w' => ∃ (v : Value) (ss : List (List UInt8)), e = .returned v ∧ ss.Perm (strKeys D0) ∧
      w'.ownsRow (w.alloc (.cells #[.map (some b)] 127)).heap.size 9 1 v ss.length ((ss.mergeSort (fun x y => decide (x ≤ y))).map encStr) ∧ (v = .slice none 0 0 ↔ ss = []) ∧ Below (w.alloc (.cells #[.map (some b)] 127)).heap.size (w.alloc (.cells #[.map (some b)] 127)) w' := by
  have hbl := hown.lt
  have hseq : SeqGives Fence.wide 2 Tryz.prog 127 #[.pointer (some ⟨w.heap.size, 0, none⟩)] encStr (fun ss => ss.Perm (strKeys D0)) (Maps.size D0) (w.alloc (.cells #[.map (some b)] 127)) :=
    AnyZ.keys_gives (ρ := Tryz.keys99_ren) { Tryz.keys99 with } Fence.wide _ trivial rfl (by omega) w.heap.size b nn D0 _ (by simp) (by simp) (by
      obtain ⟨es, clock, hb, Ft, hs, hD⟩ := hown
      exact ⟨es, clock, (Below.heap_alloc _ _ b hbl).trans hb, Ft, hs, hD⟩)
  exact AnyZ.sorted_in Tryz.sorted98 Fence.wide 5 trivial trivial trivial trivial rfl (by omega) (Tryz.sorts80 _) (enters_of Tryz.func126 (by kernel_rfl) rfl) 127 #[.pointer (some ⟨w.heap.size, 0, none⟩)] trivial (enters_of Tryz.func127 (by kernel_rfl) rfl) _ _ hmax hbytes _ hseq
end Go.Proofs
