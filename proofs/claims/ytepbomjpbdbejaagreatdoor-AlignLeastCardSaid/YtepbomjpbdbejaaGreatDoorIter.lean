/- A part of the proof. -/
import Derived.Shelf.SlIter.Nil
import Derived.Shelf.SortM.Plain
import Derived.Shelf.SortM.SortNone
import Derived.Test.YtepbomjpbdbejaaGreatDoorProg
set_option linter.all false
namespace Go.Proofs
open Go.RowKit Go.Maps Go.Sort Go.Shelf
def Tryz.keys101_ren : Go.Shelf.Ren := ⟨fun | 7 => 101 | 10 => 130 | n => n, fun | 23 => 81 | 26 => 9 | 3 => 27 | 28 => 127 | 0 => 0 | 27 => 126 | 33 => 100 | 4 => 4 | n => n, fun  | n => n⟩
theorem Tryz.keys101 : Go.Proofs.SlLaysZ.n7 Tryz.prog Tryz.keys101_ren := {
  mixed := by kernel_rfl
  f7 := ⟨Tryz.f101.name, by kernel_rfl, Tryz.func101.trans (congrArg some (by kernel_rfl))⟩
  f10 := ⟨Tryz.f130.name, by kernel_rfl, Tryz.func130.trans (congrArg some (by kernel_rfl))⟩
  t0 := Tryz.underlying0
  a0 := Tryz.isAgg0
  z0 := Tryz.sizeOf0
  v0 := Tryz.zeroValue0
  t4 := Tryz.underlying4
  a4 := Tryz.isAgg4
  z4 := Tryz.sizeOf4
  v4 := Tryz.zeroValue4
  t23 := Tryz.underlying81
  a23 := Tryz.isAgg81
  z23 := Tryz.sizeOf81
  v23 := Tryz.zeroValue81
  t26 := Tryz.underlying9
  a26 := Tryz.isAgg9
  z26 := Tryz.sizeOf9
  v26 := Tryz.zeroValue9
  t27 := Tryz.underlying126
  a27 := Tryz.isAgg126
  z27 := Tryz.sizeOf126
  v27 := Tryz.zeroValue126
  t28 := Tryz.underlying127
  a28 := Tryz.isAgg127
  z28 := Tryz.sizeOf127
  v28 := Tryz.zeroValue127
  t33 := Tryz.underlying100
  a33 := Tryz.isAgg100
  z33 := Tryz.sizeOf100
  v33 := Tryz.zeroValue100 }
def Tryz.sorted100_ren : Go.Shelf.Ren := ⟨fun | 6 => 100 | 8 => 128 | 9 => 129 | 11 => 162 | 13 => 164 | 12 => 163 | 23 => 202 | 24 => 167 | 14 => 193 | 15 => 194 | 16 => 195 | 17 => 196 | 18 => 197 | 19 => 198 | 20 => 199 | 21 => 200 | 22 => 201 | 25 => 228 | 26 => 229 | 27 => 230 | 28 => 231 | 29 => 232 | 30 => 233 | 31 => 239 | n => n, fun | 26 => 9 | 28 => 127 | 24 => 25 | 0 => 0 | 3 => 3 | 37 => 183 | 48 => 204 | 50 => 169 | 4 => 4 | 40 => 225 | 39 => 224 | 45 => 122 | 5 => 5 | 9 => 9 | 51 => 249 | 55 => 109 | 57 => 262 | 58 => 263 | 33 => 100 | n => n, fun  | n => n⟩
theorem Tryz.sorted100 : Go.Proofs.SlLaysZ.n6 Tryz.prog Tryz.sorted100_ren := {
  mixed := by kernel_rfl
  f6 := ⟨Tryz.f100.name, by kernel_rfl, Tryz.func100.trans (congrArg some (by kernel_rfl))⟩
  f8 := ⟨Tryz.f128.name, by kernel_rfl, Tryz.func128.trans (congrArg some (by kernel_rfl))⟩
  f11 := ⟨Tryz.f162.name, by kernel_rfl, Tryz.func162.trans (congrArg some (by kernel_rfl))⟩
  t0 := Tryz.underlying0
  a0 := Tryz.isAgg0
  z0 := Tryz.sizeOf0
  v0 := Tryz.zeroValue0
  t24 := Tryz.underlying25
  a24 := Tryz.isAgg25
  z24 := Tryz.sizeOf25
  v24 := Tryz.zeroValue25
  t26 := Tryz.underlying9
  a26 := Tryz.isAgg9
  z26 := Tryz.sizeOf9
  v26 := Tryz.zeroValue9
  t28 := Tryz.underlying127
  a28 := Tryz.isAgg127
  z28 := Tryz.sizeOf127
  v28 := Tryz.zeroValue127
  i26 := by kernel_rfl }
def Tryz.sort129_ren : Go.Shelf.Ren := ⟨fun | 6 => 129 | 8 => 164 | 9 => 163 | 19 => 202 | 20 => 167 | 21 => 193 | 22 => 194 | 23 => 195 | 24 => 196 | 25 => 197 | 26 => 198 | 27 => 199 | 28 => 200 | 29 => 201 | 36 => 228 | 31 => 229 | 32 => 230 | 37 => 231 | 38 => 232 | 39 => 233 | 41 => 239 | n => n, fun | 27 => 25 | 29 => 9 | 3 => 3 | 32 => 183 | 26 => 25 | 0 => 0 | 44 => 204 | 46 => 169 | 4 => 4 | 36 => 225 | 35 => 224 | 41 => 122 | 5 => 5 | 9 => 9 | 53 => 249 | 57 => 109 | 63 => 262 | 64 => 263 | n => n, fun  | n => n⟩
theorem Tryz.sort129 : Go.Proofs.SlLaysM.n6 Tryz.prog Tryz.sort129_ren := {
  mixed := by kernel_rfl
  f6 := ⟨Tryz.f129.name, by kernel_rfl, Tryz.func129.trans (congrArg some (by kernel_rfl))⟩
  f8 := Tryz.func164.trans (congrArg some (by kernel_rfl))
  f9 := ⟨Tryz.f163.name, by kernel_rfl, Tryz.func163.trans (congrArg some (by kernel_rfl))⟩
  f19 := Tryz.func202.trans (congrArg some (by kernel_rfl))
  f20 := Tryz.func167.trans (congrArg some (by kernel_rfl))
  f21 := ⟨Tryz.f193.name, by kernel_rfl, Tryz.func193.trans (congrArg some (by kernel_rfl))⟩
  f22 := ⟨Tryz.f194.name, by kernel_rfl, Tryz.func194.trans (congrArg some (by kernel_rfl))⟩
  f23 := ⟨Tryz.f195.name, by kernel_rfl, Tryz.func195.trans (congrArg some (by kernel_rfl))⟩
  f24 := ⟨Tryz.f196.name, by kernel_rfl, Tryz.func196.trans (congrArg some (by kernel_rfl))⟩
  f25 := ⟨Tryz.f197.name, by kernel_rfl, Tryz.func197.trans (congrArg some (by kernel_rfl))⟩
  f26 := ⟨Tryz.f198.name, by kernel_rfl, Tryz.func198.trans (congrArg some (by kernel_rfl))⟩
  f27 := ⟨Tryz.f199.name, by kernel_rfl, Tryz.func199.trans (congrArg some (by kernel_rfl))⟩
  f28 := ⟨Tryz.f200.name, by kernel_rfl, Tryz.func200.trans (congrArg some (by kernel_rfl))⟩
  f29 := ⟨Tryz.f201.name, by kernel_rfl, Tryz.func201.trans (congrArg some (by kernel_rfl))⟩
  f31 := Tryz.func229.trans (congrArg some (by kernel_rfl))
  f32 := Tryz.func230.trans (congrArg some (by kernel_rfl))
  f36 := ⟨Tryz.f228.name, by kernel_rfl, Tryz.func228.trans (congrArg some (by kernel_rfl))⟩
  f37 := ⟨Tryz.f231.name, by kernel_rfl, Tryz.func231.trans (congrArg some (by kernel_rfl))⟩
  f38 := ⟨Tryz.f232.name, by kernel_rfl, Tryz.func232.trans (congrArg some (by kernel_rfl))⟩
  f39 := ⟨Tryz.f233.name, by kernel_rfl, Tryz.func233.trans (congrArg some (by kernel_rfl))⟩
  f41 := ⟨Tryz.f239.name, by kernel_rfl, Tryz.func239.trans (congrArg some (by kernel_rfl))⟩
  t0 := Tryz.underlying0
  a0 := Tryz.isAgg0
  z0 := Tryz.sizeOf0
  v0 := Tryz.zeroValue0
  t3 := Tryz.underlying3
  a3 := Tryz.isAgg3
  z3 := Tryz.sizeOf3
  v3 := Tryz.zeroValue3
  t4 := Tryz.underlying4
  a4 := Tryz.isAgg4
  z4 := Tryz.sizeOf4
  v4 := Tryz.zeroValue4
  t5 := Tryz.underlying5
  a5 := Tryz.isAgg5
  z5 := Tryz.sizeOf5
  v5 := Tryz.zeroValue5
  t9 := Tryz.underlying9
  a9 := Tryz.isAgg9
  z9 := Tryz.sizeOf9
  v9 := Tryz.zeroValue9
  t26 := Tryz.underlying25
  a26 := Tryz.isAgg25
  z26 := Tryz.sizeOf25
  v26 := Tryz.zeroValue25
  t27 := Tryz.underlying25
  a27 := Tryz.isAgg25
  z27 := Tryz.sizeOf25
  v27 := Tryz.zeroValue25
  t29 := Tryz.underlying9
  a29 := Tryz.isAgg9
  z29 := Tryz.sizeOf9
  v29 := Tryz.zeroValue9
  t32 := Tryz.underlying183
  a32 := Tryz.isAgg183
  z32 := Tryz.sizeOf183
  v32 := Tryz.zeroValue183
  t35 := Tryz.underlying224
  a35 := Tryz.isAgg224
  z35 := Tryz.sizeOf224
  v35 := Tryz.zeroValue224
  t36 := Tryz.underlying225
  a36 := Tryz.isAgg225
  z36 := Tryz.sizeOf225
  v36 := Tryz.zeroValue225
  t41 := Tryz.underlying122
  a41 := Tryz.isAgg122
  z41 := Tryz.sizeOf122
  v41 := Tryz.zeroValue122
  t44 := Tryz.underlying204
  a44 := Tryz.isAgg204
  z44 := Tryz.sizeOf204
  v44 := Tryz.zeroValue204
  t46 := Tryz.underlying169
  a46 := Tryz.isAgg169
  z46 := Tryz.sizeOf169
  v46 := Tryz.zeroValue169
  t53 := Tryz.underlying249
  a53 := Tryz.isAgg249
  z53 := Tryz.sizeOf249
  v53 := Tryz.zeroValue249
  t57 := Tryz.underlying109
  a57 := Tryz.isAgg109
  z57 := Tryz.sizeOf109
  v57 := Tryz.zeroValue109
  t63 := Tryz.underlying262
  a63 := Tryz.isAgg262
  z63 := Tryz.sizeOf262
  v63 := Tryz.zeroValue262
  t64 := Tryz.underlying263
  a64 := Tryz.isAgg263
  z64 := Tryz.sizeOf263
  v64 := Tryz.zeroValue263 }
theorem Tryz.sorts80 (m : Nat) : AnyZ.SortsIn Tryz.prog Tryz.sorted100_ren Fence.wide m :=
  ⟨fun blk off cap ss W hH hblk hsz => callsIn_wide.2 (AnyM.slices_Sort_string Tryz.sort129 blk off cap ss W hH hblk hsz),
   fun p cap W => callsIn_wide.2 (AnyM.slices_Sort_string_none Tryz.sort129 p cap W)⟩
theorem Tryz.maps_Keys_101 (mb : Option Nat) (W : World) : CallsIn Fence.wide 5 Tryz.prog 101 #[.map mb] W fun e w' => e = .returned (.func (.func 130) #[] #[.pointer (some ⟨W.heap.size, 0, none⟩)]) ∧ w' = W.alloc (.cells #[.map mb] 81) :=
  AnyZ.keys_in Tryz.keys101 Fence.wide 5 trivial rfl mb W
set_option maxHeartbeats 1000000 in
theorem Tryz.slices_Sorted_keys_100_101 {H : Type} (b nn : Nat) (D0 : DataW H) (R : Value → Option (DataW H × List MemPlace)) (w : World) (hown : w.ownsMap Tryz.prog 9 R b nn D0) (hmax : Maps.size D0 ≤ maxLen) (hbytes : Maps.size D0 * 16 ≤ 140737488355328) :
    CallsIn Fence.wide 5 Tryz.prog 100 #[.func (.func 130) #[] #[.pointer (some ⟨w.heap.size, 0, none⟩)]] (w.alloc (.cells #[.map (some b)] 81)) fun e w' => ∃ (v : Value) (ss : List (List UInt8)), e = .returned v ∧ ss.Perm (strKeys D0) ∧
      w'.ownsRow (w.alloc (.cells #[.map (some b)] 81)).heap.size 9 1 v ss.length ((ss.mergeSort (fun x y => decide (x ≤ y))).map encStr) ∧ (v = .slice none 0 0 ↔ ss = []) ∧ Below (w.alloc (.cells #[.map (some b)] 81)).heap.size (w.alloc (.cells #[.map (some b)] 81)) w' := by
  have hbl := hown.lt
  have hseq : SeqGives Fence.wide 2 Tryz.prog 130 #[.pointer (some ⟨w.heap.size, 0, none⟩)] encStr (fun ss => ss.Perm (strKeys D0)) (Maps.size D0) (w.alloc (.cells #[.map (some b)] 81)) :=
    AnyZ.keys_gives (ρ := Tryz.keys101_ren) { Tryz.keys101 with } Fence.wide _ trivial rfl (by omega) w.heap.size b nn D0 _ (by simp) (by simp) (by
      obtain ⟨es, clock, hb, Ft, hs, hD⟩ := hown
      exact ⟨es, clock, (Below.heap_alloc _ _ b hbl).trans hb, Ft, hs, hD⟩)
  exact AnyZ.sorted_in Tryz.sorted100 Fence.wide 5 trivial trivial trivial trivial rfl (by omega) (Tryz.sorts80 _) (enters_of Tryz.func129 (by kernel_rfl) rfl) 130 #[.pointer (some ⟨w.heap.size, 0, none⟩)] trivial (enters_of Tryz.func130 (by kernel_rfl) rfl) _ _ hmax hbytes _ hseq
end Go.Proofs
