/- A part of the proof. -/
import Derived.Test.YtepbomjpbdbejaaGreatDoorA14
import Derived.Test.YtepbomjpbdbejaaGreatDoorW19
set_option linter.all false
set_option maxHeartbeats 8000000
set_option maxRecDepth 10000
namespace Go.Scarf
open Go.RowKit Go.Proofs Go.Proofs.Tryz
theorem Lq (n : Int) (m : List (Int × Int)) (hm : ∀ z ∈ m, z.2 ≤ 9223372036854775807) : Dh n m = Mf n m 9223372036854775807 := by
  unfold Dh Mf Hh
  rw [← Sv]
  cases hg : m.getLast? with
  | none => cases Zh n (-1, -1) m <;> by_cases h1 : (0 : Int) ≤ n <;> by_cases h2 : n ≤ 64 <;> simp [h1, h2]
  | some z =>
    have h6 := hm z (List.mem_of_getLast? hg)
    have h7 : decide (z.2 = 9223372036854775807) = decide ((9223372036854775807 : Int) ≤ z.2) := decide_eq_decide.2 by_Om
    simp only
    rw [h7]
    cases Zh n (-1, -1) m <;> by_cases h1 : (0 : Int) ≤ n <;> by_cases h2 : n ≤ 64 <;> by_cases h5 : (9223372036854775807 : Int) ≤ z.2 <;> simp [h1, h2, h5]
theorem Y2 {n : Int} {m : List (Int × Int)} (h : Dh n m = true) (hm : ∀ z ∈ m, z.2 ≤ 9223372036854775807) : ∃ (k : Nat) (mp : List (Nat × Nat)), n = (k : Int) ∧ k ≤ 64 ∧ m = Zb mp ∧ Hh k (Zb mp) = true ∧ ∀ z ∈ mp, z.1 < k ∧ (z.2 : Int) < 9223372036854775807 := by
  have h0 := h
  unfold Dh at h
  simp only [Bool.and_eq_true] at h
  obtain ⟨h1, h4⟩ := h
  have h1' := h1
  unfold Hh at h1'
  simp only [Bool.and_eq_true, decide_eq_true_eq] at h1'
  obtain ⟨k, rfl⟩ : ∃ k : Nat, n = (k : Int) := ⟨n.toNat, by omega⟩
  have hl : ∀ z, m.getLast? = some z → z.2 < (9223372036854775807 : Int) := fun z hz => by
    have h5 := hm z (List.mem_of_getLast? hz)
    rw [hz] at h4
    simp only [Bool.not_eq_true', decide_eq_false_iff_not] at h4
    omega
  obtain ⟨mp, rfl, hr⟩ := Ot (n := k) (size := 9223372036854775807) m (-1) (-1) by_Om by_Om by_Om h1'.1 hl
  exact ⟨k, mp, rfl, by omega, rfl, h1, fun z hz => by have := hr.all z hz; omega⟩
theorem EB (n : Int) (m : List (Int × Int)) (size : Int) (hml : m.length ≤ 100) : ∃ (N : Nat) (G : Nat → List Int), N ≤ 65 ∧ (∀ (S : Nat → Prop) (w : World) (A : Option Addr) (c : Nat), Rep S w (Re m) [.slice A m.length c] → Calls prog 15 #[.int .i64 n, .slice A m.length c, .int .i64 size] w (Md fun v w' => ∃ (ob : Option Addr) (c' : Nat), v = .tuple #[.slice ob N c', .bool (Oi n m size)] ∧ Rep (fun _ => True) w' (Io N G) [.slice ob N c'] ∧ Same [] w w')) ∧ (∀ (S : Nat → Prop) (w : World) (A : Option Addr) (c : Nat), Rep S w (Re m) [.slice A m.length c] → Calls prog 16 #[.int .i64 n, .slice A m.length c, .int .i64 size] w (Md fun v w' => ∃ (ob : Option Addr) (c' : Nat), v = .tuple #[.slice ob N c', .bool (Oi n m size)] ∧ Rep (fun _ => True) w' (Io N G) [.slice ob N c'] ∧ Same [] w w')) := by
  by_cases h : Oi n m size = true
  · obtain ⟨k, s, mp, rfl, rfl, hk, hs, rfl, hr, hb, -⟩ := K7 h
    rw [h]
    have hrt : Mf k (Zb mp) s = true := by have := h; rw [Qk] at this; simp only [Bool.and_eq_true] at this; exact this.1
    refine ⟨k + 1, Fe k s mp 0 fun _ => [], by omega, fun S w A c hX => ?_, fun S w A c hX => ?_⟩
    · exact Ue (Is S w k mp A c hX hb hk (by rwa [Jl] at hml) s hs hr.all) fun v w' ⟨ob, e, h1, h2⟩ => ⟨_, _, e, h1.weaken fun _ _ _ => trivial, h2⟩
    · exact Ue (TA S w k mp A c hX s hrt hk hs hr.all hr) fun v w' ⟨ob, e, h1, h2⟩ => ⟨_, _, e, h1.weaken fun _ _ _ => trivial, h2⟩
  · have hno : Oi n m size = false := by simpa using h
    rw [hno]
    refine ⟨0, fun _ => [], by omega, fun S w A c hX => ?_, fun S w A c hX => ?_⟩
    · exact Ue (HG S w n m A c hX size hno) fun v w' ⟨e, h2⟩ => ⟨_, _, e, Rep.nil_slice 0 by_Om none, h2⟩
    · exact Ue (MF S w n m A c hX size hno) fun v w' ⟨e, h2⟩ => ⟨_, _, e, Rep.nil_slice 0 by_Om none, h2⟩
theorem E7 (n : Int) (m : List (Int × Int)) (hml : m.length ≤ 100) (hm : ∀ z ∈ m, z.2 ≤ 9223372036854775807) : ∃ L : List Int, (∀ (S : Nat → Prop) (w : World) (A : Option Addr) (c : Nat), Rep S w (Re m) [.slice A m.length c] → Calls prog 17 #[.int .i64 n, .slice A m.length c] w (Md fun v w' => ∃ (ob : Option Addr) (c' : Nat), v = .tuple #[.slice ob L.length c', .bool (Dh n m)] ∧ Rep (fun _ => True) w' (.slice (L.map Me)) [.slice ob L.length c'] ∧ Same [] w w')) ∧ (∀ (S : Nat → Prop) (w : World) (A : Option Addr) (c : Nat), Rep S w (Re m) [.slice A m.length c] → Calls prog 18 #[.int .i64 n, .slice A m.length c] w (Md fun v w' => ∃ (ob : Option Addr) (c' : Nat), v = .tuple #[.slice ob L.length c', .bool (Dh n m)] ∧ Rep (fun _ => True) w' (.slice (L.map Me)) [.slice ob L.length c'] ∧ Same [] w w')) := by
  by_cases h : Dh n m = true
  · obtain ⟨k, mp, rfl, hk, rfl, hb, hall⟩ := Y2 h hm
    rw [h]
    have hrt : Mf k (Zb mp) 9223372036854775807 = true := by have := h; rwa [Lq _ _ hm] at this
    have hlen : ((List.range k).map (Im mp fun _ => -1)).length = k := by simp
    refine ⟨(List.range k).map (Im mp fun _ => -1), fun S w A c hX => ?_, fun S w A c hX => ?_⟩
    · rw [hlen]; exact Ue (Up S w k mp A c hX hb hk (by rwa [Jl] at hml) hall) fun v w' ⟨ob, e, h1, h2⟩ => ⟨_, _, e, h1.weaken fun _ _ _ => trivial, h2⟩
    · rw [hlen]; exact Ue (J8 S w k mp A c hX hrt hk hall) fun v w' ⟨ob, e, h1, h2⟩ => ⟨_, _, e, h1.weaken fun _ _ _ => trivial, h2⟩
  · have hno : Dh n m = false := by simpa using h
    rw [hno]
    refine ⟨[], fun S w A c hX => ?_, fun S w A c hX => ?_⟩
    · exact Ue (LE S w n m A c hX hno) fun v w' ⟨e, h2⟩ => ⟨_, _, e, Rep.nil_slice 0 by_Om none, h2⟩
    · exact Ue (NA S w n m A c hX (by rw [← Lq _ _ hm]; exact hno)) fun v w' ⟨e, h2⟩ => ⟨_, _, e, Rep.nil_slice 0 by_Om none, h2⟩
end Go.Scarf
