/- A part of the proof. -/
import Derived.Test.YtepbomjpbdbejaaGreatDoorA9
set_option linter.all false
set_option maxHeartbeats 8000000
set_option maxRecDepth 10000
namespace Go.Scarf
open Go.RowKit Go.Proofs Go.Proofs.Tryz
theorem ZJ {x : Tree} (h : Ir x 8 = true) : Pk x := by
  obtain ⟨h1, _, h3⟩ := FN by_Om h
  exact ⟨H_ x h3, by omega, Nat.le_trans (QE x h3) by_Om⟩
theorem Cr {l : List Tree} (h : Nq l = true) : ∀ x ∈ l, Pk x := fun x hx => ZJ ((FK h).2 x hx)
theorem Ev {a b : List Tree} : Lr a b = 0 ↔ Oi a = 0 ∧ Oi b = 0 := by
  unfold Lr
  constructor
  · intro h
    split at h
    · cases h
    · split at h
      · assumption
      · cases h
  · intro h
    rw [if_neg by_Om, if_pos h]
theorem I3 (a b : List Tree) : Lr a b = Lr b a := by
  unfold Lr
  simp only [or_comm (a := Oi a = 1), and_comm (a := Oi a = 0)]
theorem Z8 (S S' : Nat → Prop) (w0 : World) (hG : Gl w0) (x y : List Tree) (A B : Option Addr) (c e : Nat) (hX : Rep S w0 (.slice (Dd x)) [.slice A x.length c]) (hY : Rep S' w0 (.slice (Dd y)) [.slice B y.length e]) (hokx : ∀ z ∈ x, Pk z) (hoky : ∀ z ∈ y, Pk z) :
    Calls prog 11 #[.slice A x.length c, .slice B y.length e] w0 (Rd fun v w' => ∃ (Az : Option Addr) (nz cz : Nat) (nn : Int), v = .tuple #[.slice Az nz cz, .int .i64 nn, .int .i64 (Lr x y)] ∧ (Lr x y = 0 → nz = (Y0 0 0 (x.map Fb) (y.map Fb)).length ∧ Rep (fun _ => True) w' (Kh (Y0 0 0 (x.map Fb) (y.map Fb))) [.slice Az nz cz] ∧ nn = ((al Jg pN (x.map Fb) (y.map Fb) : Nat) : Int)) ∧ (Lr x y ≠ 0 → nz = 0 ∧ nn = 0) ∧ Same [] w0 w') := by
  by_cases h : Oi x = 0 ∧ Oi y = 0
  · refine Zg (M8 S S' w0 hG x y A B c e hX hY hokx hoky _ _ rfl rfl h.1 h.2) fun v w' ⟨Az, cz, hv, hr, hs⟩ => ?_
    have he := Ev.2 h
    exact ⟨Az, _, cz, _, by rw [he]; exact hv, fun _ => ⟨rfl, hr.weaken fun _ _ _ => trivial, rfl⟩, fun hn => absurd he hn, hs⟩
  · refine Zg (WN S S' w0 hG x y A B c e hX hY hokx hoky h) fun v w' ⟨hv, hs⟩ => ?_
    exact ⟨none, 0, 0, 0, hv, fun he => absurd (Ev.1 he) h, fun _ => ⟨rfl, rfl⟩, hs⟩
theorem TN (x y : TreeN) : pN x y = pN y x := DG
theorem DR (x : Tree) : 1 ≤ Jg (Fb x) := Wn (Re x)
end Go.Scarf
