/- A part of the proof. -/
import Derived.Test.YtepbomjpbdbejaaGreatDoorA9
set_option linter.all false
set_option maxHeartbeats 8000000
set_option maxRecDepth 10000
namespace Go.Scarf
open Go.RowKit Go.Proofs Go.Proofs.Tryz
theorem AC {x : Tree} (h : Up x 8 = true) : Ei x := by
  obtain ⟨h1, _, h3⟩ := SG by_Om h
  exact ⟨U4 x h3, by omega, Nat.le_trans (K_ x h3) by_Om⟩
theorem Qm {l : List Tree} (h : Km l = true) : ∀ x ∈ l, Ei x := fun x hx => AC ((WB h).2 x hx)
theorem Mm {a b : List Tree} : In a b = 0 ↔ Hh a = 0 ∧ Hh b = 0 := by
  unfold In
  constructor
  · intro h
    split at h
    · cases h
    · split at h
      · assumption
      · cases h
  · intro h
    rw [if_neg by_Om, if_pos h]
theorem BF (S S' : Nat → Prop) (w0 : World) (hG : Gl w0) (x y : List Tree) (A B : Option Addr) (c e : Nat) (hX : Rep S w0 (.slice (Vc x)) [.slice A x.length c]) (hY : Rep S' w0 (.slice (Vc y)) [.slice B y.length e]) (hokx : ∀ z ∈ x, Ei z) (hoky : ∀ z ∈ y, Ei z) :
    Calls prog 11 #[.slice A x.length c, .slice B y.length e] w0 (Nd fun v w' => ∃ (Az : Option Addr) (nz cz : Nat) (nn : Int), v = .tuple #[.slice Az nz cz, .int .i64 nn, .int .i64 (In x y)] ∧ (In x y = 0 → nz = (Yx 0 0 (x.map Nc) (y.map Nc)).length ∧ Rep (fun _ => True) w' (Ek (Yx 0 0 (x.map Nc) (y.map Nc))) [.slice Az nz cz] ∧ nn = ((al Bk pN (x.map Nc) (y.map Nc) : Nat) : Int)) ∧ (In x y ≠ 0 → nz = 0 ∧ nn = 0) ∧ Same [] w0 w') := by
  by_cases h : Hh x = 0 ∧ Hh y = 0
  · refine Fh (Y4 S S' w0 hG x y A B c e hX hY hokx hoky _ _ rfl rfl h.1 h.2) fun v w' ⟨Az, cz, hv, hr, hs⟩ => ?_
    have he := Mm.2 h
    exact ⟨Az, _, cz, _, by rw [he]; exact hv, fun _ => ⟨rfl, hr.weaken fun _ _ _ => trivial, rfl⟩, fun hn => absurd he hn, hs⟩
  · refine Fh (VG S S' w0 hG x y A B c e hX hY hokx hoky h) fun v w' ⟨hv, hs⟩ => ?_
    exact ⟨none, 0, 0, 0, hv, fun he => absurd (Mm.1 he) h, fun _ => ⟨rfl, rfl⟩, hs⟩
theorem N8 {w0 w : World} {bs_ : List (Nat × Obj)} {S : Nat → Prop} {v : Tree} {cv : List Value} (hF : FR w0 [] bs_ w) {b : Nat} (i : Nat) (hb : bs_[i]? = some (b, .cells (List.toArray cv) 27)) (hV : Rep S w (Qc v) cv) : Rep (fun _ => True) w (.slice (Vc [v])) [.slice (some ⟨b, 0, none⟩) 1 1] := by
  refine Rep.slice_mk (by simp [Vc]) (Nat.le_refl _) by_Om fun _ => ⟨_, rfl, cv, fun j hj => ⟨hF.cellsAll i hb j hj, trivial⟩, ?_⟩
  rw [Oe, List.map_cons, List.map_nil, RepL]
  exact ⟨cv, [], by simp, hV.weaken fun _ _ _ => trivial, RepL.nil_mk⟩
theorem Lm {w0 w : World} {pre post sb : List (Nat × Obj)} {S S' : Nat → Prop} {a : List Tree} {v : Tree} {A : Option Addr} {c : Nat} {ea cv : List Value} (hF : FR w0 [] (pre ++ (sb ++ post)) w) (hS : SlB 27 4 A (a.length + 1) c (ea ++ cv) sb) (hr : RepL S w (Vc a) ea) (hV : Rep S' w (Qc v) cv) :
    Rep (fun b => b < w.heap.size) w (.slice (Vc (a ++ [v]))) [.slice A (a.length + 1) c] := by
  refine hS.repOf (fun p hp => ?_) ?_ (by rw [Uf]; simp)
  · have h := (hF.own p (by simp [hp])).1
    exact ⟨h, Da h⟩
  · rw [Oe, List.map_append, List.map_cons, List.map_nil, ← Oe]
    refine RepL.append (hr.weaken fun b _ h => h) ?_
    rw [RepL]
    exact ⟨cv, [], by simp, hV.weaken fun b _ h => h, RepL.nil_mk⟩
theorem YG {x : Tree} (h : Od x = true) (hs : Kc x ≤ 256) : pN (Nc x) (Nc x) = 0 := W_ (Tq h hs)
theorem PM (x y : TreeN) : Bk x ≤ pN x y + Bk y := (Vl (ls := x.1) (fs := x.2) (gs := y.1) (hs := y.2)).2.1
theorem RI (x : Tree) : 1 ≤ Bk (Nc x) := H8 (Jf x)
theorem KK {x y : List Tree} (hx : Km x = true) (hy : Km y = true) (h1 : Hh x = 0) (h2 : Hh y = 0) : al Bk pN (x.map Nc) (y.map Nc) ≤ 100000 := by
  have h3 := (So h1 (Qm hx)).2
  have h4 := (So h2 (Qm hy)).2
  have h5 := P7 h3 h4
  have h6 := (Dl h1).2.1
  have h7 := (Dl h2).2.1
  simp only [List.length_map] at h5
  omega
theorem Zq (S S' : Nat → Prop) (w0 : World) (hG : Gl w0) (x y : List Tree) {A B : Option Addr} {c e nx ny : Nat} (hX : Rep S w0 (.slice (Vc x)) [.slice A nx c]) (hY : Rep S' w0 (.slice (Vc y)) [.slice B ny e]) (hokx : ∀ z ∈ x, Ei z) (hoky : ∀ z ∈ y, Ei z) (hnx : x.length = nx) (hny : y.length = ny) :
    Calls prog 11 #[.slice A nx c, .slice B ny e] w0 (Nd fun v w' => ∃ (Az : Option Addr) (nz cz : Nat) (nn : Int), v = .tuple #[.slice Az nz cz, .int .i64 nn, .int .i64 (In x y)] ∧ (In x y = 0 → nz = (Yx 0 0 (x.map Nc) (y.map Nc)).length ∧ Rep (fun _ => True) w' (Ek (Yx 0 0 (x.map Nc) (y.map Nc))) [.slice Az nz cz] ∧ nn = ((al Bk pN (x.map Nc) (y.map Nc) : Nat) : Int)) ∧ (In x y ≠ 0 → nz = 0 ∧ nn = 0) ∧ Same [] w0 w') := by
  subst hnx hny
  exact BF S S' w0 hG x y A B c e hX hY hokx hoky
end Go.Scarf
