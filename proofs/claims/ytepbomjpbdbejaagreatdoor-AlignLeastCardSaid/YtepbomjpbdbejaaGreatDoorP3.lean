/- A part of the proof. -/
import Derived.Test.YtepbomjpbdbejaaGreatDoorBd
import Derived.Test.YtepbomjpbdbejaaGreatDoorP1
set_option linter.all false
set_option maxHeartbeats 8000000
set_option maxRecDepth 10000
namespace Go.Scarf
theorem RC : ∀ {xs : List Tree}, (∀ x ∈ xs, OC x) → Y_ xs
  | [], _ => by rw [Y_]; trivial
  | x :: xs, h => by rw [Y_]; exact ⟨h x Ga, RC (fun y hy => h y (by simp [hy]))⟩
mutual
def Ee : Tree → Nat | .node _ t ks xs => max t.length (max (Hm ks) (Rj xs))
def Rj : List Tree → Nat | [] => 0 | x :: xs => max (Ee x) (Rj xs)
def Hm : List Str → Nat | [] => 0 | k :: ks => max k.length (Hm ks)
end
theorem Yk : ∀ {ks : List Str} {k : Str}, k ∈ ks → k.length ≤ Hm ks
  | y :: ys, k, h => by
    rw [Hm]
    rcases List.mem_cons.1 h with rfl | h
    · omega
    · have := Yk h; omega
theorem Ni : ∀ {xs : List Tree} {x : Tree}, x ∈ xs → Ee x ≤ Rj xs
  | y :: ys, k, h => by
    rw [Rj]
    rcases List.mem_cons.1 h with rfl | h
    · omega
    · have := Ni h; omega
theorem Fy {n : Nat} : ∀ {ks : List Str}, (∀ k ∈ ks, k.length ≤ n) → Hm ks ≤ n
  | [], _ => by rw [Hm]; omega
  | k :: ks, h => by
    rw [Hm]
    have h1 := h k Ga
    have h2 := Fy (fun y hy => h y (by simp [hy]) : ∀ k ∈ ks, k.length ≤ n)
    omega
theorem Vz {n : Nat} : ∀ {xs : List Tree}, (∀ x ∈ xs, Ee x ≤ n) → Rj xs ≤ n
  | [], _ => by rw [Rj]; omega
  | k :: ks, h => by
    rw [Rj]
    have h1 := h k Ga
    have h2 := Vz (fun y hy => h y (by simp [hy]) : ∀ x ∈ ks, Ee x ≤ n)
    omega
theorem FM (x : Tree) : Ee x ≤ 17592186044416 → OC x := Tree.ind (Q := fun x => Ee x ≤ 17592186044416 → OC x) (fun k t ks xs ih h => by
  rw [Ee] at h
  rw [OC]
  exact ⟨by omega, fun k hk => by have := Yk hk; omega, RC fun y hy => ih y hy (by have := Ni hy; omega)⟩) x
theorem Wx (x : Tree) : Ee x ≤ 17592186044416 → Ox x := Tree.ind (Q := fun x => Ee x ≤ 17592186044416 → Ox x) (fun k t ks xs ih h => by
  rw [Ee] at h
  rw [Ox]
  exact ⟨by omega, fun k hk => by have := Yk hk; omega, GC fun y hy => ih y hy (by have := Ni hy; omega)⟩) x
theorem QE (x : Tree) : Hh x = true → Ee x ≤ 2048 := Tree.ind (Q := fun x => Hh x = true → Ee x ≤ 2048) (fun k t ks xs ih h => by
  rw [Hh, Bool.and_eq_true, Bool.and_eq_true, decide_eq_true_eq, List.all_eq_true] at h
  rw [Ee]
  have h1 : Hm ks ≤ 2048 := Fy fun k hk => by have := h.1.2 k hk; simp only [decide_eq_true_eq] at this; omega
  have key : ∀ ys : List Tree, (∀ y ∈ ys, y ∈ xs) → Uj ys = true → Rj ys ≤ 2048 := by
    intro ys
    induction ys with
    | nil => intro _ _; rw [Rj]; omega
    | cons y ys ihy =>
      intro hm hs
      rw [Uj, Bool.and_eq_true] at hs
      rw [Rj]
      have a := ih y (hm y Ga) hs.1
      have b := ihy (fun z hz => hm z (by simp [hz])) hs.2
      omega
  have h2 := key xs (fun _ h => h) h.2
  omega) x
theorem JL (x : Tree) : Ee (sortT x) ≤ Ee x := Tree.ind (Q := fun x => Ee (sortT x) ≤ Ee x) (fun k t ks xs ih => by
  have hs : ∀ y ∈ He xs, Ee y ≤ Rj xs := by
    intro y hy
    rw [Xg] at hy
    obtain ⟨z, hz, rfl⟩ := List.mem_map.1 hy
    exact Nat.le_trans (ih z hz) (Ni hz)
  rw [sortT]
  split
  · rw [Ee, Ee]
    have h1 : Hm (Ui ks) ≤ Hm ks := Fy fun k hk => Yk (Pm.1 hk)
    have h2 : Rj ((Ui ks).map fun key => (Me ks (He xs) key).getD (.node 0 [] [] [])) ≤ Rj xs := Vz fun y hy => by
      obtain ⟨key, _, rfl⟩ := List.mem_map.1 hy
      cases hl : Me ks (He xs) key with
      | none => simp [Ee, Hm, Rj]
      | some z => exact hs z (Dr hl)
    omega
  · rw [Ee, Ee]
    have h2 := Vz hs
    have h3 : Hm [] = 0 := by rw [Hm]
    omega) x
theorem Xt (m : Bool) (ind d : Nat) (D : Nat) (hD : d + 1 ≤ D) : ∀ (ps : List Str) (b : Bool), (Ue m ind d b ps).length ≤ (ps.map fun p => p.length + (2 + ind * D)).sum
  | [], b => by rw [Ue]; simp
  | p :: ps, b => by
    have h1 := Xt m ind d D hD ps false
    have h2 := Lu m ind (d + 1)
    have h3 : ind * (d + 1) ≤ ind * D := Nat.mul_le_mul_left _ hD
    have h4 : (if b = true then ([] : Str) else [44]).length ≤ 1 := by split <;> simp
    rw [Ue, List.map_cons, List.sum_cons]
    simp only [List.length_append]
    omega
theorem JG (m : Bool) (ind L D : Nat) (x : Tree) : ∀ d, Ee x ≤ L → d + Gd x ≤ D → (Xe m ind x d).length + (6 * L + 6 + ind * D) ≤ Ac x * (12 * L + 40 + 2 * (ind * D)) :=
  Tree.ind (Q := fun x => ∀ d, Ee x ≤ L → d + Gd x ≤ D → (Xe m ind x d).length + (6 * L + 6 + ind * D) ≤ Ac x * (12 * L + 40 + 2 * (ind * D))) (fun k t ks xs ih d hL hd => by
  rw [Ee] at hL
  rw [Gd] at hd
  have hq := G4 t
  have hl := Lu m ind d
  have hid : ind * d ≤ ind * D := Nat.mul_le_mul_left _ by_Om
  have key1 : ∀ ys : List Tree, (∀ y ∈ ys, y ∈ xs) → ((Fj m ind ys (d + 1)).map fun p => p.length + (2 + ind * D)).sum ≤ Xc ys * (12 * L + 40 + 2 * (ind * D)) := by
    intro ys
    induction ys with
    | nil => intro _; simp [Fj]
    | cons y ys ihy =>
      intro hm
      have h1 := ih y (hm y Ga) (d + 1) (by have := Ni (hm y Ga); omega) (by have := Fg (hm y Ga); omega)
      have h2 := ihy (fun z hz => hm z (by simp [hz]))
      rw [Fj, List.map_cons, List.sum_cons, Xc, Nat.add_mul]
      omega
  have key2 : ∀ (ys : List Tree) (js : List Str), (∀ y ∈ ys, y ∈ xs) → (∀ k ∈ js, k.length ≤ L) → ((Rh m ind ys js (d + 1)).map fun p => p.length + (2 + ind * D)).sum ≤ Xc ys * (12 * L + 40 + 2 * (ind * D)) := by
    intro ys
    induction ys with
    | nil => intro _ _ _; simp [Rh]
    | cons y ys ihy =>
      intro js hm hj
      have h1 := ih y (hm y Ga) (d + 1) (by have := Ni (hm y Ga); omega) (by have := Fg (hm y Ga); omega)
      have h2 := ihy js.tail (fun z hz => hm z (by simp [hz])) (fun k hk => hj k (List.mem_of_mem_tail hk))
      have h3 : (js.headD []).length ≤ L := by
        cases js with
        | nil => simp
        | cons a b => exact hj a Ga
      have h4 := G4 (js.headD [])
      have h5 : (if m = true then ([32] : Str) else []).length ≤ 1 := by split <;> simp
      rw [Rh, List.map_cons, List.sum_cons, Xc, Nat.add_mul]
      simp only [List.length_append, List.length_cons, List.length_nil]
      omega
  have fin : ∀ (o c : UInt8) (ps : List Str) (N : Nat), (xs = [] → ps = []) → (ps.map fun p => p.length + (2 + ind * D)).sum ≤ N → (Cl m ind d o c ps).length + (6 * L + 6 + ind * D) ≤ 1 * (12 * L + 40 + 2 * (ind * D)) + N := by
    intro o c ps N he hN
    have h5 : (if ps = [] then ([] : Str) else Ji m ind d).length ≤ 1 + ind * D := by
      split
      · simp
      · omega
    have h6 : (Ue m ind d true ps).length ≤ N := by
      by_cases hp : ps = []
      · subst hp; rw [Ue]; simp
      · have hx : xs ≠ [] := fun h => hp (he h)
        have h7 : 1 ≤ Zc xs := by
          cases xs with
          | nil => exact absurd rfl hx
          | cons a b => rw [Zc]; have : 1 ≤ Gd a := by (obtain ⟨_, _, _, _⟩ := a; rw [Gd]; omega)
                        omega
        exact Nat.le_trans (Xt m ind d D by_Om ps true) hN
    rw [Cl]
    simp only [List.length_append, List.length_cons, List.length_nil]
    omega
  rw [Xe, Ac, Nat.add_mul]
  split
  · simp only [List.length_cons, List.length_nil]; omega
  split
  · omega
  split
  · exact fin _ _ _ _ (fun h => by rw [h, Fj]) (key1 xs (fun _ h => h))
  split
  · exact fin _ _ _ _ (fun h => by rw [h, Rh]) (key2 xs ks (fun _ h => h) (fun k hk => by have := Yk hk; omega))
  · omega) x
end Go.Scarf
namespace Go.Scarf
def Fm (x : Tree) : Str := if Zb x = true then Xe false 0 x 0 else []
def HP (x : Tree) : Int := if Zb x = true then 0 else 1
theorem Lj (q : Tree → Bool) : ∀ xs : List Tree, Zm q xs = xs.all (Vc q)
  | [] => rfl
  | x :: xs => by rw [Zm, Lj q xs]; rfl
theorem SL {α : Type} (q : α → Bool) {xs ys : List α} (h : xs.Perm ys) : xs.all q = ys.all q := by
  rw [Bool.eq_iff_iff, List.all_eq_true, List.all_eq_true]
  exact ⟨fun g y hy => g y (h.mem_iff.2 hy), fun g y hy => g y (h.mem_iff.1 hy)⟩
def YL (x : Tree) : Bool := decide (x.kind ≠ 7)
theorem ZK (p q : Tree → Bool) (x : Tree) : Vc (fun x => p x && q x) x = (Vc p x && Vc q x) := Tree.ind (Q := fun x => Vc (fun x => p x && q x) x = (Vc p x && Vc q x)) (fun k t ks xs ih => by
  rw [Vc, Vc, Vc, Lj, Lj, Lj]
  have h : xs.all (Vc fun x => p x && q x) = (xs.all (Vc p) && xs.all (Vc q)) := by
    rw [Bool.eq_iff_iff, Bool.and_eq_true, List.all_eq_true, List.all_eq_true, List.all_eq_true]
    refine ⟨fun g => ⟨fun y hy => ?_, fun y hy => ?_⟩, fun g y hy => ?_⟩
    · have := g y hy; rw [ih y hy, Bool.and_eq_true] at this; exact this.1
    · have := g y hy; rw [ih y hy, Bool.and_eq_true] at this; exact this.2
    · rw [ih y hy, Bool.and_eq_true]; exact ⟨g.1 y hy, g.2 y hy⟩
  rw [h]
  cases p (.node k t ks xs) <;> cases q (.node k t ks xs) <;> simp) x
theorem XI (x : Tree) : Vc nodeB x = true → Vc YL (sortT x) = Vc YL x := Tree.ind (Q := fun x => Vc nodeB x = true → Vc YL (sortT x) = Vc YL x) (fun k t ks xs ih hx => by
  obtain ⟨hn, hxs⟩ := Td hx
  have hs : (He xs).all (Vc YL) = xs.all (Vc YL) := by
    rw [Xg, List.all_map, Bool.eq_iff_iff, List.all_eq_true, List.all_eq_true]
    refine ⟨fun g y hy => ?_, fun g y hy => ?_⟩
    · have := g y hy; simp only [Function.comp_apply] at this; rwa [ih y hy (hxs y hy)] at this
    · simp only [Function.comp_apply]; rw [ih y hy (hxs y hy)]; exact g y hy
  rw [Iw]
  split
  · rename_i h6
    subst h6
    obtain ⟨nd, len⟩ := Tl hn
    rw [Vc, Vc, Lj, Lj, SL _ (Q5 nd len), hs]
    rfl
  · rw [Vc, Vc, Lj, Lj, hs]
    rfl) x
theorem Iq (x : Tree) : Zb x = (Th x && Vc YL x) := by
  have h : Vc rnodeB x = (Vc YL x && Vc nodeB x) := ZK YL nodeB x
  rw [Zb, Th, h]
  cases Hn x <;> cases Vc YL x <;> simp
theorem Ij {x : Tree} (h : Zb x = true) : Th x = true := by
  rw [Iq, Bool.and_eq_true] at h; exact h.1
theorem PF : Th Vr = false := by kernel_rfl
theorem Wu (x : Tree) : Zb (Re x) = Zb x := by
  by_cases h : Th x = true
  · rw [Fi h, Iq, Iq, V4 h, h, XI x (Gi h)]
  · rw [Re, if_neg h, Iq, Iq, PF, Bool.eq_false_iff.2 h]; rfl
theorem C_ (x : Tree) (h : Ac x ≤ 1000000000) : Ac (Re x) ≤ 1000000000 := by
  by_cases ho : Th x = true
  · rw [Fi ho, (Tv x (Gi ho)).1]; exact h
  · rw [Re, if_neg ho]; decide
theorem Vw (x : Tree) : Ee (Re x) ≤ Ee x := by
  by_cases ho : Th x = true
  · rw [Fi ho]; exact JL x
  · rw [Re, if_neg ho]
    have : Ee Vr = 0 := by decide
    omega
end Go.Scarf
namespace Go.Scarf
open Go.RowKit Go.Proofs Go.Proofs.Tryz
def EJ (x : Tree) (ind d : Int) : Prop := Zb x = true ∧ (0 ≤ ind ∧ ind ≤ 8) ∧ (0 ≤ d ∧ d ≤ 32)
instance (x : Tree) (ind d : Int) : Decidable (EJ x ind d) := by unfold EJ; infer_instance
theorem N2 {x : Tree} (h : Zb x = true) (hm : Ee x ≤ 1073741824) (m : Bool) (ind d : Nat) (hi : ind ≤ 8) (hd : d ≤ 32) : (Xe m ind x d).length ≤ 140737488355328 := by
  have h1 := Ww h
  have h2 := JG m ind (Ee x) 64 x d (Nat.le_refl _) by_Om
  have h3 : Ac x ≤ 4096 := OE (Ij h)
  have h4 : ind * 64 ≤ 8 * 64 := Nat.mul_le_mul_right _ hi
  have h5 : Ac x * (12 * Ee x + 40 + 2 * (ind * 64)) ≤ 4096 * (12 * 1073741824 + 40 + 2 * 512) := Nat.mul_le_mul h3 by_Om
  omega
theorem KQ (x : Tree) (S : Nat → Prop) (w0 : World) (cs : List Value) (rx : Rep S w0 (Sc x) cs) (hG : Gl w0) (hsz : Ac x ≤ 1000000000) (hm : Ee x ≤ 1073741824) : Calls prog 99 #[.agg cs.toArray] w0 (Rd fun v w' => v = .tuple #[.string (bs (Fm x)), .int .i64 (HP x)] ∧ Same [] w0 w') := by
  refine Zg (AG x S w0 cs rx hG (Wx x by_Om) (FM x by_Om) hsz (fun h => N2 h hm _ _ _ by_Om by_Om)) fun v w' ⟨h1, h2⟩ => ⟨?_, h2⟩
  rw [h1, Fm, HP]
  split <;> rfl
end Go.Scarf
