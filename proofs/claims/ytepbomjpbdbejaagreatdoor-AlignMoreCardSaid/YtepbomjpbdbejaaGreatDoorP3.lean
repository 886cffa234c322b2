/- A part of the proof. -/
import Derived.Test.YtepbomjpbdbejaaGreatDoorBd
import Derived.Test.YtepbomjpbdbejaaGreatDoorP1
set_option linter.all false
set_option maxHeartbeats 8000000
set_option maxRecDepth 10000
namespace Go.Scarf
theorem Z9 : ∀ {xs : List Tree}, (∀ x ∈ xs, E8 x) → Q6 xs
  | [], _ => by rw [Q6]; trivial
  | x :: xs, h => by rw [Q6]; exact ⟨h x Fa, Z9 (fun y hy => h y (by simp [hy]))⟩
mutual
def Ye : Tree → Nat | .node _ t ks xs => max t.length (max (Ik ks) (Ui xs))
def Ui : List Tree → Nat | [] => 0 | x :: xs => max (Ye x) (Ui xs)
def Ik : List Str → Nat | [] => 0 | k :: ks => max k.length (Ik ks)
end
theorem Gj : ∀ {ks : List Str} {k : Str}, k ∈ ks → k.length ≤ Ik ks
  | y :: ys, k, h => by
    rw [Ik]
    rcases List.mem_cons.1 h with rfl | h
    · omega
    · have := Gj h; omega
theorem Mh : ∀ {xs : List Tree} {x : Tree}, x ∈ xs → Ye x ≤ Ui xs
  | y :: ys, k, h => by
    rw [Ui]
    rcases List.mem_cons.1 h with rfl | h
    · omega
    · have := Mh h; omega
theorem Av {n : Nat} : ∀ {ks : List Str}, (∀ k ∈ ks, k.length ≤ n) → Ik ks ≤ n
  | [], _ => by rw [Ik]; omega
  | k :: ks, h => by
    rw [Ik]
    have h1 := h k Fa
    have h2 := Av (fun y hy => h y (by simp [hy]) : ∀ k ∈ ks, k.length ≤ n)
    omega
theorem Fx {n : Nat} : ∀ {xs : List Tree}, (∀ x ∈ xs, Ye x ≤ n) → Ui xs ≤ n
  | [], _ => by rw [Ui]; omega
  | k :: ks, h => by
    rw [Ui]
    have h1 := h k Fa
    have h2 := Fx (fun y hy => h y (by simp [hy]) : ∀ x ∈ ks, Ye x ≤ n)
    omega
theorem JG (x : Tree) : Ye x ≤ 17592186044416 → E8 x := Tree.ind (Q := fun x => Ye x ≤ 17592186044416 → E8 x) (fun k t ks xs ih h => by
  rw [Ye] at h
  rw [E8]
  exact ⟨by omega, fun k hk => by have := Gj hk; omega, Z9 fun y hy => ih y hy (by have := Mh hy; omega)⟩) x
theorem F1 (x : Tree) : Ye x ≤ 17592186044416 → Lx x := Tree.ind (Q := fun x => Ye x ≤ 17592186044416 → Lx x) (fun k t ks xs ih h => by
  rw [Ye] at h
  rw [Lx]
  exact ⟨by omega, fun k hk => by have := Gj hk; omega, G9 fun y hy => ih y hy (by have := Mh hy; omega)⟩) x
theorem K_ (x : Tree) : Qg x = true → Ye x ≤ 2048 := Tree.ind (Q := fun x => Qg x = true → Ye x ≤ 2048) (fun k t ks xs ih h => by
  rw [Qg, Bool.and_eq_true, Bool.and_eq_true, decide_eq_true_eq, List.all_eq_true] at h
  rw [Ye]
  have h1 : Ik ks ≤ 2048 := Av fun k hk => by have := h.1.2 k hk; simp only [decide_eq_true_eq] at this; omega
  have key : ∀ ys : List Tree, (∀ y ∈ ys, y ∈ xs) → Qi ys = true → Ui ys ≤ 2048 := by
    intro ys
    induction ys with
    | nil => intro _ _; rw [Ui]; omega
    | cons y ys ihy =>
      intro hm hs
      rw [Qi, Bool.and_eq_true] at hs
      rw [Ui]
      have a := ih y (hm y Fa) hs.1
      have b := ihy (fun z hz => hm z (by simp [hz])) hs.2
      omega
  have h2 := key xs (fun _ h => h) h.2
  omega) x
theorem KF (x : Tree) : Ye (Rh x) ≤ Ye x := Tree.ind (Q := fun x => Ye (Rh x) ≤ Ye x) (fun k t ks xs ih => by
  have hs : ∀ y ∈ Ue xs, Ye y ≤ Ui xs := by
    intro y hy
    rw [Hi] at hy
    obtain ⟨z, hz, rfl⟩ := List.mem_map.1 hy
    exact Nat.le_trans (ih z hz) (Mh hz)
  rw [Rh]
  split
  · rw [Ye, Ye]
    have h1 : Ik (Cj ks) ≤ Ik ks := Av fun k hk => Gj (Us.1 hk)
    have h2 : Ui ((Cj ks).map fun key => (Yg ks (Ue xs) key).getD (.node 0 [] [] [])) ≤ Ui xs := Fx fun y hy => by
      obtain ⟨key, _, rfl⟩ := List.mem_map.1 hy
      cases hl : Yg ks (Ue xs) key with
      | none => simp [Ye, Ik, Ui]
      | some z => exact hs z (Ty hl)
    omega
  · rw [Ye, Ye]
    have h2 := Fx hs
    have h3 : Ik [] = 0 := by rw [Ik]
    omega) x
theorem Gs (m : Bool) (ind d : Nat) (D : Nat) (hD : d + 1 ≤ D) : ∀ (ps : List Str) (b : Bool), (Xl m ind d b ps).length ≤ (ps.map fun p => p.length + (2 + ind * D)).sum
  | [], b => by rw [Xl]; simp
  | p :: ps, b => by
    have h1 := Gs m ind d D hD ps false
    have h2 := Yr m ind (d + 1)
    have h3 : ind * (d + 1) ≤ ind * D := Nat.mul_le_mul_left _ hD
    have h4 : (if b = true then ([] : Str) else [44]).length ≤ 1 := by split <;> simp
    rw [Xl, List.map_cons, List.sum_cons]
    simp only [List.length_append]
    omega
theorem WA (m : Bool) (ind L D : Nat) (x : Tree) : ∀ d, Ye x ≤ L → d + Fd x ≤ D → (Gi m ind x d).length + (6 * L + 6 + ind * D) ≤ Kc x * (12 * L + 40 + 2 * (ind * D)) :=
  Tree.ind (Q := fun x => ∀ d, Ye x ≤ L → d + Fd x ≤ D → (Gi m ind x d).length + (6 * L + 6 + ind * D) ≤ Kc x * (12 * L + 40 + 2 * (ind * D))) (fun k t ks xs ih d hL hd => by
  rw [Ye] at hL
  rw [Fd] at hd
  have hq := Ky t
  have hl := Yr m ind d
  have hid : ind * d ≤ ind * D := Nat.mul_le_mul_left _ by_Om
  have key1 : ∀ ys : List Tree, (∀ y ∈ ys, y ∈ xs) → ((Wo m ind ys (d + 1)).map fun p => p.length + (2 + ind * D)).sum ≤ Rc ys * (12 * L + 40 + 2 * (ind * D)) := by
    intro ys
    induction ys with
    | nil => intro _; simp [Wo]
    | cons y ys ihy =>
      intro hm
      have h1 := ih y (hm y Fa) (d + 1) (by have := Mh (hm y Fa); omega) (by have := Pf (hm y Fa); omega)
      have h2 := ihy (fun z hz => hm z (by simp [hz]))
      rw [Wo, List.map_cons, List.sum_cons, Rc, Nat.add_mul]
      omega
  have key2 : ∀ (ys : List Tree) (js : List Str), (∀ y ∈ ys, y ∈ xs) → (∀ k ∈ js, k.length ≤ L) → ((Nl m ind ys js (d + 1)).map fun p => p.length + (2 + ind * D)).sum ≤ Rc ys * (12 * L + 40 + 2 * (ind * D)) := by
    intro ys
    induction ys with
    | nil => intro _ _ _; simp [Nl]
    | cons y ys ihy =>
      intro js hm hj
      have h1 := ih y (hm y Fa) (d + 1) (by have := Mh (hm y Fa); omega) (by have := Pf (hm y Fa); omega)
      have h2 := ihy js.tail (fun z hz => hm z (by simp [hz])) (fun k hk => hj k (List.mem_of_mem_tail hk))
      have h3 : (js.headD []).length ≤ L := by
        cases js with
        | nil => simp
        | cons a b => exact hj a Fa
      have h4 := Ky (js.headD [])
      have h5 : (if m = true then ([32] : Str) else []).length ≤ 1 := by split <;> simp
      rw [Nl, List.map_cons, List.sum_cons, Rc, Nat.add_mul]
      simp only [List.length_append, List.length_cons, List.length_nil]
      omega
  have fin : ∀ (o c : UInt8) (ps : List Str) (N : Nat), (xs = [] → ps = []) → (ps.map fun p => p.length + (2 + ind * D)).sum ≤ N → (Hl m ind d o c ps).length + (6 * L + 6 + ind * D) ≤ 1 * (12 * L + 40 + 2 * (ind * D)) + N := by
    intro o c ps N he hN
    have h5 : (if ps = [] then ([] : Str) else Fl m ind d).length ≤ 1 + ind * D := by
      split
      · simp
      · omega
    have h6 : (Xl m ind d true ps).length ≤ N := by
      by_cases hp : ps = []
      · subst hp; rw [Xl]; simp
      · have hx : xs ≠ [] := fun h => hp (he h)
        have h7 : 1 ≤ Uc xs := by
          cases xs with
          | nil => exact absurd rfl hx
          | cons a b => rw [Uc]; have : 1 ≤ Fd a := by (obtain ⟨_, _, _, _⟩ := a; rw [Fd]; omega)
                        omega
        exact Nat.le_trans (Gs m ind d D by_Om ps true) hN
    rw [Hl]
    simp only [List.length_append, List.length_cons, List.length_nil]
    omega
  rw [Gi, Kc, Nat.add_mul]
  split
  · simp only [List.length_cons, List.length_nil]; omega
  split
  · omega
  split
  · exact fin _ _ _ _ (fun h => by rw [h, Wo]) (key1 xs (fun _ h => h))
  split
  · exact fin _ _ _ _ (fun h => by rw [h, Nl]) (key2 xs ks (fun _ h => h) (fun k hk => by have := Gj hk; omega))
  · omega) x
end Go.Scarf
namespace Go.Scarf
def Vp (x : Tree) : Str := if Od x = true then Gi false 0 x 0 else []
def WH (x : Tree) : Int := if Od x = true then 0 else 1
theorem Np (q : Tree → Bool) : ∀ xs : List Tree, Um q xs = xs.all (Ud q)
  | [] => rfl
  | x :: xs => by rw [Um, Np q xs]; rfl
def ZM (x : Tree) : Bool := decide (x.kind ≠ 7)
theorem NE (p q : Tree → Bool) (x : Tree) : Ud (fun x => p x && q x) x = (Ud p x && Ud q x) := Tree.ind (Q := fun x => Ud (fun x => p x && q x) x = (Ud p x && Ud q x)) (fun k t ks xs ih => by
  rw [Ud, Ud, Ud, Np, Np, Np]
  have h : xs.all (Ud fun x => p x && q x) = (xs.all (Ud p) && xs.all (Ud q)) := by
    rw [Bool.eq_iff_iff, Bool.and_eq_true, List.all_eq_true, List.all_eq_true, List.all_eq_true]
    refine ⟨fun g => ⟨fun y hy => ?_, fun y hy => ?_⟩, fun g y hy => ?_⟩
    · have := g y hy; rw [ih y hy, Bool.and_eq_true] at this; exact this.1
    · have := g y hy; rw [ih y hy, Bool.and_eq_true] at this; exact this.2
    · rw [ih y hy, Bool.and_eq_true]; exact ⟨g.1 y hy, g.2 y hy⟩
  rw [h]
  cases p (.node k t ks xs) <;> cases q (.node k t ks xs) <;> simp) x
theorem ND (x : Tree) : Od x = (Mi x && Ud ZM x) := by
  have h : Ud rnodeB x = (Ud ZM x && Ud nodeB x) := NE ZM nodeB x
  rw [Od, Mi, h]
  cases On x <;> cases Ud ZM x <;> simp
theorem Ml {x : Tree} (h : Od x = true) : Mi x = true := by
  rw [ND, Bool.and_eq_true] at h; exact h.1
theorem D4 (x : Tree) (h : Kc x ≤ 1000000000) : Kc (Jf x) ≤ 1000000000 := by
  by_cases ho : Mi x = true
  · rw [Am ho, (Ht x (Xm ho)).1]; exact h
  · rw [Jf, if_neg ho]; decide
theorem Tt (x : Tree) : Ye (Jf x) ≤ Ye x := by
  by_cases ho : Mi x = true
  · rw [Am ho]; exact KF x
  · rw [Jf, if_neg ho]
    have : Ye RC = 0 := by decide
    omega
end Go.Scarf
namespace Go.Scarf
open Go.RowKit Go.Proofs Go.Proofs.Tryz
def DE (x : Tree) (ind d : Int) : Prop := Od x = true ∧ (0 ≤ ind ∧ ind ≤ 8) ∧ (0 ≤ d ∧ d ≤ 32)
instance (x : Tree) (ind d : Int) : Decidable (DE x ind d) := by unfold DE; infer_instance
theorem Zy {x : Tree} (h : Od x = true) (hm : Ye x ≤ 1073741824) (m : Bool) (ind d : Nat) (hi : ind ≤ 8) (hd : d ≤ 32) : (Gi m ind x d).length ≤ 140737488355328 := by
  have h1 := Mt h
  have h2 := WA m ind (Ye x) 64 x d (Nat.le_refl _) by_Om
  have h3 : Kc x ≤ 4096 := O_ (Ml h)
  have h4 : ind * 64 ≤ 8 * 64 := Nat.mul_le_mul_right _ hi
  have h5 : Kc x * (12 * Ye x + 40 + 2 * (ind * 64)) ≤ 4096 * (12 * 1073741824 + 40 + 2 * 512) := Nat.mul_le_mul h3 by_Om
  omega
theorem PJ (x : Tree) (S : Nat → Prop) (w0 : World) (cs : List Value) (rx : Rep S w0 (Qc x) cs) (hG : Gl w0) (hsz : Kc x ≤ 1000000000) (hm : Ye x ≤ 1073741824) : Calls prog 99 #[.agg cs.toArray] w0 (Nd fun v w' => v = .tuple #[.string (bs (Vp x)), .int .i64 (WH x)] ∧ Same [] w0 w') := by
  refine Fh (N_ x S w0 cs rx hG (F1 x by_Om) (JG x by_Om) hsz (fun h => Zy h hm _ _ _ by_Om by_Om)) fun v w' ⟨h1, h2⟩ => ⟨?_, h2⟩
  rw [h1, Vp, WH]
  split <;> rfl
end Go.Scarf
