/- A part of the proof. -/
import Derived.Test.YtepbomjpbdbejaaGreatDoorBd
import Derived.Test.YtepbomjpbdbejaaGreatDoorP1
set_option linter.all false
set_option maxHeartbeats 8000000
set_option maxRecDepth 10000
namespace Go.Scarf
theorem R9 : ∀ {xs : List Tree}, (∀ x ∈ xs, F_ x) → Z6 xs
  | [], _ => by rw [Z6]; trivial
  | x :: xs, h => by rw [Z6]; exact ⟨h x Ga, R9 (fun y hy => h y (by simp [hy]))⟩
mutual
def Rf : Tree → Nat | .node _ t ks xs => max t.length (max (Nl ks) (Nk xs))
def Nk : List Tree → Nat | [] => 0 | x :: xs => max (Rf x) (Nk xs)
def Nl : List Str → Nat | [] => 0 | k :: ks => max k.length (Nl ks)
end
theorem Lj : ∀ {ks : List Str} {k : Str}, k ∈ ks → k.length ≤ Nl ks
  | y :: ys, k, h => by
    rw [Nl]
    rcases List.mem_cons.1 h with rfl | h
    · omega
    · have := Lj h; omega
theorem Vh : ∀ {xs : List Tree} {x : Tree}, x ∈ xs → Rf x ≤ Nk xs
  | y :: ys, k, h => by
    rw [Nk]
    rcases List.mem_cons.1 h with rfl | h
    · omega
    · have := Vh h; omega
theorem N5 {n : Nat} : ∀ {ks : List Str}, (∀ k ∈ ks, k.length ≤ n) → Nl ks ≤ n
  | [], _ => by rw [Nl]; omega
  | k :: ks, h => by
    rw [Nl]
    have h1 := h k Ga
    have h2 := N5 (fun y hy => h y (by simp [hy]) : ∀ k ∈ ks, k.length ≤ n)
    omega
theorem Hw {n : Nat} : ∀ {xs : List Tree}, (∀ x ∈ xs, Rf x ≤ n) → Nk xs ≤ n
  | [], _ => by rw [Nk]; omega
  | k :: ks, h => by
    rw [Nk]
    have h1 := h k Ga
    have h2 := Hw (fun y hy => h y (by simp [hy]) : ∀ x ∈ ks, Rf x ≤ n)
    omega
theorem PF (x : Tree) : Rf x ≤ 17592186044416 → F_ x := Tree.ind (Q := fun x => Rf x ≤ 17592186044416 → F_ x) (fun k t ks xs ih h => by
  rw [Rf] at h
  rw [F_]
  exact ⟨by omega, fun k hk => by have := Lj hk; omega, R9 fun y hy => ih y hy (by have := Vh hy; omega)⟩) x
theorem V0 (x : Tree) : Rf x ≤ 17592186044416 → Xx x := Tree.ind (Q := fun x => Rf x ≤ 17592186044416 → Xx x) (fun k t ks xs ih h => by
  rw [Rf] at h
  rw [Xx]
  exact ⟨by omega, fun k hk => by have := Lj hk; omega, D9 fun y hy => ih y hy (by have := Vh hy; omega)⟩) x
theorem KF (x : Tree) : Rf (Yh x) ≤ Rf x := Tree.ind (Q := fun x => Rf (Yh x) ≤ Rf x) (fun k t ks xs ih => by
  have hs : ∀ y ∈ Ze xs, Rf y ≤ Nk xs := by
    intro y hy
    rw [Ti] at hy
    obtain ⟨z, hz, rfl⟩ := List.mem_map.1 hy
    exact Nat.le_trans (ih z hz) (Vh hz)
  rw [Yh]
  split
  · rw [Rf, Rf]
    have h1 : Nl (Jj ks) ≤ Nl ks := N5 fun k hk => Lj (Gt.1 hk)
    have h2 : Nk ((Jj ks).map fun key => (Fh ks (Ze xs) key).getD (.node 0 [] [] [])) ≤ Nk xs := Hw fun y hy => by
      obtain ⟨key, _, rfl⟩ := List.mem_map.1 hy
      cases hl : Fh ks (Ze xs) key with
      | none => simp [Rf, Nl, Nk]
      | some z => exact hs z (Rz hl)
    omega
  · rw [Rf, Rf]
    have h2 := Hw hs
    have h3 : Nl [] = 0 := by rw [Nl]
    omega) x
theorem As (m : Bool) (ind d : Nat) (D : Nat) (hD : d + 1 ≤ D) : ∀ (ps : List Str) (b : Bool), (Bm m ind d b ps).length ≤ (ps.map fun p => p.length + (2 + ind * D)).sum
  | [], b => by rw [Bm]; simp
  | p :: ps, b => by
    have h1 := As m ind d D hD ps false
    have h2 := Rs m ind (d + 1)
    have h3 : ind * (d + 1) ≤ ind * D := Nat.mul_le_mul_left _ hD
    have h4 : (if b = true then ([] : Str) else [44]).length ≤ 1 := by split <;> simp
    rw [Bm, List.map_cons, List.sum_cons]
    simp only [List.length_append]
    omega
theorem R_ (m : Bool) (ind L D : Nat) (x : Tree) : ∀ d, Rf x ≤ L → d + Hd x ≤ D → (Ni m ind x d).length + (6 * L + 6 + ind * D) ≤ Qc x * (12 * L + 40 + 2 * (ind * D)) :=
  Tree.ind (Q := fun x => ∀ d, Rf x ≤ L → d + Hd x ≤ D → (Ni m ind x d).length + (6 * L + 6 + ind * D) ≤ Qc x * (12 * L + 40 + 2 * (ind * D))) (fun k t ks xs ih d hL hd => by
  rw [Rf] at hL
  rw [Hd] at hd
  have hq := L0 t
  have hl := Rs m ind d
  have hid : ind * d ≤ ind * D := Nat.mul_le_mul_left _ by_Om
  have key1 : ∀ ys : List Tree, (∀ y ∈ ys, y ∈ xs) → ((Mo m ind ys (d + 1)).map fun p => p.length + (2 + ind * D)).sum ≤ Vc ys * (12 * L + 40 + 2 * (ind * D)) := by
    intro ys
    induction ys with
    | nil => intro _; simp [Mo]
    | cons y ys ihy =>
      intro hm
      have h1 := ih y (hm y Ga) (d + 1) (by have := Vh (hm y Ga); omega) (by have := Vf (hm y Ga); omega)
      have h2 := ihy (fun z hz => hm z (by simp [hz]))
      rw [Mo, List.map_cons, List.sum_cons, Vc, Nat.add_mul]
      omega
  have key2 : ∀ (ys : List Tree) (js : List Str), (∀ y ∈ ys, y ∈ xs) → (∀ k ∈ js, k.length ≤ L) → ((Ml m ind ys js (d + 1)).map fun p => p.length + (2 + ind * D)).sum ≤ Vc ys * (12 * L + 40 + 2 * (ind * D)) := by
    intro ys
    induction ys with
    | nil => intro _ _ _; simp [Ml]
    | cons y ys ihy =>
      intro js hm hj
      have h1 := ih y (hm y Ga) (d + 1) (by have := Vh (hm y Ga); omega) (by have := Vf (hm y Ga); omega)
      have h2 := ihy js.tail (fun z hz => hm z (by simp [hz])) (fun k hk => hj k (List.mem_of_mem_tail hk))
      have h3 : (js.headD []).length ≤ L := by
        cases js with
        | nil => simp
        | cons a b => exact hj a Ga
      have h4 := L0 (js.headD [])
      have h5 : (if m = true then ([32] : Str) else []).length ≤ 1 := by split <;> simp
      rw [Ml, List.map_cons, List.sum_cons, Vc, Nat.add_mul]
      simp only [List.length_append, List.length_cons, List.length_nil]
      omega
  have fin : ∀ (o c : UInt8) (ps : List Str) (N : Nat), (xs = [] → ps = []) → (ps.map fun p => p.length + (2 + ind * D)).sum ≤ N → (Kl m ind d o c ps).length + (6 * L + 6 + ind * D) ≤ 1 * (12 * L + 40 + 2 * (ind * D)) + N := by
    intro o c ps N he hN
    have h5 : (if ps = [] then ([] : Str) else Rl m ind d).length ≤ 1 + ind * D := by
      split
      · simp
      · omega
    have h6 : (Bm m ind d true ps).length ≤ N := by
      by_cases hp : ps = []
      · subst hp; rw [Bm]; simp
      · have hx : xs ≠ [] := fun h => hp (he h)
        have h7 : 1 ≤ Xc xs := by
          cases xs with
          | nil => exact absurd rfl hx
          | cons a b => rw [Xc]; have : 1 ≤ Hd a := by (obtain ⟨_, _, _, _⟩ := a; rw [Hd]; omega)
                        omega
        exact Nat.le_trans (As m ind d D by_Om ps true) hN
    rw [Kl]
    simp only [List.length_append, List.length_cons, List.length_nil]
    omega
  rw [Ni, Qc, Nat.add_mul]
  split
  · simp only [List.length_cons, List.length_nil]; omega
  split
  · omega
  split
  · exact fin _ _ _ _ (fun h => by rw [h, Mo]) (key1 xs (fun _ h => h))
  split
  · exact fin _ _ _ _ (fun h => by rw [h, Ml]) (key2 xs ks (fun _ h => h) (fun k hk => by have := Lj hk; omega))
  · omega) x
end Go.Scarf
namespace Go.Scarf
def Pq (x : Tree) : Str := if Wd x = true then Ni false 0 x 0 else []
def JH (x : Tree) : Int := if Wd x = true then 0 else 1
theorem Sp (q : Tree → Bool) : ∀ xs : List Tree, Qm q xs = xs.all (Xd q)
  | [] => rfl
  | x :: xs => by rw [Qm, Sp q xs]; rfl
def PM (x : Tree) : Bool := decide (x.kind ≠ 7)
theorem KE (p q : Tree → Bool) (x : Tree) : Xd (fun x => p x && q x) x = (Xd p x && Xd q x) := Tree.ind (Q := fun x => Xd (fun x => p x && q x) x = (Xd p x && Xd q x)) (fun k t ks xs ih => by
  rw [Xd, Xd, Xd, Sp, Sp, Sp]
  have h : xs.all (Xd fun x => p x && q x) = (xs.all (Xd p) && xs.all (Xd q)) := by
    rw [Bool.eq_iff_iff, Bool.and_eq_true, List.all_eq_true, List.all_eq_true, List.all_eq_true]
    refine ⟨fun g => ⟨fun y hy => ?_, fun y hy => ?_⟩, fun g y hy => ?_⟩
    · have := g y hy; rw [ih y hy, Bool.and_eq_true] at this; exact this.1
    · have := g y hy; rw [ih y hy, Bool.and_eq_true] at this; exact this.2
    · rw [ih y hy, Bool.and_eq_true]; exact ⟨g.1 y hy, g.2 y hy⟩
  rw [h]
  cases p (.node k t ks xs) <;> cases q (.node k t ks xs) <;> simp) x
theorem YD (x : Tree) : Wd x = (Bj x && Xd PM x) := by
  have h : Xd rnodeB x = (Xd PM x && Xd nodeB x) := KE PM nodeB x
  rw [Wd, Bj, h]
  cases Wn x <;> cases Xd PM x <;> simp
theorem Ll {x : Tree} (h : Wd x = true) : Bj x = true := by
  rw [YD, Bool.and_eq_true] at h; exact h.1
theorem U3 (x : Tree) (h : Qc x ≤ 1000000000) : Qc (Yf x) ≤ 1000000000 := by
  by_cases ho : Bj x = true
  · rw [Xl ho, (Ht x (Ym ho)).1]; exact h
  · rw [Yf, if_neg ho]; decide
theorem Qu (x : Tree) : Rf (Yf x) ≤ Rf x := by
  by_cases ho : Bj x = true
  · rw [Xl ho]; exact KF x
  · rw [Yf, if_neg ho]
    have : Rf CF = 0 := by decide
    omega
end Go.Scarf
namespace Go.Scarf
open Go.RowKit Go.Proofs Go.Proofs.Tryz
def LC (x : Tree) (ind d : Int) : Prop := Wd x = true ∧ (0 ≤ ind ∧ ind ≤ 8) ∧ (0 ≤ d ∧ d ≤ 32)
instance (x : Tree) (ind d : Int) : Decidable (LC x ind d) := by unfold LC; infer_instance
theorem Mz {x : Tree} (h : Wd x = true) (hm : Rf x ≤ 1073741824) (m : Bool) (ind d : Nat) (hi : ind ≤ 8) (hd : d ≤ 32) : (Ni m ind x d).length ≤ 140737488355328 := by
  have h1 := Wu h
  have h2 := R_ m ind (Rf x) 64 x d (Nat.le_refl _) by_Om
  have h3 : Qc x ≤ 4096 := JA (Ll h)
  have h4 : ind * 64 ≤ 8 * 64 := Nat.mul_le_mul_right _ hi
  have h5 : Qc x * (12 * Rf x + 40 + 2 * (ind * 64)) ≤ 4096 * (12 * 1073741824 + 40 + 2 * 512) := Nat.mul_le_mul h3 by_Om
  omega
theorem KK (x : Tree) (S : Nat → Prop) (w0 : World) (cs : List Value) (rx : Rep S w0 (Ed x) cs) (hG : Gl w0) (hsz : Qc x ≤ 1000000000) (hm : Rf x ≤ 1073741824) : Calls prog 99 #[.agg cs.toArray] w0 (Md fun v w' => v = .tuple #[.string (bs (Pq x)), .int .i64 (JH x)] ∧ Same [] w0 w') := by
  refine Ue (CB x S w0 cs rx hG (V0 x by_Om) (PF x by_Om) hsz (fun h => Mz h hm _ _ _ by_Om by_Om)) fun v w' ⟨h1, h2⟩ => ⟨?_, h2⟩
  rw [h1, Pq, JH]
  split <;> rfl
end Go.Scarf
