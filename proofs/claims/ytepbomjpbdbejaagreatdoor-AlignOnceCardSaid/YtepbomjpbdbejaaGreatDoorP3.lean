/- A part of the proof. -/
import Derived.Test.YtepbomjpbdbejaaGreatDoorBd
import Derived.Test.YtepbomjpbdbejaaGreatDoorP1
set_option linter.all false
set_option maxHeartbeats 8000000
set_option maxRecDepth 10000
namespace Go.Scarf
theorem E7 : ∀ {xs : List Tree}, (∀ x ∈ xs, K7 x) → F6 xs
  | [], _ => by rw [F6]; trivial
  | x :: xs, h => by rw [F6]; exact ⟨h x Fa, E7 (fun y hy => h y (by simp [hy]))⟩
mutual
def If : Tree → Nat | .node _ t ks xs => max t.length (max (Vk ks) (Yj xs))
def Yj : List Tree → Nat | [] => 0 | x :: xs => max (If x) (Yj xs)
def Vk : List Str → Nat | [] => 0 | k :: ks => max k.length (Vk ks)
end
theorem Aj : ∀ {ks : List Str} {k : Str}, k ∈ ks → k.length ≤ Vk ks
  | y :: ys, k, h => by
    rw [Vk]
    rcases List.mem_cons.1 h with rfl | h
    · omega
    · have := Aj h; omega
theorem Ih : ∀ {xs : List Tree} {x : Tree}, x ∈ xs → If x ≤ Yj xs
  | y :: ys, k, h => by
    rw [Yj]
    rcases List.mem_cons.1 h with rfl | h
    · omega
    · have := Ih h; omega
theorem Y2 {n : Nat} : ∀ {ks : List Str}, (∀ k ∈ ks, k.length ≤ n) → Vk ks ≤ n
  | [], _ => by rw [Vk]; omega
  | k :: ks, h => by
    rw [Vk]
    have h1 := h k Fa
    have h2 := Y2 (fun y hy => h y (by simp [hy]) : ∀ k ∈ ks, k.length ≤ n)
    omega
theorem Ww {n : Nat} : ∀ {xs : List Tree}, (∀ x ∈ xs, If x ≤ n) → Yj xs ≤ n
  | [], _ => by rw [Yj]; omega
  | k :: ks, h => by
    rw [Yj]
    have h1 := h k Fa
    have h2 := Ww (fun y hy => h y (by simp [hy]) : ∀ x ∈ ks, If x ≤ n)
    omega
theorem DE (x : Tree) : If x ≤ 17592186044416 → K7 x := Tree.ind (Q := fun x => If x ≤ 17592186044416 → K7 x) (fun k t ks xs ih h => by
  rw [If] at h
  rw [K7]
  exact ⟨by omega, fun k hk => by have := Aj hk; omega, E7 fun y hy => ih y hy (by have := Ih hy; omega)⟩) x
theorem Xz (x : Tree) : If x ≤ 17592186044416 → Bx x := Tree.ind (Q := fun x => If x ≤ 17592186044416 → Bx x) (fun k t ks xs ih h => by
  rw [If] at h
  rw [Bx]
  exact ⟨by omega, fun k hk => by have := Aj hk; omega, P8 fun y hy => ih y hy (by have := Ih hy; omega)⟩) x
theorem UD (x : Tree) : If (Lh x) ≤ If x := Tree.ind (Q := fun x => If (Lh x) ≤ If x) (fun k t ks xs ih => by
  have hs : ∀ y ∈ Ue xs, If y ≤ Yj xs := by
    intro y hy
    rw [Ii] at hy
    obtain ⟨z, hz, rfl⟩ := List.mem_map.1 hy
    exact Nat.le_trans (ih z hz) (Ih hz)
  rw [Lh]
  split
  · rw [If, If]
    have h1 : Vk (Yi ks) ≤ Vk ks := Y2 fun k hk => Aj (Qs.1 hk)
    have h2 : Yj ((Yi ks).map fun key => (Ah ks (Ue xs) key).getD (.node 0 [] [] [])) ≤ Yj xs := Ww fun y hy => by
      obtain ⟨key, _, rfl⟩ := List.mem_map.1 hy
      cases hl : Ah ks (Ue xs) key with
      | none => simp [If, Vk, Yj]
      | some z => exact hs z (Vx hl)
    omega
  · rw [If, If]
    have h2 := Ww hs
    have h3 : Vk [] = 0 := by rw [Vk]
    omega) x
theorem Es (m : Bool) (ind d : Nat) (D : Nat) (hD : d + 1 ≤ D) : ∀ (ps : List Str) (b : Bool), (Sl m ind d b ps).length ≤ (ps.map fun p => p.length + (2 + ind * D)).sum
  | [], b => by rw [Sl]; simp
  | p :: ps, b => by
    have h1 := Es m ind d D hD ps false
    have h2 := Er m ind (d + 1)
    have h3 : ind * (d + 1) ≤ ind * D := Nat.mul_le_mul_left _ hD
    have h4 : (if b = true then ([] : Str) else [44]).length ≤ 1 := by split <;> simp
    rw [Sl, List.map_cons, List.sum_cons]
    simp only [List.length_append]
    omega
theorem U_ (m : Bool) (ind L D : Nat) (x : Tree) : ∀ d, If x ≤ L → d + Hd x ≤ D → (Ci m ind x d).length + (6 * L + 6 + ind * D) ≤ Nc x * (12 * L + 40 + 2 * (ind * D)) :=
  Tree.ind (Q := fun x => ∀ d, If x ≤ L → d + Hd x ≤ D → (Ci m ind x d).length + (6 * L + 6 + ind * D) ≤ Nc x * (12 * L + 40 + 2 * (ind * D))) (fun k t ks xs ih d hL hd => by
  rw [If] at hL
  rw [Hd] at hd
  have hq := Zx t
  have hl := Er m ind d
  have hid : ind * d ≤ ind * D := Nat.mul_le_mul_left _ by_Om
  have key1 : ∀ ys : List Tree, (∀ y ∈ ys, y ∈ xs) → ((Wn m ind ys (d + 1)).map fun p => p.length + (2 + ind * D)).sum ≤ Rc ys * (12 * L + 40 + 2 * (ind * D)) := by
    intro ys
    induction ys with
    | nil => intro _; simp [Wn]
    | cons y ys ihy =>
      intro hm
      have h1 := ih y (hm y Fa) (d + 1) (by have := Ih (hm y Fa); omega) (by have := Of (hm y Fa); omega)
      have h2 := ihy (fun z hz => hm z (by simp [hz]))
      rw [Wn, List.map_cons, List.sum_cons, Rc, Nat.add_mul]
      omega
  have key2 : ∀ (ys : List Tree) (js : List Str), (∀ y ∈ ys, y ∈ xs) → (∀ k ∈ js, k.length ≤ L) → ((Dl m ind ys js (d + 1)).map fun p => p.length + (2 + ind * D)).sum ≤ Rc ys * (12 * L + 40 + 2 * (ind * D)) := by
    intro ys
    induction ys with
    | nil => intro _ _ _; simp [Dl]
    | cons y ys ihy =>
      intro js hm hj
      have h1 := ih y (hm y Fa) (d + 1) (by have := Ih (hm y Fa); omega) (by have := Of (hm y Fa); omega)
      have h2 := ihy js.tail (fun z hz => hm z (by simp [hz])) (fun k hk => hj k (List.mem_of_mem_tail hk))
      have h3 : (js.headD []).length ≤ L := by
        cases js with
        | nil => simp
        | cons a b => exact hj a Fa
      have h4 := Zx (js.headD [])
      have h5 : (if m = true then ([32] : Str) else []).length ≤ 1 := by split <;> simp
      rw [Dl, List.map_cons, List.sum_cons, Rc, Nat.add_mul]
      simp only [List.length_append, List.length_cons, List.length_nil]
      omega
  have fin : ∀ (o c : UInt8) (ps : List Str) (N : Nat), (xs = [] → ps = []) → (ps.map fun p => p.length + (2 + ind * D)).sum ≤ N → (Xk m ind d o c ps).length + (6 * L + 6 + ind * D) ≤ 1 * (12 * L + 40 + 2 * (ind * D)) + N := by
    intro o c ps N he hN
    have h5 : (if ps = [] then ([] : Str) else El m ind d).length ≤ 1 + ind * D := by
      split
      · simp
      · omega
    have h6 : (Sl m ind d true ps).length ≤ N := by
      by_cases hp : ps = []
      · subst hp; rw [Sl]; simp
      · have hx : xs ≠ [] := fun h => hp (he h)
        have h7 : 1 ≤ Tc xs := by
          cases xs with
          | nil => exact absurd rfl hx
          | cons a b => rw [Tc]; have : 1 ≤ Hd a := by (obtain ⟨_, _, _, _⟩ := a; rw [Hd]; omega)
                        omega
        exact Nat.le_trans (Es m ind d D by_Om ps true) hN
    rw [Xk]
    simp only [List.length_append, List.length_cons, List.length_nil]
    omega
  rw [Ci, Nc, Nat.add_mul]
  split
  · simp only [List.length_cons, List.length_nil]; omega
  split
  · omega
  split
  · exact fin _ _ _ _ (fun h => by rw [h, Wn]) (key1 xs (fun _ h => h))
  split
  · exact fin _ _ _ _ (fun h => by rw [h, Dl]) (key2 xs ks (fun _ h => h) (fun k hk => by have := Aj hk; omega))
  · omega) x
end Go.Scarf
namespace Go.Scarf
def Qp (x : Tree) : Str := if Qd x = true then Ci false 0 x 0 else []
def XF (x : Tree) : Int := if Qd x = true then 0 else 1
theorem Bp (q : Tree → Bool) : ∀ xs : List Tree, Gm q xs = xs.all (Rd q)
  | [] => rfl
  | x :: xs => by rw [Gm, Bp q xs]; rfl
def EL (x : Tree) : Bool := decide (x.kind ≠ 7)
theorem SC (p q : Tree → Bool) (x : Tree) : Rd (fun x => p x && q x) x = (Rd p x && Rd q x) := Tree.ind (Q := fun x => Rd (fun x => p x && q x) x = (Rd p x && Rd q x)) (fun k t ks xs ih => by
  rw [Rd, Rd, Rd, Bp, Bp, Bp]
  have h : xs.all (Rd fun x => p x && q x) = (xs.all (Rd p) && xs.all (Rd q)) := by
    rw [Bool.eq_iff_iff, Bool.and_eq_true, List.all_eq_true, List.all_eq_true, List.all_eq_true]
    refine ⟨fun g => ⟨fun y hy => ?_, fun y hy => ?_⟩, fun g y hy => ?_⟩
    · have := g y hy; rw [ih y hy, Bool.and_eq_true] at this; exact this.1
    · have := g y hy; rw [ih y hy, Bool.and_eq_true] at this; exact this.2
    · rw [ih y hy, Bool.and_eq_true]; exact ⟨g.1 y hy, g.2 y hy⟩
  rw [h]
  cases p (.node k t ks xs) <;> cases q (.node k t ks xs) <;> simp) x
theorem TD (x : Tree) : Qd x = (Ui x && Rd EL x) := by
  have h : Rd rnodeB x = (Rd EL x && Rd nodeB x) := SC EL nodeB x
  rw [Qd, Ui, h]
  cases Wm x <;> cases Rd EL x <;> simp
theorem Cl {x : Tree} (h : Qd x = true) : Ui x = true := by
  rw [TD, Bool.and_eq_true] at h; exact h.1
theorem W1 (x : Tree) (h : Nc x ≤ 1000000000) : Nc (Pf x) ≤ 1000000000 := by
  by_cases ho : Ui x = true
  · rw [Jl ho, (Zs x (Em ho)).1]; exact h
  · rw [Pf, if_neg ho]; decide
theorem Mt (x : Tree) : If (Pf x) ≤ If x := by
  by_cases ho : Ui x = true
  · rw [Jl ho]; exact UD x
  · rw [Pf, if_neg ho]
    have : If JB = 0 := by decide
    omega
end Go.Scarf
namespace Go.Scarf
open Go.RowKit Go.Proofs Go.Proofs.Tryz
def KA (x : Tree) (ind d : Int) : Prop := Qd x = true ∧ (0 ≤ ind ∧ ind ≤ 8) ∧ (0 ≤ d ∧ d ≤ 32)
instance (x : Tree) (ind d : Int) : Decidable (KA x ind d) := by unfold KA; infer_instance
theorem Yy {x : Tree} (h : Qd x = true) (hm : If x ≤ 1073741824) (m : Bool) (ind d : Nat) (hi : ind ≤ 8) (hd : d ≤ 32) : (Ci m ind x d).length ≤ 140737488355328 := by
  have h1 := Lt h
  have h2 := U_ m ind (If x) 64 x d (Nat.le_refl _) by_Om
  have h3 : Nc x ≤ 4096 := O_ (Cl h)
  have h4 : ind * 64 ≤ 8 * 64 := Nat.mul_le_mul_right _ hi
  have h5 : Nc x * (12 * If x + 40 + 2 * (ind * 64)) ≤ 4096 * (12 * 1073741824 + 40 + 2 * 512) := Nat.mul_le_mul h3 by_Om
  omega
theorem AJ (x : Tree) (S : Nat → Prop) (w0 : World) (cs : List Value) (rx : Rep S w0 (Zc x) cs) (hG : Gl w0) (hsz : Nc x ≤ 1000000000) (hm : If x ≤ 1073741824) : Calls prog 99 #[.agg cs.toArray] w0 (Kd fun v w' => v = .tuple #[.string (bs (Qp x)), .int .i64 (XF x)] ∧ Same [] w0 w') := by
  refine Sh (X9 x S w0 cs rx hG (Xz x by_Om) (DE x by_Om) hsz (fun h => Yy h hm _ _ _ by_Om by_Om)) fun v w' ⟨h1, h2⟩ => ⟨?_, h2⟩
  rw [h1, Qp, XF]
  split <;> rfl
end Go.Scarf
