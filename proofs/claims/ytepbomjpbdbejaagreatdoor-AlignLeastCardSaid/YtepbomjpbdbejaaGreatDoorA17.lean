/- A part of the proof. -/
import Derived.Test.YtepbomjpbdbejaaGreatDoorA15
import Derived.Test.YtepbomjpbdbejaaGreatDoorA16
set_option linter.all false
set_option maxHeartbeats 8000000
set_option maxRecDepth 10000
namespace Go.Scarf
section
variable {α : Type} (sz : α → Nat) (p : α → α → Nat)
inductive AliP : Nat → Nat → List α → List α → List (Nat × Nat) → Nat → Prop
  | nil {i j : Nat} : AliP i j [] [] [] 0
  | pair {i j : Nat} {x y : α} {xs ys : List α} {m : List (Nat × Nat)} {c : Nat} : AliP (i + 1) (j + 1) xs ys m c → AliP i j (x :: xs) (y :: ys) ((i, j) :: m) (p x y + c)
  | drop {i j : Nat} {x : α} {xs ys : List α} {m : List (Nat × Nat)} {c : Nat} : AliP (i + 1) j xs ys m c → AliP i j (x :: xs) ys m (sz x + c)
  | add {i j : Nat} {y : α} {xs ys : List α} {m : List (Nat × Nat)} {c : Nat} : AliP i (j + 1) xs ys m c → AliP i j xs (y :: ys) m (sz y + c)
def Wl (h : Nat → Bool) : Nat → List α → Nat
  | _, [] => 0
  | i, x :: xs => (if h i then 0 else sz x) + Wl h (i + 1) xs
end
def J6 (q : Nat → Nat → Nat) (m : List (Nat × Nat)) : Nat := (m.map fun z => q z.1 z.2).sum
def Pt (m : List (Nat × Nat)) (k : Nat) : Bool := m.any fun z => z.1 == k
def Vt (m : List (Nat × Nat)) (k : Nat) : Bool := m.any fun z => z.2 == k
section
variable {α : Type} {sz : α → Nat} {p : α → α → Nat}
theorem AliP.ali {i j : Nat} {xs ys : List α} {m : List (Nat × Nat)} {c : Nat} (h : AliP sz p i j xs ys m c) : Ali sz p xs ys c := by
  induction h with
  | nil => exact .nil
  | pair _ ih => exact .pair ih
  | drop _ ih => exact .drop ih
  | add _ ih => exact .add ih
theorem RiseN.low {n size : Nat} {i j k l : Nat} {m : List (Nat × Nat)} (h : RiseN n size k l m) (h1 : i ≤ k) (h2 : j ≤ l) : RiseN n size i j m := by
  cases m with
  | nil => have h : l ≤ size := h; exact Nat.le_trans h2 h
  | cons z m => exact ⟨Nat.le_trans h1 h.1, h.2.1, Nat.le_trans h2 h.2.2.1, h.2.2.2⟩
theorem AliP.rise {i j : Nat} {xs ys : List α} {m : List (Nat × Nat)} {c : Nat} (h : AliP sz p i j xs ys m c) : RiseN (i + xs.length) (j + ys.length) i j m := by
  induction h with
  | nil => exact Nat.le_refl _
  | @pair i j x y xs ys m c _ ih =>
    rw [List.length_cons, List.length_cons, show i + (xs.length + 1) = i + 1 + xs.length by omega, show j + (ys.length + 1) = j + 1 + ys.length by omega]
    exact ⟨Nat.le_refl _, by show i < _; omega, Nat.le_refl _, by show j < _; omega, ih⟩
  | @drop i j x xs ys m c _ ih =>
    rw [List.length_cons, show i + (xs.length + 1) = i + 1 + xs.length by omega]
    exact ih.low (Nat.le_succ _) (Nat.le_refl _)
  | @add i j y xs ys m c _ ih =>
    rw [List.length_cons, show j + (ys.length + 1) = j + 1 + ys.length by omega]
    exact ih.low (Nat.le_refl _) (Nat.le_succ _)
theorem Oj : ∀ (k : Nat) (xs ys : List α) (i j : Nat) (m : List (Nat × Nat)), xs.length + ys.length ≤ k → RiseN (i + xs.length) (j + ys.length) i j m → ∃ c, AliP sz p i j xs ys m c
  | _, [], [], i, j, [], _, _ => ⟨_, .nil⟩
  | _, [], [], i, j, z :: m, _, h => by have h1 := h.1; have h2 := h.2.1; simp only [List.length_nil] at h2; omega
  | 0, x :: xs, ys, _, _, _, hk, _ => by simp only [List.length_cons] at hk; omega
  | 0, [], y :: ys, _, _, _, hk, _ => by simp only [List.length_cons, List.length_nil] at hk; omega
  | k + 1, [], y :: ys, i, j, m, hk, h => by
    rw [List.length_cons, show j + (ys.length + 1) = j + 1 + ys.length by omega] at h
    cases m with
    | nil => obtain ⟨c, hc⟩ := Oj k [] ys i (j + 1) [] (by simp only [List.length_cons, List.length_nil] at hk ⊢; omega) (by show j + 1 ≤ _; omega); exact ⟨_, .add hc⟩
    | cons z m => have h1 := h.1; have h2 := h.2.1; simp only [List.length_nil] at h2; omega
  | k + 1, x :: xs, ys, i, j, [], hk, h => by
    obtain ⟨c, hc⟩ := Oj k xs ys (i + 1) j [] (by simp only [List.length_cons] at hk; omega) (by show j ≤ _; omega)
    exact ⟨_, .drop hc⟩
  | k + 1, x :: xs, ys, i, j, (a, b) :: m, hk, h => by
    have h' := h
    obtain ⟨h1, h2, h3, h4, h5⟩ := h'
    simp only at h1 h2 h3 h4 h5
    by_cases e : a = i
    · subst e
      cases ys with
      | nil => simp only [List.length_nil] at h4; omega
      | cons y ys =>
        simp only [List.length_cons] at hk h h2 h4 h5
        by_cases e2 : b = j
        · subst e2
          rw [show a + (xs.length + 1) = a + 1 + xs.length by omega, show b + (ys.length + 1) = b + 1 + ys.length by omega] at h5
          obtain ⟨c, hc⟩ := Oj k xs ys (a + 1) (b + 1) m by_Om h5
          exact ⟨_, .pair hc⟩
        · rw [show j + (ys.length + 1) = j + 1 + ys.length by omega] at h4 h5
          obtain ⟨c, hc⟩ := Oj k (x :: xs) ys a (j + 1) ((a, b) :: m) (by simp only [List.length_cons]; omega) ⟨Nat.le_refl _, by simp only [List.length_cons]; omega, by show j + 1 ≤ b; omega, h4, by simpa only [List.length_cons] using h5⟩
          exact ⟨_, .add hc⟩
    · rw [List.length_cons, show i + (xs.length + 1) = i + 1 + xs.length by omega] at h2 h5
      obtain ⟨c, hc⟩ := Oj k xs ys (i + 1) j ((a, b) :: m) (by simp only [List.length_cons] at hk; omega) ⟨by show i + 1 ≤ a; omega, h2, h3, h4, h5⟩
      exact ⟨_, .drop hc⟩
theorem Ks {h g : Nat → Bool} : ∀ (xs : List α) (i : Nat), (∀ k, i ≤ k → h k = g k) → Wl sz h i xs = Wl sz g i xs
  | [], _, _ => rfl
  | x :: xs, i, hh => by rw [Wl, Wl, hh i (Nat.le_refl _), Ks xs (i + 1) fun k hk => hh k by_Om]
theorem Nv {h : Nat → Bool} (x : α) : ∀ (xs : List α) (i : Nat), Wl sz h i (xs ++ [x]) = Wl sz h i xs + (if h (i + xs.length) then 0 else sz x)
  | [], i => by rw [List.nil_append, Wl, Wl, Wl, List.length_nil, Nat.add_zero, Nat.zero_add, Nat.add_zero]
  | y :: ys, i => by rw [List.cons_append, Wl, Wl, Nv x ys (i + 1), List.length_cons, show i + 1 + ys.length = i + (ys.length + 1) by omega, Nat.add_assoc]
theorem RH {m : List (Nat × Nat)} {i : Nat} (h : ∀ z ∈ m, i + 1 ≤ z.1) : Pt m i = false := by
  rw [Pt, List.any_eq_false]
  intro z hz
  have := h z hz
  simp only [beq_iff_eq]
  omega
theorem NK {m : List (Nat × Nat)} {i : Nat} (h : ∀ z ∈ m, i + 1 ≤ z.2) : Vt m i = false := by
  rw [Vt, List.any_eq_false]
  intro z hz
  have := h z hz
  simp only [beq_iff_eq]
  omega
theorem RiseN.aboveA {n size : Nat} : ∀ {m : List (Nat × Nat)} {k j : Nat}, RiseN n size k j m → ∀ z ∈ m, k ≤ z.1
  | [], _, _, _, z, hz => by cases hz
  | y :: m, _, _, h, z, hz => by
    rcases List.mem_cons.1 hz with rfl | hz
    · exact h.1
    · have := RiseN.aboveA h.2.2.2.2 z hz; have := h.1; omega
theorem X2 {m : List (Nat × Nat)} {a b k : Nat} : Pt ((a, b) :: m) k = ((a == k) || Pt m k) := rfl
theorem Y3 {m : List (Nat × Nat)} {a b k : Nat} : Vt ((a, b) :: m) k = ((b == k) || Vt m k) := rfl
theorem AliP.cost {X Y : Nat → α} {i j : Nat} {xs ys : List α} {m : List (Nat × Nat)} {c : Nat} (h : AliP sz p i j xs ys m c) (hX : ∀ k (h : k < xs.length), X (i + k) = xs[k]) (hY : ∀ k (h : k < ys.length), Y (j + k) = ys[k]) :
    c = Wl sz (Pt m) i xs + Wl sz (Vt m) j ys + J6 (fun a b => p (X a) (Y b)) m := by
  induction h with
  | nil => rfl
  | @pair i j x y xs ys m c ha ih =>
    have ih := ih (fun k hk => by rw [show i + 1 + k = i + (k + 1) by omega, hX (k + 1) (by simp only [List.length_cons]; omega), List.getElem_cons_succ]) (fun k hk => by rw [show j + 1 + k = j + (k + 1) by omega, hY (k + 1) (by simp only [List.length_cons]; omega), List.getElem_cons_succ])
    have x0 := hX 0 Ga
    have y0 := hY 0 Ga
    rw [Nat.add_zero, List.getElem_cons_zero] at x0 y0
    rw [Wl, Wl, X2, Y3, beq_self_eq_true, beq_self_eq_true, Bool.true_or, Bool.true_or, if_pos rfl, if_pos rfl, Ks (g := Pt m) xs (i + 1) (fun k hk => by rw [X2, beq_eq_false_iff_ne.2 by_Om, Bool.false_or]), Ks (g := Vt m) ys (j + 1) (fun k hk => by rw [Y3, beq_eq_false_iff_ne.2 by_Om, Bool.false_or])]
    have e : J6 (fun a b => p (X a) (Y b)) ((i, j) :: m) = p x y + J6 (fun a b => p (X a) (Y b)) m := by unfold J6; rw [List.map_cons, List.sum_cons]; show p (X i) (Y j) + _ = p x y + _; rw [x0, y0]
    rw [e, ih]
    omega
  | @drop i j x xs ys m c ha ih =>
    have ih := ih (fun k hk => by rw [show i + 1 + k = i + (k + 1) by omega, hX (k + 1) (by simp only [List.length_cons]; omega), List.getElem_cons_succ]) hY
    rw [Wl, RH ha.rise.aboveA, ih, if_neg Ra]
    omega
  | @add i j y xs ys m c ha ih =>
    have ih := ih hX (fun k hk => by rw [show j + 1 + k = j + (k + 1) by omega, hY (k + 1) (by simp only [List.length_cons]; omega), List.getElem_cons_succ])
    rw [Wl, NK ha.rise.above, ih, if_neg Ra]
    omega
theorem G9 : ∀ (xs : List α) (i j : Nat), AliP sz p i j xs [] [] (al sz p xs [])
  | [], _, _ => .nil
  | x :: xs, i, j => by rw [F8]; exact .drop (G9 xs (i + 1) j)
theorem E4 : ∀ (ys : List α) (i j : Nat), AliP sz p i j [] ys [] (al sz p [] ys)
  | [], _, _ => .nil
  | y :: ys, i, j => by rw [X3]; exact .add (E4 ys i (j + 1))
end
theorem VM (la lb : List TreeN) : ∀ (k i j : Nat), (la.length - i) + (lb.length - j) ≤ k → ∃ mp, Y0 i j (la.drop i) (lb.drop j) = Mc mp ∧ AliP Jg pN i j (la.drop i) (lb.drop j) mp (al Jg pN (la.drop i) (lb.drop j)) := by
  intro k
  induction k with
  | zero =>
    intro i j hk
    rw [Nu by_Om, List.drop_eq_nil_of_le (show la.length ≤ i by omega), List.drop_eq_nil_of_le (show lb.length ≤ j by omega)]
    exact ⟨[], rfl, .nil⟩
  | succ k ih =>
    intro i j hk
    by_cases h1 : i < la.length
    · by_cases h2 : j < lb.length
      · have hc := Jq (sz := Jg) (p := pN) la[i] lb[j] (la.drop (i + 1)) (lb.drop (j + 1))
        rw [Yt h1 h2]
        by_cases c1 : al Jg pN (la.drop i) (lb.drop j) = pN la[i] lb[j] + al Jg pN (la.drop (i + 1)) (lb.drop (j + 1))
        · obtain ⟨mp, e, h⟩ := ih (i + 1) (j + 1) by_Om
          rw [if_pos c1, e, c1, List.drop_eq_getElem_cons h1, List.drop_eq_getElem_cons h2]
          exact ⟨(i, j) :: mp, rfl, .pair h⟩
        · rw [if_neg c1]
          by_cases c2 : al Jg pN (la.drop i) (lb.drop j) = Jg la[i] + al Jg pN (la.drop (i + 1)) (lb.drop j)
          · obtain ⟨mp, e, h⟩ := ih (i + 1) j by_Om
            rw [if_pos c2, e, c2]
            refine ⟨mp, rfl, ?_⟩
            rw [List.drop_eq_getElem_cons h1]
            exact .drop h
          · obtain ⟨mp, e, h⟩ := ih i (j + 1) by_Om
            have c3 : al Jg pN (la.drop i) (lb.drop j) = Jg lb[j] + al Jg pN (la.drop i) (lb.drop (j + 1)) := by
              rw [← List.drop_eq_getElem_cons h1, ← List.drop_eq_getElem_cons h2] at hc
              omega
            rw [if_neg c2, e, c3]
            refine ⟨mp, rfl, ?_⟩
            rw [List.drop_eq_getElem_cons h2]
            exact .add h
      · rw [Nu by_Om, List.drop_eq_nil_of_le (show lb.length ≤ j by omega)]
        exact ⟨[], rfl, G9 _ _ _⟩
    · rw [Nu by_Om, List.drop_eq_nil_of_le (show la.length ≤ i by omega)]
      exact ⟨[], rfl, E4 _ _ _⟩
theorem Rr {n size : Nat} : ∀ (mp : List (Nat × Nat)) (k j : Nat) (q : Int × Int), RiseN n size k j mp → q.1 < k → q.2 < j → Dl n size q (Mc mp) = true
  | [], _, _, _, _, _, _ => rfl
  | z :: mp, k, j, q, h, h1, h2 => by
    obtain ⟨a1, a2, a3, a4, a5⟩ := h
    show (decide (q.1 < (z.1 : Int) ∧ q.2 < (z.2 : Int) ∧ (z.1 : Int) < n ∧ (z.2 : Int) < size) && Dl n size ((z.1 : Int), (z.2 : Int)) (Mc mp)) = true
    rw [Rr mp (z.1 + 1) (z.2 + 1) _ a5 (by show (z.1 : Int) < _; omega) (by show (z.2 : Int) < _; omega), decide_eq_true by_Om]
    rfl
theorem Zv {α β : Type} {sz : β → Nat} {p : β → β → Nat} (f : α → β) : ∀ xs ys : List α, al sz p (xs.map f) (ys.map f) = al (fun x => sz (f x)) (fun x y => p (f x) (f y)) xs ys
  | [], [] => rfl
  | [], y :: ys => by rw [List.map_nil, List.map_cons, X3, X3, ← Zv f [] ys, List.map_nil]
  | x :: xs, [] => by rw [List.map_nil, List.map_cons, F8, F8, ← Zv f xs [], List.map_nil]
  | x :: xs, y :: ys => by
    rw [List.map_cons, List.map_cons, Jq, Jq, ← Zv f xs ys, ← Zv f xs (y :: ys), ← Zv f (x :: xs) ys, List.map_cons, List.map_cons]
termination_by xs ys => xs.length + ys.length
theorem N6 {x y : List Tree} (hx : ∀ z ∈ x, Zb z = true ∧ Ac z ≤ 256) (hy : ∀ z ∈ y, Zb z = true ∧ Ac z ≤ 256) : al Jg pN (x.map Fb) (y.map Fb) = 0 ↔ x.length = y.length ∧ ∀ i (h1 : i < x.length) (h2 : i < y.length), Gm x[i] y[i] = true := by
  rw [Zv, PM (fun z => DR z)]
  refine and_congr Iff.rfl (forall_congr' fun i => forall_congr' fun h1 => forall_congr' fun h2 => ?_)
  have q1 := hx _ (List.getElem_mem h1)
  have q2 := hy _ (List.getElem_mem h2)
  exact HM q1.1 q2.1 q1.2 q2.2
def Xz (a b : List Tree) (mp : List (Nat × Nat)) : Nat := Wl Jg (Pt mp) 0 (a.map Fb) + Wl Jg (Vt mp) 0 (b.map Fb) + J6 (fun i j => pN (Fb (a.getD i Vr)) (Fb (b.getD j Vr))) mp
theorem G3 {a b : List Tree} {mp : List (Nat × Nat)} {c : Nat} (h : AliP Jg pN 0 0 (a.map Fb) (b.map Fb) mp c) : c = Xz a b mp :=
  h.cost (X := fun i => Fb (a.getD i Vr)) (Y := fun j => Fb (b.getD j Vr)) (fun k hk => by rw [Nat.zero_add, List.getElem_map, List.getD_eq_getElem?_getD, List.getElem?_eq_getElem (by simpa using hk), Option.getD_some]) (fun k hk => by rw [Nat.zero_add, List.getElem_map, List.getD_eq_getElem?_getD, List.getElem?_eq_getElem (by simpa using hk), Option.getD_some])
theorem NJ {a b : List Tree} {mp : List (Nat × Nat)} (h : RiseN a.length b.length 0 0 mp) : al Jg pN (a.map Fb) (b.map Fb) ≤ Xz a b mp := by
  obtain ⟨c, hc⟩ := Oj (sz := Jg) (p := pN) _ (a.map Fb) (b.map Fb) 0 0 mp (Nat.le_refl _) (by rw [Nat.zero_add, Nat.zero_add, List.length_map, List.length_map]; exact h)
  rw [← G3 hc]
  exact UC hc.ali
theorem TE (a b : List Tree) : ∃ mp, Y0 0 0 (a.map Fb) (b.map Fb) = Mc mp ∧ RiseN a.length b.length 0 0 mp ∧ Xz a b mp = al Jg pN (a.map Fb) (b.map Fb) := by
  obtain ⟨mp, e, h⟩ := VM (a.map Fb) (b.map Fb) _ 0 0 (Nat.le_refl _)
  rw [List.drop_zero, List.drop_zero] at e h
  have hr := h.rise
  rw [Nat.zero_add, Nat.zero_add, List.length_map, List.length_map] at hr
  exact ⟨mp, e, hr, (G3 h).symm⟩
end Go.Scarf
