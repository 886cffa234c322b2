/- A part of the proof. -/
import Derived.Test.YtpliibolgknenaaGreatDoorMem
set_option linter.all false
namespace Go.Scarf
structure Nodes where
  lab : Nat → Str
  lf : Nat → Nat
  le : ∀ x, lf x ≤ x
def turn (a b : Nodes) (x y : Nat) : Nat := if a.lab x = b.lab y then 0 else 1
def fdF (a b : Nodes) : Nat → Nat → Nat → Nat → Nat → Nat
  | 0, i, k, j, l => (k - i) + (l - j)
  | f + 1, i, k, j, l =>
    if k ≤ i then l - j else if l ≤ j then k - i else
      let m := min (fdF a b f i (k - 1) j l) (fdF a b f i k j (l - 1)) + 1
      if i ≤ a.lf (k - 1) ∧ j ≤ b.lf (l - 1) then min m (fdF a b f i (a.lf (k - 1)) j (b.lf (l - 1)) + fdF a b f (a.lf (k - 1)) (k - 1) (b.lf (l - 1)) (l - 1) + turn a b (k - 1) (l - 1)) else m
def fd (a b : Nodes) (i k j l : Nat) : Nat := fdF a b ((k - i) + (l - j)) i k j l
theorem fdF_eq (a b : Nodes) : ∀ (f g i k j l : Nat), (k - i) + (l - j) ≤ f → (k - i) + (l - j) ≤ g → fdF a b f i k j l = fdF a b g i k j l
  | 0, 0, _, _, _, _, _, _ => rfl
  | 0, g + 1, i, k, j, l, h, _ => by rw [fdF, fdF, if_pos (by omega)]; omega
  | f + 1, 0, i, k, j, l, _, h => by rw [fdF, fdF, if_pos (by omega)]; omega
  | f + 1, g + 1, i, k, j, l, h1, h2 => by
    rw [fdF, fdF]
    split
    · rfl
    split
    · rfl
    have ha := a.le (k - 1)
    have hb := b.le (l - 1)
    have e1 : fdF a b f i (k - 1) j l = fdF a b g i (k - 1) j l := fdF_eq a b f g _ _ _ _ (by omega) (by omega)
    have e2 : fdF a b f i k j (l - 1) = fdF a b g i k j (l - 1) := fdF_eq a b f g _ _ _ _ (by omega) (by omega)
    simp only [e1, e2]
    split
    · rename_i hh
      rw [fdF_eq a b f g i (a.lf (k - 1)) j (b.lf (l - 1)) (by omega) (by omega), fdF_eq a b f g (a.lf (k - 1)) (k - 1) (b.lf (l - 1)) (l - 1) (by omega) (by omega)]
    · rfl
section
variable {a b : Nodes} {i k j l : Nat}
theorem fd_left (h : k ≤ i) : fd a b i k j l = l - j := by
  rw [fd]; cases hf : (k - i) + (l - j) with
  | zero => rw [fdF]; omega
  | succ f => rw [fdF, if_pos h]
theorem fd_right (h : l ≤ j) : fd a b i k j l = k - i := by
  rw [fd]; cases hf : (k - i) + (l - j) with
  | zero => rw [fdF]; omega
  | succ f =>
    rw [fdF, if_pos h]
    split <;> omega
theorem fd_step (h1 : i < k) (h2 : j < l) : fd a b i k j l =
    if i ≤ a.lf (k - 1) ∧ j ≤ b.lf (l - 1) then min (min (fd a b i (k - 1) j l) (fd a b i k j (l - 1)) + 1) (fd a b i (a.lf (k - 1)) j (b.lf (l - 1)) + fd a b (a.lf (k - 1)) (k - 1) (b.lf (l - 1)) (l - 1) + turn a b (k - 1) (l - 1))
    else min (fd a b i (k - 1) j l) (fd a b i k j (l - 1)) + 1 := by
  obtain ⟨f, hf⟩ : ∃ f, (k - i) + (l - j) = f + 1 := ⟨(k - i) + (l - j) - 1, by omega⟩
  have ha := a.le (k - 1)
  have hb := b.le (l - 1)
  conv => lhs; rw [fd, hf, fdF, if_neg (by omega), if_neg (by omega)]
  have e1 : fdF a b f i (k - 1) j l = fd a b i (k - 1) j l := fdF_eq a b _ _ _ _ _ _ (by omega) (by omega)
  have e2 : fdF a b f i k j (l - 1) = fd a b i k j (l - 1) := fdF_eq a b _ _ _ _ _ _ (by omega) (by omega)
  simp only [e1, e2]
  split
  · rename_i hh
    have e3 : fdF a b f i (a.lf (k - 1)) j (b.lf (l - 1)) = fd a b i (a.lf (k - 1)) j (b.lf (l - 1)) := fdF_eq a b _ _ _ _ _ _ (by omega) (by omega)
    have e4 : fdF a b f (a.lf (k - 1)) (k - 1) (b.lf (l - 1)) (l - 1) = fd a b (a.lf (k - 1)) (k - 1) (b.lf (l - 1)) (l - 1) := fdF_eq a b _ _ _ _ _ _ (by omega) (by omega)
    rw [e3, e4]
  · rfl
theorem fd_del (h : i < k) : fd a b i k j l ≤ fd a b i (k - 1) j l + 1 := by
  by_cases h2 : j < l
  · rw [fd_step h h2]; split <;> omega
  · rw [fd_right (by omega), fd_right (by omega)]; omega
theorem fd_ins (h : j < l) : fd a b i k j l ≤ fd a b i k j (l - 1) + 1 := by
  by_cases h2 : i < k
  · rw [fd_step h2 h]; split <;> omega
  · rw [fd_left (by omega), fd_left (by omega)]; omega
theorem fd_match (h1 : i < k) (h2 : j < l) (h3 : i ≤ a.lf (k - 1)) (h4 : j ≤ b.lf (l - 1)) :
    fd a b i k j l ≤ fd a b i (a.lf (k - 1)) j (b.lf (l - 1)) + fd a b (a.lf (k - 1)) (k - 1) (b.lf (l - 1)) (l - 1) + turn a b (k - 1) (l - 1) := by
  rw [fd_step h1 h2, if_pos ⟨h3, h4⟩]; omega
theorem fd_cases (h1 : i < k) (h2 : j < l) : fd a b i k j l = fd a b i (k - 1) j l + 1 ∨ fd a b i k j l = fd a b i k j (l - 1) + 1 ∨
    (i ≤ a.lf (k - 1) ∧ j ≤ b.lf (l - 1) ∧ fd a b i k j l = fd a b i (a.lf (k - 1)) j (b.lf (l - 1)) + fd a b (a.lf (k - 1)) (k - 1) (b.lf (l - 1)) (l - 1) + turn a b (k - 1) (l - 1)) := by
  rw [fd_step h1 h2]
  split
  · rename_i h; omega
  · omega
end
theorem fd_sub (a b : Nodes) : ∀ (n i p k j q l : Nat), (k - p) + (l - q) ≤ n → i ≤ p → p ≤ k → j ≤ q → q ≤ l → fd a b i k j l ≤ fd a b i p j q + fd a b p k q l := by
  intro n
  induction n with
  | zero =>
    intro i p k j q l hn h1 h2 h3 h4
    obtain rfl : p = k := by omega
    obtain rfl : q = l := by omega
    omega
  | succ n ih =>
    intro i p k j q l hn h1 h2 h3 h4
    by_cases hk : p < k
    · by_cases hl : q < l
      · rcases fd_cases (a := a) (b := b) hk hl with h | h | ⟨h5, h6, h⟩
        · have e := ih i p (k - 1) j q l (by omega) h1 (by omega) h3 h4
          have e2 := fd_del (a := a) (b := b) (i := i) (k := k) (j := j) (l := l) (by omega)
          omega
        · have e := ih i p k j q (l - 1) (by omega) h1 h2 h3 (by omega)
          have e2 := fd_ins (a := a) (b := b) (i := i) (k := k) (j := j) (l := l) (by omega)
          omega
        · have ha := a.le (k - 1)
          have hb := b.le (l - 1)
          have e := ih i p (a.lf (k - 1)) j q (b.lf (l - 1)) (by omega) h1 h5 h3 h6
          have e2 := fd_match (a := a) (b := b) (i := i) (k := k) (j := j) (l := l) (by omega) (by omega) (by omega) (by omega)
          omega
      · have e := ih i p (k - 1) j q l (by omega) h1 (by omega) h3 h4
        have e2 := fd_del (a := a) (b := b) (i := i) (k := k) (j := j) (l := l) (by omega)
        rw [fd_right (by omega : l ≤ q)] at e ⊢
        omega
    · by_cases hl : q < l
      · have e := ih i p k j q (l - 1) (by omega) h1 h2 h3 (by omega)
        have e2 := fd_ins (a := a) (b := b) (i := i) (k := k) (j := j) (l := l) (by omega)
        rw [fd_left (by omega : k ≤ p)] at e ⊢
        omega
      · obtain rfl : p = k := by omega
        obtain rfl : q = l := by omega
        omega
theorem fd_bounds (a b : Nodes) : ∀ (n i k j l : Nat), (k - i) + (l - j) ≤ n → fd a b i k j l ≤ (k - i) + (l - j) ∧ k - i ≤ fd a b i k j l + (l - j) ∧ l - j ≤ fd a b i k j l + (k - i) := by
  intro n
  induction n with
  | zero =>
    intro i k j l hn
    rw [fd_left (by omega)]; omega
  | succ n ih =>
    intro i k j l hn
    by_cases hk : i < k
    · by_cases hl : j < l
      · have h0 := fd_del (a := a) (b := b) (i := i) (k := k) (j := j) (l := l) hk
        have h1 := ih i (k - 1) j l (by omega)
        have h2 := ih i k j (l - 1) (by omega)
        have ha := a.le (k - 1)
        have hb := b.le (l - 1)
        rcases fd_cases (a := a) (b := b) hk hl with h | h | ⟨h5, h6, h⟩
        · omega
        · omega
        · have h3 := ih i (a.lf (k - 1)) j (b.lf (l - 1)) (by omega)
          have h4 := ih (a.lf (k - 1)) (k - 1) (b.lf (l - 1)) (l - 1) (by omega)
          omega
      · rw [fd_right (by omega)]; omega
    · rw [fd_left (by omega)]; omega
theorem fd_tri (a b c : Nodes) : ∀ (n i k j l g h : Nat), (k - i) + (l - j) + (h - g) ≤ n → fd a c i k g h ≤ fd a b i k j l + fd b c j l g h := by
  intro n
  induction n with
  | zero =>
    intro i k j l g h hn
    rw [fd_left (by omega)]; omega
  | succ n ih =>
    intro i k j l g h hn
    have bac := fd_bounds a c _ i k g h (Nat.le_refl _)
    have bab := fd_bounds a b _ i k j l (Nat.le_refl _)
    have bbc := fd_bounds b c _ j l g h (Nat.le_refl _)
    by_cases hk : i < k
    · by_cases hh : g < h
      · by_cases hl : j < l
        · have ha := a.le (k - 1)
          have hb := b.le (l - 1)
          have hc := c.le (h - 1)
          have d1 := fd_del (a := a) (b := c) (i := i) (k := k) (j := g) (l := h) hk
          have d2 := fd_ins (a := a) (b := c) (i := i) (k := k) (j := g) (l := h) hh
          rcases fd_cases (a := a) (b := b) hk hl with e | e | ⟨e1, e2, e⟩
          · have t := ih i (k - 1) j l g h (by omega)
            omega
          · rcases fd_cases (a := b) (b := c) hl hh with f | f | ⟨f1, f2, f⟩
            · have t := ih i k j (l - 1) g h (by omega)
              omega
            · have t := ih i k j l g (h - 1) (by omega)
              omega
            · have s := fd_sub b c _ j (b.lf (l - 1)) (l - 1) g (c.lf (h - 1)) (h - 1) (Nat.le_refl _) f1 (by omega) f2 (by omega)
              have t := ih i k j (l - 1) g (h - 1) (by omega)
              omega
          · rcases fd_cases (a := b) (b := c) hl hh with f | f | ⟨f1, f2, f⟩
            · have s := fd_sub a b _ i (a.lf (k - 1)) (k - 1) j (b.lf (l - 1)) (l - 1) (Nat.le_refl _) e1 (by omega) e2 (by omega)
              have t := ih i (k - 1) j (l - 1) g h (by omega)
              omega
            · have t := ih i k j l g (h - 1) (by omega)
              omega
            · have t1 := ih i (a.lf (k - 1)) j (b.lf (l - 1)) g (c.lf (h - 1)) (by omega)
              have t2 := ih (a.lf (k - 1)) (k - 1) (b.lf (l - 1)) (l - 1) (c.lf (h - 1)) (h - 1) (by omega)
              have m := fd_match (a := a) (b := c) (i := i) (k := k) (j := g) (l := h) hk hh e1 f2
              have t3 : turn a c (k - 1) (h - 1) ≤ turn a b (k - 1) (l - 1) + turn b c (l - 1) (h - 1) := by
                unfold turn
                by_cases g1 : a.lab (k - 1) = b.lab (l - 1)
                · rw [if_pos g1, g1]; omega
                · rw [if_neg g1]; split <;> omega
              omega
        · have e1 := fd_right (a := a) (b := b) (i := i) (k := k) (j := j) (l := l) (by omega)
          have e2 := fd_left (a := b) (b := c) (i := j) (k := l) (j := g) (l := h) (by omega)
          omega
      · have e1 := fd_right (a := a) (b := c) (i := i) (k := k) (j := g) (l := h) (by omega)
        have e2 := fd_right (a := b) (b := c) (i := j) (k := l) (j := g) (l := h) (by omega)
        omega
    · have e1 := fd_left (a := a) (b := c) (i := i) (k := k) (j := g) (l := h) (by omega)
      have e2 := fd_left (a := a) (b := b) (i := i) (k := k) (j := j) (l := l) (by omega)
      omega
def Closed (a : Nodes) (i k : Nat) : Prop := ∀ z, i ≤ z → z < k → i ≤ a.lf z
def Nested (a : Nodes) (n : Nat) : Prop := ∀ x, x < n → Closed a (a.lf x) x
def diff (a b : Nodes) (i k : Nat) : Nat := ((List.range' i (k - i)).filter fun z => decide (a.lab z ≠ b.lab z)).length
theorem diff_split (a b : Nodes) {i p k : Nat} (h1 : i ≤ p) (h2 : p ≤ k) : diff a b i k = diff a b i p + diff a b p k := by
  unfold diff
  have e : List.range' i (k - i) = List.range' i (p - i) ++ List.range' p (k - p) := by
    have := List.range'_append_1 (s := i) (m := p - i) (n := k - p)
    rw [show i + (p - i) = p by omega, show p - i + (k - p) = k - i by omega] at this
    exact this.symm
  rw [e, List.filter_append, List.length_append]
theorem diff_one (a b : Nodes) (x : Nat) : diff a b x (x + 1) = turn a b x x := by
  unfold diff turn
  rw [show x + 1 - x = 1 by omega]
  by_cases h : a.lab x = b.lab x
  · simp [h]
  · simp [h]
theorem fd_form (a b : Nodes) (n : Nat) (hn : Nested a n) (hl : ∀ x, x < n → a.lf x = b.lf x) : ∀ (m i k : Nat), k - i ≤ m → k ≤ n → Closed a i k → fd a b i k i k ≤ diff a b i k := by
  intro m
  induction m with
  | zero => intro i k hm hk _; rw [fd_left (by omega)]; omega
  | succ m ih =>
    intro i k hm hk hc
    by_cases h : i < k
    · have h1 := hc (k - 1) (by omega) (by omega)
      have ha := a.le (k - 1)
      have e := hl (k - 1) (by omega)
      have t := fd_match (a := a) (b := b) (i := i) (k := k) (j := i) (l := k) h h h1 (by omega)
      rw [← e] at t
      have r1 := ih i (a.lf (k - 1)) (by omega) (by omega) (fun z hz1 hz2 => hc z hz1 (by omega))
      have r2 := ih (a.lf (k - 1)) (k - 1) (by omega) (by omega) (hn (k - 1) (by omega))
      have s1 := diff_split a b (i := i) (p := a.lf (k - 1)) (k := k) (by omega) (by omega)
      have s2 := diff_split a b (i := a.lf (k - 1)) (p := k - 1) (k := k) (by omega) (by omega)
      have s3 := diff_one a b (k - 1)
      rw [show k - 1 + 1 = k by omega] at s3
      omega
    · rw [fd_left (by omega)]; omega
theorem fd_none (a b : Nodes) : ∀ (m i k j l : Nat), (k - i) + (l - j) ≤ m → fd a b i k j l = 0 → k - i = l - j ∧ ∀ z, z < k - i → a.lab (i + z) = b.lab (j + z) ∧ a.lf (i + z) + j = b.lf (j + z) + i := by
  intro m
  induction m with
  | zero => intro i k j l hm _; exact ⟨by omega, fun z hz => by omega⟩
  | succ m ih =>
    intro i k j l hm h0
    by_cases hk : i < k
    · by_cases hl : j < l
      · rcases fd_cases (a := a) (b := b) hk hl with h | h | ⟨h5, h6, h⟩
        · omega
        · omega
        · have ha := a.le (k - 1)
          have hb := b.le (l - 1)
          obtain ⟨r1, r2⟩ := ih i (a.lf (k - 1)) j (b.lf (l - 1)) (by omega) (by omega)
          obtain ⟨q1, q2⟩ := ih (a.lf (k - 1)) (k - 1) (b.lf (l - 1)) (l - 1) (by omega) (by omega)
          have ht : turn a b (k - 1) (l - 1) = 0 := by omega
          have ht2 : a.lab (k - 1) = b.lab (l - 1) := by unfold turn at ht; split at ht <;> first | assumption | omega
          refine ⟨by omega, fun z hz => ?_⟩
          by_cases c1 : z < a.lf (k - 1) - i
          · exact r2 z c1
          · by_cases c2 : i + z < k - 1
            · have := q2 (i + z - a.lf (k - 1)) (by omega)
              rw [show a.lf (k - 1) + (i + z - a.lf (k - 1)) = i + z by omega, show b.lf (l - 1) + (i + z - a.lf (k - 1)) = j + z by omega] at this
              exact ⟨this.1, by omega⟩
            · obtain rfl : z = k - 1 - i := by omega
              rw [show i + (k - 1 - i) = k - 1 by omega, show j + (k - 1 - i) = l - 1 by omega]
              exact ⟨ht2, by omega⟩
      · rw [fd_right (by omega)] at h0; omega
    · rw [fd_left (by omega)] at h0; exact ⟨by omega, fun z hz => by omega⟩
def td (a b : Nodes) (x y : Nat) : Nat := fd a b (a.lf x) (x + 1) (b.lf y) (y + 1)
theorem td_le (a b : Nodes) (x y : Nat) : td a b x y ≤ fd a b (a.lf x) x (b.lf y) y + turn a b x y := by
  have ha := a.le x
  have hb := b.le y
  have h := fd_match (a := a) (b := b) (i := a.lf x) (k := x + 1) (j := b.lf y) (l := y + 1) (by omega) (by omega) (by simp) (by simp)
  simp only [Nat.add_sub_cancel] at h
  rw [fd_left (Nat.le_refl (a.lf x))] at h
  unfold td
  omega
theorem fd_parts (a b : Nodes) {i x j y : Nat} (h1 : i ≤ a.lf x) (h2 : j ≤ b.lf y) :
    fd a b i (x + 1) j (y + 1) = min (min (fd a b i x j (y + 1)) (fd a b i (x + 1) j y) + 1) (fd a b i (a.lf x) j (b.lf y) + td a b x y) := by
  have ha := a.le x
  have hb := b.le y
  have d1 := fd_del (a := a) (b := b) (i := i) (k := x + 1) (j := j) (l := y + 1) (by omega)
  have d2 := fd_ins (a := a) (b := b) (i := i) (k := x + 1) (j := j) (l := y + 1) (by omega)
  have s := fd_sub a b _ i (a.lf x) (x + 1) j (b.lf y) (y + 1) (Nat.le_refl _) h1 (by omega) h2 (by omega)
  have t := td_le a b x y
  rcases fd_cases (a := a) (b := b) (i := i) (k := x + 1) (j := j) (l := y + 1) (by omega) (by omega) with h | h | ⟨h5, h6, h⟩ <;> simp only [Nat.add_sub_cancel] at h d1 d2 <;> unfold td at * <;> omega
theorem fd_root (a b : Nodes) {x y : Nat} :
    fd a b (a.lf x) (x + 1) (b.lf y) (y + 1) = min (min (fd a b (a.lf x) x (b.lf y) (y + 1)) (fd a b (a.lf x) (x + 1) (b.lf y) y) + 1) (fd a b (a.lf x) x (b.lf y) y + turn a b x y) := by
  have ha := a.le x
  have hb := b.le y
  have h := fd_step (a := a) (b := b) (i := a.lf x) (k := x + 1) (j := b.lf y) (l := y + 1) (by omega) (by omega)
  simp only [Nat.add_sub_cancel] at h
  rw [if_pos ⟨Nat.le_refl _, Nat.le_refl _⟩, fd_left (Nat.le_refl (a.lf x)), Nat.sub_self, Nat.zero_add] at h
  exact h
end Go.Scarf
namespace Go.Scarf
def lfOk (fs : List Int) (n : Nat) : Prop := ∀ j (h : j < fs.length), j < n → 0 ≤ fs[j] ∧ fs[j] ≤ (j : Int) ∧ ∀ i (hi : i < j), fs[j] ≤ (i : Int) → fs[j] ≤ fs[i]'(by omega)
def RightT (ls : List Str) (fs : List Int) : Prop := ls.length = fs.length ∧ ls.length ≤ 512 ∧ lfOk fs fs.length
def lfN (fs : List Int) (x : Nat) : Nat := min (fs.getD x 0).toNat x
def nodesT (ls : List Str) (fs : List Int) : Nodes := ⟨fun x => ls.getD x [], lfN fs, fun _ => Nat.min_le_right _ _⟩
theorem lfOk.at {fs : List Int} {n j : Nat} (h : lfOk fs n) (hj : j < fs.length) (hn : j < n) : ((lfN fs j : Nat) : Int) = fs[j] := by
  obtain ⟨h1, h2, -⟩ := h j hj hn
  have e : fs.getD j 0 = fs[j] := by simp [List.getD, hj]
  rw [lfN, e]
  omega
theorem lfOk.nest {fs : List Int} {n : Nat} (h : lfOk fs n) (hn : n ≤ fs.length) (ls : List Str) : Nested (nodesT ls fs) n := by
  intro x hx z hz1 hz2
  have e1 := h.at (j := x) (by omega) hx
  have e2 := h.at (j := z) (by omega) (by omega)
  have hz1' : lfN fs x ≤ z := hz1
  have := (h x (by omega) hx).2.2 z hz2 (by omega)
  show lfN fs x ≤ lfN fs z
  omega
theorem lfOk.closed {fs : List Int} (ls : List Str) (k : Nat) : Closed (nodesT ls fs) 0 k := fun _ _ _ => Nat.zero_le _
inductive Rts (fs : List Int) : Nat → List Nat → Prop
  | nil : Rts fs 0 []
  | snoc {r : Nat} {l : List Nat} : Rts fs (lfN fs r) l → Rts fs (r + 1) (l ++ [r])
theorem Rts.last {fs : List Int} {p r : Nat} {l : List Nat} (h : Rts fs p (l ++ [r])) : p = r + 1 ∧ Rts fs (lfN fs r) l := by
  generalize e : l ++ [r] = m at h
  cases h with
  | nil => simp at e
  | snoc h1 =>
    obtain ⟨rfl, e2⟩ := List.append_inj' e rfl
    simp only [List.cons.injEq, and_true] at e2
    subst e2
    exact ⟨rfl, h1⟩
theorem Rts.none {fs : List Int} {p : Nat} (h : Rts fs p []) : p = 0 := by
  generalize e : ([] : List Nat) = m at h
  cases h with
  | nil => rfl
  | snoc h1 => simp at e
theorem Rts.len {fs : List Int} {p : Nat} {l : List Nat} (h : Rts fs p l) : l.length ≤ p := by
  induction h with
  | nil => simp
  | snoc h1 ih =>
    rename_i r l
    have : lfN fs r ≤ r := Nat.min_le_right _ _
    simp only [List.length_append, List.length_cons, List.length_nil]
    omega
theorem lfOk.snoc {fs : List Int} {j : Nat} (h : lfOk fs j) (hj : j < fs.length) (h0 : 0 ≤ fs[j]) (h1 : fs[j] ≤ (j : Int)) (hc : ∀ z (hz : z < j), fs[j] ≤ (z : Int) → fs[j] ≤ fs[z]'(by omega)) : lfOk fs (j + 1) := by
  intro i hi hn
  by_cases e : i = j
  · subst e
    exact ⟨h0, h1, fun z hz hle => hc z hz hle⟩
  · exact h i hi (by omega)
theorem lfOk.popped {fs : List Int} {j r : Nat} (h : lfOk fs j) (hj : j ≤ fs.length) (hr : r < j) {left : Int} (hl : left ≤ ((lfN fs r : Nat) : Int)) {z : Nat} (h1 : lfN fs r ≤ z) (h2 : z ≤ r) : left ≤ fs[z]'(by omega) := by
  have e1 := h.at (j := r) (by omega) hr
  by_cases e : z = r
  · subst e; omega
  · have := (h r (by omega) hr).2.2 z (by omega) (by omega)
    omega
def kroot (fs : List Int) (i : Nat) : Bool := decide (∀ j, j < fs.length → i < j → fs.getD j 0 ≠ fs.getD i 0)
def kroots (fs : List Int) : List Nat := (List.range fs.length).filter fun i => kroot fs i
theorem kroots_mem {fs : List Int} {i : Nat} : i ∈ kroots fs ↔ i < fs.length ∧ ∀ j, j < fs.length → i < j → fs.getD j 0 ≠ fs.getD i 0 := by
  unfold kroots kroot
  rw [List.mem_filter, List.mem_range, decide_eq_true_eq]
theorem kroots_up (fs : List Int) : (kroots fs).Pairwise (· < ·) := List.Pairwise.filter _ List.pairwise_lt_range
theorem kroot_of (fs : List Int) : ∀ (n x : Nat), fs.length - x ≤ n → x < fs.length → ∃ k, x ≤ k ∧ k ∈ kroots fs ∧ fs.getD k 0 = fs.getD x 0 := by
  intro n
  induction n with
  | zero => intro x h1 h2; omega
  | succ n ih =>
    intro x h1 h2
    by_cases h : ∀ j, j < fs.length → x < j → fs.getD j 0 ≠ fs.getD x 0
    · exact ⟨x, Nat.le_refl _, kroots_mem.2 ⟨h2, h⟩, rfl⟩
    · have : ∃ j, j < fs.length ∧ x < j ∧ fs.getD j 0 = fs.getD x 0 := by
        refine Classical.byContradiction fun hn => h fun j h3 h4 h5 => hn ⟨j, h3, h4, h5⟩
      obtain ⟨j, h3, h4, h5⟩ := this
      obtain ⟨k, h6, h7, h8⟩ := ih j (by omega) h3
      exact ⟨k, by omega, h7, h8.trans h5⟩
theorem getD_in {fs : List Int} {j : Nat} (h : j < fs.length) : fs.getD j 0 = fs[j] := by simp [List.getD, h]
theorem kroot_ahead {fs : List Int} (h : lfOk fs fs.length) {k x : Nat} (hk : k ∈ kroots fs) (h1 : lfN fs k ≤ x) (h2 : x ≤ k) (hne : lfN fs x ≠ lfN fs k) : ∃ k', k' < k ∧ k' ∈ kroots fs ∧ lfN fs k' = lfN fs x := by
  have hkl := (kroots_mem.1 hk).1
  obtain ⟨k', h3, h4, h5⟩ := kroot_of fs _ x (Nat.le_refl _) (by omega)
  have hkl' := (kroots_mem.1 h4).1
  have e1 := h.at hkl hkl
  have e2 := h.at hkl' hkl'
  have e3 := h.at (j := x) (by omega) (by omega)
  rw [getD_in hkl', getD_in (by omega)] at h5
  refine ⟨k', ?_, h4, by omega⟩
  refine Classical.byContradiction fun hn => ?_
  have hx := (h k hkl hkl).2.2
  have hxx : lfN fs x ≤ x := Nat.min_le_right _ _
  have hxk : lfN fs k ≤ lfN fs x := by
    by_cases e : x = k
    · subst e; exact Nat.le_refl _
    · have := hx x (by omega) (by omega); omega
  by_cases e : k' = k
  · subst e; omega
  · have := (h k' hkl' hkl').2.2 k (by omega) (by omega)
    omega
theorem mem_take_of {l : List Nat} (h : l.Pairwise (· < ·)) {u x : Nat} (hu : u < l.length) (hx : x ∈ l) (hlt : x < l[u]) : x ∈ l.take u := by
  obtain ⟨i, hi, rfl⟩ := List.getElem_of_mem hx
  have : i < u := by
    refine Classical.byContradiction fun hn => ?_
    by_cases e : i = u
    · subst e; omega
    · have := List.pairwise_iff_getElem.1 h u i hu hi (by omega); omega
  rw [List.mem_take_iff_getElem]
  exact ⟨i, by omega, rfl⟩
def Known (fs gs : List Int) (u v : Nat) (x y : Nat) : Prop :=
  (∃ k ∈ (kroots fs).take u, lfN fs k = lfN fs x) ∨ (∃ h : u < (kroots fs).length, lfN fs (kroots fs)[u] = lfN fs x ∧ ∃ l ∈ (kroots gs).take v, lfN gs l = lfN gs y)
theorem known_ahead {fs gs : List Int} (h : lfOk fs fs.length) (h' : lfOk gs gs.length) {u v : Nat} (hu : u < (kroots fs).length) (hv : v < (kroots gs).length) {x y : Nat}
    (hx1 : lfN fs (kroots fs)[u] ≤ x) (hx2 : x ≤ (kroots fs)[u]) (hy1 : lfN gs (kroots gs)[v] ≤ y) (hy2 : y ≤ (kroots gs)[v])
    (hne : ¬ (lfN fs x = lfN fs (kroots fs)[u] ∧ lfN gs y = lfN gs (kroots gs)[v])) : Known fs gs u v x y := by
  by_cases e : lfN fs x = lfN fs (kroots fs)[u]
  · obtain ⟨k', h1, h2, h3⟩ := kroot_ahead h' (List.getElem_mem hv) hy1 hy2 (fun q => hne ⟨e, q⟩)
    exact .inr ⟨hu, e.symm, k', mem_take_of (kroots_up gs) hv h2 h1, h3⟩
  · obtain ⟨k', h1, h2, h3⟩ := kroot_ahead h (List.getElem_mem hu) hx1 hx2 e
    exact .inl ⟨k', mem_take_of (kroots_up fs) hu h2 h1, h3⟩
theorem known_next {fs gs : List Int} {u v x y : Nat} (hu : u < (kroots fs).length) (hv : v < (kroots gs).length) (h : Known fs gs u (v + 1) x y) : Known fs gs u v x y ∨ (lfN fs x = lfN fs (kroots fs)[u] ∧ lfN gs y = lfN gs (kroots gs)[v]) := by
  rcases h with h | ⟨_, h1, l, hl, h2⟩
  · exact .inl (.inl h)
  · rw [List.take_succ_eq_append_getElem hv, List.mem_append, List.mem_singleton] at hl
    rcases hl with hl | rfl
    · exact .inl (.inr ⟨hu, h1, l, hl, h2⟩)
    · exact .inr ⟨h1.symm, h2.symm⟩
theorem known_row {fs gs : List Int} {u x y : Nat} (hu : u < (kroots fs).length) (hy : y < gs.length) (hg : lfOk gs gs.length) (h : Known fs gs (u + 1) 0 x y) : Known fs gs u (kroots gs).length x y := by
  rcases h with ⟨k, hk, h1⟩ | ⟨_, _, l, hl, _⟩
  · rw [List.take_succ_eq_append_getElem hu, List.mem_append, List.mem_singleton] at hk
    rcases hk with hk | rfl
    · exact .inl ⟨k, hk, h1⟩
    · obtain ⟨l, h2, h3, h4⟩ := kroot_of gs _ y (Nat.le_refl _) hy
      have hl := (kroots_mem.1 h3).1
      have e1 := hg.at hl hl
      have e2 := hg.at hy hy
      rw [getD_in hl, getD_in hy] at h4
      exact .inr ⟨hu, h1, l, by rw [List.take_of_length_le (Nat.le_refl _)]; exact h3, by omega⟩
  · simp at hl
theorem known_all {fs gs : List Int} (hf : lfOk fs fs.length) {x y : Nat} (hx : x < fs.length) : Known fs gs (kroots fs).length 0 x y := by
  obtain ⟨l, h2, h3, h4⟩ := kroot_of fs _ x (Nat.le_refl _) hx
  have hl := (kroots_mem.1 h3).1
  have e1 := hf.at hl hl
  have e2 := hf.at hx hx
  rw [getD_in hl, getD_in hx] at h4
  exact .inl ⟨l, by rw [List.take_of_length_le (Nat.le_refl _)]; exact h3, by omega⟩
theorem known_none {fs gs : List Int} {x y : Nat} : ¬ Known fs gs 0 0 x y := by
  rintro (⟨k, hk, _⟩ | ⟨_, _, l, hl, _⟩)
  · simp at hk
  · simp at hl
end Go.Scarf
namespace Go.Scarf
def costT (ls : List Str) (fs : List Int) (gs : List Str) (hs : List Int) : Nat := fd (nodesT ls fs) (nodesT gs hs) 0 ls.length 0 gs.length
theorem fd_congr (a b a' b' : Nodes) : ∀ (n i k j l : Nat), (k - i) + (l - j) ≤ n → (∀ z, z < k → a.lab z = a'.lab z ∧ a.lf z = a'.lf z) → (∀ z, z < l → b.lab z = b'.lab z ∧ b.lf z = b'.lf z) → fd a b i k j l = fd a' b' i k j l := by
  intro n
  induction n with
  | zero => intro i k j l h _ _; rw [fd_left (by omega), fd_left (by omega)]
  | succ n ih =>
    intro i k j l h ha hb
    by_cases h1 : i < k
    · by_cases h2 : j < l
      · have l1 := a.le (k - 1)
        have l2 := b.le (l - 1)
        have ea := ha (k - 1) (by omega)
        have eb := hb (l - 1) (by omega)
        have t : turn a b (k - 1) (l - 1) = turn a' b' (k - 1) (l - 1) := by unfold turn; rw [ea.1, eb.1]
        rw [fd_step h1 h2, fd_step h1 h2, ← ea.2, ← eb.2, ← t, ih i (k - 1) j l (by omega) (fun z hz => ha z (by omega)) hb, ih i k j (l - 1) (by omega) ha (fun z hz => hb z (by omega))]
        by_cases hc : i ≤ a.lf (k - 1) ∧ j ≤ b.lf (l - 1)
        · rw [if_pos hc, if_pos hc, ih i (a.lf (k - 1)) j (b.lf (l - 1)) (by omega) (fun z hz => ha z (by omega)) (fun z hz => hb z (by omega)), ih (a.lf (k - 1)) (k - 1) (b.lf (l - 1)) (l - 1) (by omega) (fun z hz => ha z (by omega)) (fun z hz => hb z (by omega))]
        · rw [if_neg hc, if_neg hc]
      · rw [fd_right (by omega), fd_right (by omega)]
    · rw [fd_left (by omega), fd_left (by omega)]
theorem diff_zero {a b : Nodes} {i k : Nat} (h : ∀ z, i ≤ z → z < k → a.lab z = b.lab z) : diff a b i k = 0 := by
  unfold diff
  rw [List.length_eq_zero_iff, List.filter_eq_nil_iff]
  intro z hz
  rw [List.mem_range'_1] at hz
  simp [h z hz.1 (by omega)]
section
variable {ls gs ks : List Str} {fs hs is : List Int}
theorem cost_bounds : costT ls fs gs hs ≤ ls.length + gs.length ∧ ls.length ≤ costT ls fs gs hs + gs.length ∧ gs.length ≤ costT ls fs gs hs + ls.length := by
  have := fd_bounds (nodesT ls fs) (nodesT gs hs) _ 0 ls.length 0 gs.length (Nat.le_refl _)
  simpa [costT] using this
theorem self_zero (h : RightT ls fs) : ∀ k, k ≤ ls.length → fd (nodesT ls fs) (nodesT ls fs) 0 k 0 k = 0 := fun k hk => by
  have := fd_form (nodesT ls fs) (nodesT ls fs) ls.length (h.2.2.nest (by have := h.1; omega) ls |> fun q => by rw [h.1]; exact q) (fun _ _ => rfl) _ 0 k (Nat.le_refl _) hk (lfOk.closed ls k)
  rw [diff_zero fun _ _ _ => rfl] at this
  omega
theorem cost_self (h : RightT ls fs) : costT ls fs ls fs = 0 := self_zero h _ (Nat.le_refl _)
theorem cost_zero (h : RightT ls fs) (h' : RightT gs hs) : costT ls fs gs hs = 0 ↔ ls = gs ∧ fs = hs := by
  constructor
  · intro h0
    obtain ⟨e1, e2⟩ := fd_none _ _ _ 0 ls.length 0 gs.length (Nat.le_refl _) h0
    have el : ls.length = gs.length := by omega
    have q1 := h.1
    have q2 := h'.1
    refine ⟨List.ext_getElem el fun z h1 h2 => ?_, List.ext_getElem (by omega) fun z h1 h2 => ?_⟩
    · have := (e2 z (by omega)).1
      simpa [nodesT, List.getD, h1, h2] using this
    · have := (e2 z (by omega)).2
      have a1 := h.2.2.at h1 h1
      have a2 := h'.2.2.at h2 h2
      simp only [nodesT, Nat.zero_add, Nat.add_zero] at this
      omega
  · rintro ⟨rfl, rfl⟩
    exact cost_self h
theorem cost_label (h : RightT ls fs) {k : Nat} (hk : k < ls.length) (s : Str) : costT ls fs (ls.set k s) fs ≤ 1 ∧ (costT ls fs (ls.set k s) fs = 0 ↔ s = ls[k]) := by
  have hr : RightT (ls.set k s) fs := by rw [RightT, List.length_set]; exact h
  refine ⟨?_, ?_⟩
  · have hc := fd_form (nodesT ls fs) (nodesT (ls.set k s) fs) ls.length (by have q := h.2.2.nest (Nat.le_refl _) ls; rw [← h.1] at q; exact q) (fun _ _ => rfl) _ 0 ls.length (Nat.le_refl _) (Nat.le_refl _) (lfOk.closed ls _)
    have s1 := diff_split (nodesT ls fs) (nodesT (ls.set k s) fs) (i := 0) (p := k) (k := ls.length) (by omega) (by omega)
    have s2 := diff_split (nodesT ls fs) (nodesT (ls.set k s) fs) (i := k) (p := k + 1) (k := ls.length) (by omega) (by omega)
    have ne : ∀ z, z ≠ k → (nodesT ls fs).lab z = (nodesT (ls.set k s) fs).lab z := fun z hz => by
      show ls.getD z [] = (ls.set k s).getD z []
      rw [List.getD_eq_getElem?_getD, List.getD_eq_getElem?_getD, List.getElem?_set_ne (by omega)]
    rw [diff_zero (i := 0) (k := k) fun z _ hz => ne z (by omega)] at s1
    rw [diff_zero (i := k + 1) (k := ls.length) fun z hz _ => ne z (by omega), diff_one] at s2
    have ht : turn (nodesT ls fs) (nodesT (ls.set k s) fs) k k ≤ 1 := by unfold turn; split <;> omega
    unfold costT
    rw [List.length_set]
    omega
  · rw [cost_zero h hr]
    constructor
    · rintro ⟨e, -⟩
      have : (ls.set k s)[k]'(by rw [List.length_set]; exact hk) = s := List.getElem_set_self _
      rw [← this]
      simp [← e]
    · rintro rfl
      exact ⟨by simp, rfl⟩
end
theorem over_lab {ls : List Str} {fs : List Int} {r : Str} (hl : ls.length = fs.length) : (∀ z, z < ls.length → (nodesT (ls ++ [r]) (fs ++ [0])).lab z = (nodesT ls fs).lab z ∧ (nodesT (ls ++ [r]) (fs ++ [0])).lf z = (nodesT ls fs).lf z) ∧ (nodesT (ls ++ [r]) (fs ++ [0])).lab ls.length = r ∧ (nodesT (ls ++ [r]) (fs ++ [0])).lf ls.length = 0 := by
  refine ⟨fun z hz => ⟨?_, ?_⟩, ?_, ?_⟩
  · show (ls ++ [r]).getD z [] = ls.getD z []
    rw [List.getD_eq_getElem?_getD, List.getD_eq_getElem?_getD, List.getElem?_append_left hz]
  · show min ((fs ++ [(0 : Int)]).getD z 0).toNat z = min (fs.getD z 0).toNat z
    rw [List.getD_eq_getElem?_getD, List.getD_eq_getElem?_getD, List.getElem?_append_left (by omega)]
  · show (ls ++ [r]).getD ls.length [] = r
    simp
  · show min ((fs ++ [(0 : Int)]).getD ls.length 0).toNat ls.length = 0
    rw [hl]; simp
section
variable {ls gs : List Str} {fs hs : List Int} {r : Str}
theorem cost_row (h1 : ls.length = fs.length) (h2 : gs.length = hs.length) (k1 : RightT (ls ++ [r]) (fs ++ [0])) (k2 : RightT (gs ++ [r]) (hs ++ [0])) : costT (ls ++ [r]) (fs ++ [0]) (gs ++ [r]) (hs ++ [0]) = costT ls fs gs hs := by
  obtain ⟨a1, a2, a3⟩ := over_lab (r := r) h1
  obtain ⟨b1, b2, b3⟩ := over_lab (r := r) h2
  have e := fd_congr (nodesT (ls ++ [r]) (fs ++ [0])) (nodesT (gs ++ [r]) (hs ++ [0])) (nodesT ls fs) (nodesT gs hs) _ 0 ls.length 0 gs.length (Nat.le_refl _) a1 b1
  have q := fd_root (nodesT (ls ++ [r]) (fs ++ [0])) (nodesT (gs ++ [r]) (hs ++ [0])) (x := ls.length) (y := gs.length)
  rw [a3, b3] at q
  have t : turn (nodesT (ls ++ [r]) (fs ++ [0])) (nodesT (gs ++ [r]) (hs ++ [0])) ls.length gs.length = 0 := by unfold turn; rw [a2, b2, if_pos rfl]
  have z1 := self_zero k1 ls.length (by simp)
  have z2 := self_zero k2 gs.length (by simp)
  have d1 := fd_ins (a := nodesT (ls ++ [r]) (fs ++ [0])) (b := nodesT (ls ++ [r]) (fs ++ [0])) (i := 0) (k := ls.length) (j := 0) (l := ls.length + 1) (by omega)
  have d2 := fd_del (a := nodesT (gs ++ [r]) (hs ++ [0])) (b := nodesT (gs ++ [r]) (hs ++ [0])) (i := 0) (k := gs.length + 1) (j := 0) (l := gs.length) (by omega)
  simp only [Nat.add_sub_cancel] at d1 d2
  have t1 := fd_tri (nodesT (ls ++ [r]) (fs ++ [0])) (nodesT (ls ++ [r]) (fs ++ [0])) (nodesT (gs ++ [r]) (hs ++ [0])) _ 0 ls.length 0 (ls.length + 1) 0 gs.length (Nat.le_refl _)
  have t2 := fd_tri (nodesT (ls ++ [r]) (fs ++ [0])) (nodesT (gs ++ [r]) (hs ++ [0])) (nodesT (gs ++ [r]) (hs ++ [0])) _ 0 ls.length 0 (gs.length + 1) 0 gs.length (Nat.le_refl _)
  unfold costT
  rw [List.length_append, List.length_append, List.length_singleton, ← e, q, t]
  omega
theorem cost_in (h1 : ls.length = fs.length) (k0 : RightT ls fs) : costT ls fs (ls ++ [r]) (fs ++ [0]) = 1 := by
  obtain ⟨a1, -, -⟩ := over_lab (r := r) h1
  have hb := (cost_bounds (ls := ls) (fs := fs) (gs := ls ++ [r]) (hs := fs ++ [0])).2.2
  rw [List.length_append, List.length_singleton] at hb
  have e := fd_congr (nodesT ls fs) (nodesT (ls ++ [r]) (fs ++ [0])) (nodesT ls fs) (nodesT ls fs) _ 0 ls.length 0 ls.length (Nat.le_refl _) (fun _ _ => ⟨rfl, rfl⟩) a1
  rw [self_zero k0 _ (Nat.le_refl _)] at e
  have d1 := fd_ins (a := nodesT ls fs) (b := nodesT (ls ++ [r]) (fs ++ [0])) (i := 0) (k := ls.length) (j := 0) (l := ls.length + 1) (by omega)
  simp only [Nat.add_sub_cancel] at d1
  unfold costT at hb ⊢
  rw [List.length_append, List.length_singleton] at hb ⊢
  omega
end
end Go.Scarf
