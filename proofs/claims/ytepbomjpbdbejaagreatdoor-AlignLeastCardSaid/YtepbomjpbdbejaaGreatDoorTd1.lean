/- A part of the proof. -/
import Derived.Test.YtepbomjpbdbejaaGreatDoorMem
set_option linter.all false
set_option maxHeartbeats 8000000
set_option maxRecDepth 10000
namespace Go.Scarf
structure Nodes where
  lab : Nat → Str
  lf : Nat → Nat
  le : ∀ x, lf x ≤ x
def turn (a b : Nodes) (x y : Nat) : Nat := if a.lab x = b.lab y then 0 else 1
def Nw (a b : Nodes) : Nat → Nat → Nat → Nat → Nat → Nat
  | 0, i, k, j, l => (k - i) + (l - j)
  | f + 1, i, k, j, l =>
    if k ≤ i then l - j else if l ≤ j then k - i else
      let m := min (Nw a b f i (k - 1) j l) (Nw a b f i k j (l - 1)) + 1
      if i ≤ a.lf (k - 1) ∧ j ≤ b.lf (l - 1) then min m (Nw a b f i (a.lf (k - 1)) j (b.lf (l - 1)) + Nw a b f (a.lf (k - 1)) (k - 1) (b.lf (l - 1)) (l - 1) + turn a b (k - 1) (l - 1)) else m
def fd (a b : Nodes) (i k j l : Nat) : Nat := Nw a b ((k - i) + (l - j)) i k j l
theorem Qq (a b : Nodes) : ∀ (f g i k j l : Nat), (k - i) + (l - j) ≤ f → (k - i) + (l - j) ≤ g → Nw a b f i k j l = Nw a b g i k j l
  | 0, 0, _, _, _, _, _, _ => rfl
  | 0, g + 1, i, k, j, l, h, _ => by rw [Nw, Nw, if_pos by_Om]; omega
  | f + 1, 0, i, k, j, l, _, h => by rw [Nw, Nw, if_pos by_Om]; omega
  | f + 1, g + 1, i, k, j, l, h1, h2 => by
    rw [Nw, Nw]
    split
    · rfl
    split
    · rfl
    have ha := a.le (k - 1)
    have hb := b.le (l - 1)
    have e1 : Nw a b f i (k - 1) j l = Nw a b g i (k - 1) j l := Qq a b f g _ _ _ _ by_Om by_Om
    have e2 : Nw a b f i k j (l - 1) = Nw a b g i k j (l - 1) := Qq a b f g _ _ _ _ by_Om by_Om
    simp only [e1, e2]
    split
    · rename_i hh
      rw [Qq a b f g i (a.lf (k - 1)) j (b.lf (l - 1)) by_Om by_Om, Qq a b f g (a.lf (k - 1)) (k - 1) (b.lf (l - 1)) (l - 1) by_Om by_Om]
    · rfl
section
variable {a b : Nodes} {i k j l : Nat}
theorem Jh (h : k ≤ i) : fd a b i k j l = l - j := by
  rw [fd]; cases hf : (k - i) + (l - j) with
  | zero => rw [Nw]; omega
  | succ f => rw [Nw, if_pos h]
theorem Xl (h : l ≤ j) : fd a b i k j l = k - i := by
  rw [fd]; cases hf : (k - i) + (l - j) with
  | zero => rw [Nw]; omega
  | succ f =>
    rw [Nw, if_pos h]
    split <;> omega
theorem Cp (h1 : i < k) (h2 : j < l) : fd a b i k j l =
    if i ≤ a.lf (k - 1) ∧ j ≤ b.lf (l - 1) then min (min (fd a b i (k - 1) j l) (fd a b i k j (l - 1)) + 1) (fd a b i (a.lf (k - 1)) j (b.lf (l - 1)) + fd a b (a.lf (k - 1)) (k - 1) (b.lf (l - 1)) (l - 1) + turn a b (k - 1) (l - 1))
    else min (fd a b i (k - 1) j l) (fd a b i k j (l - 1)) + 1 := by
  obtain ⟨f, hf⟩ : ∃ f, (k - i) + (l - j) = f + 1 := ⟨(k - i) + (l - j) - 1, by omega⟩
  have ha := a.le (k - 1)
  have hb := b.le (l - 1)
  conv => lhs; rw [fd, hf, Nw, if_neg by_Om, if_neg by_Om]
  have e1 : Nw a b f i (k - 1) j l = fd a b i (k - 1) j l := Qq a b _ _ _ _ _ _ by_Om by_Om
  have e2 : Nw a b f i k j (l - 1) = fd a b i k j (l - 1) := Qq a b _ _ _ _ _ _ by_Om by_Om
  simp only [e1, e2]
  split
  · rename_i hh
    have e3 : Nw a b f i (a.lf (k - 1)) j (b.lf (l - 1)) = fd a b i (a.lf (k - 1)) j (b.lf (l - 1)) := Qq a b _ _ _ _ _ _ by_Om by_Om
    have e4 : Nw a b f (a.lf (k - 1)) (k - 1) (b.lf (l - 1)) (l - 1) = fd a b (a.lf (k - 1)) (k - 1) (b.lf (l - 1)) (l - 1) := Qq a b _ _ _ _ _ _ by_Om by_Om
    rw [e3, e4]
  · rfl
theorem E5 (h : i < k) : fd a b i k j l ≤ fd a b i (k - 1) j l + 1 := by
  by_cases h2 : j < l
  · rw [Cp h h2]; split <;> omega
  · rw [Xl by_Om, Xl by_Om]; omega
theorem WB (h : j < l) : fd a b i k j l ≤ fd a b i k j (l - 1) + 1 := by
  by_cases h2 : i < k
  · rw [Cp h2 h]; split <;> omega
  · rw [Jh by_Om, Jh by_Om]; omega
theorem Wy (h1 : i < k) (h2 : j < l) (h3 : i ≤ a.lf (k - 1)) (h4 : j ≤ b.lf (l - 1)) :
    fd a b i k j l ≤ fd a b i (a.lf (k - 1)) j (b.lf (l - 1)) + fd a b (a.lf (k - 1)) (k - 1) (b.lf (l - 1)) (l - 1) + turn a b (k - 1) (l - 1) := by
  rw [Cp h1 h2, if_pos ⟨h3, h4⟩]; omega
theorem Cu (h1 : i < k) (h2 : j < l) : fd a b i k j l = fd a b i (k - 1) j l + 1 ∨ fd a b i k j l = fd a b i k j (l - 1) + 1 ∨
    (i ≤ a.lf (k - 1) ∧ j ≤ b.lf (l - 1) ∧ fd a b i k j l = fd a b i (a.lf (k - 1)) j (b.lf (l - 1)) + fd a b (a.lf (k - 1)) (k - 1) (b.lf (l - 1)) (l - 1) + turn a b (k - 1) (l - 1)) := by
  rw [Cp h1 h2]
  split
  · rename_i h; omega
  · omega
end
theorem MQ (a b : Nodes) : ∀ (n i p k j q l : Nat), (k - p) + (l - q) ≤ n → i ≤ p → p ≤ k → j ≤ q → q ≤ l → fd a b i k j l ≤ fd a b i p j q + fd a b p k q l := by
  intro n
  induction n with
  | zero =>
    intro i p k j q l hn h1 h2 h3 h4
    obtain rfl : p = k := by omega
    obtain rfl : q = l := by omega
    omega
  | succ n ih =>
    intro i p k j q l hn h1 h2 h3 h4
    by_cases hk : p < k
    · by_cases hl : q < l
      · rcases Cu (a := a) (b := b) hk hl with h | h | ⟨h5, h6, h⟩
        · have e := ih i p (k - 1) j q l by_Om h1 by_Om h3 h4
          have e2 := E5 (a := a) (b := b) (i := i) (k := k) (j := j) (l := l) by_Om
          omega
        · have e := ih i p k j q (l - 1) by_Om h1 h2 h3 by_Om
          have e2 := WB (a := a) (b := b) (i := i) (k := k) (j := j) (l := l) by_Om
          omega
        · have ha := a.le (k - 1)
          have hb := b.le (l - 1)
          have e := ih i p (a.lf (k - 1)) j q (b.lf (l - 1)) by_Om h1 h5 h3 h6
          have e2 := Wy (a := a) (b := b) (i := i) (k := k) (j := j) (l := l) by_Om by_Om by_Om by_Om
          omega
      · have e := ih i p (k - 1) j q l by_Om h1 by_Om h3 h4
        have e2 := E5 (a := a) (b := b) (i := i) (k := k) (j := j) (l := l) by_Om
        rw [Xl (by omega : l ≤ q)] at e ⊢
        omega
    · by_cases hl : q < l
      · have e := ih i p k j q (l - 1) by_Om h1 h2 h3 by_Om
        have e2 := WB (a := a) (b := b) (i := i) (k := k) (j := j) (l := l) by_Om
        rw [Jh (by omega : k ≤ p)] at e ⊢
        omega
      · obtain rfl : p = k := by omega
        obtain rfl : q = l := by omega
        omega
theorem ME (a b : Nodes) (x y : Nat) : turn a b x y = turn b a y x := by
  unfold turn
  by_cases h : a.lab x = b.lab y
  · rw [if_pos h, if_pos h.symm]
  · rw [if_neg h, if_neg (fun e => h e.symm)]
theorem CN (a b : Nodes) : ∀ (n i k j l : Nat), (k - i) + (l - j) ≤ n → fd a b i k j l = fd b a j l i k := by
  intro n
  induction n with
  | zero =>
    intro i k j l hn
    rw [Jh by_Om, Jh by_Om]; omega
  | succ n ih =>
    intro i k j l hn
    by_cases hk : i < k
    · by_cases hl : j < l
      · have ha := a.le (k - 1)
        have hb := b.le (l - 1)
        rw [Cp hk hl, Cp hl hk, ih i (k - 1) j l by_Om, ih i k j (l - 1) by_Om, ME a b, Nat.min_comm (fd b a j l i (k - 1))]
        by_cases h : i ≤ a.lf (k - 1) ∧ j ≤ b.lf (l - 1)
        · rw [if_pos h, if_pos ⟨h.2, h.1⟩, ih i (a.lf (k - 1)) j (b.lf (l - 1)) by_Om, ih (a.lf (k - 1)) (k - 1) (b.lf (l - 1)) (l - 1) by_Om]
        · rw [if_neg h, if_neg (fun q => h ⟨q.2, q.1⟩)]
      · rw [Xl by_Om, Jh by_Om]
    · rw [Jh by_Om, Xl by_Om]
theorem Tm (a b : Nodes) : ∀ (n i k j l : Nat), (k - i) + (l - j) ≤ n → fd a b i k j l ≤ (k - i) + (l - j) ∧ k - i ≤ fd a b i k j l + (l - j) ∧ l - j ≤ fd a b i k j l + (k - i) := by
  intro n
  induction n with
  | zero =>
    intro i k j l hn
    rw [Jh by_Om]; omega
  | succ n ih =>
    intro i k j l hn
    by_cases hk : i < k
    · by_cases hl : j < l
      · have h0 := E5 (a := a) (b := b) (i := i) (k := k) (j := j) (l := l) hk
        have h1 := ih i (k - 1) j l by_Om
        have h2 := ih i k j (l - 1) by_Om
        have ha := a.le (k - 1)
        have hb := b.le (l - 1)
        rcases Cu (a := a) (b := b) hk hl with h | h | ⟨h5, h6, h⟩
        · omega
        · omega
        · have h3 := ih i (a.lf (k - 1)) j (b.lf (l - 1)) by_Om
          have h4 := ih (a.lf (k - 1)) (k - 1) (b.lf (l - 1)) (l - 1) by_Om
          omega
      · rw [Xl by_Om]; omega
    · rw [Jh by_Om]; omega
def KA (a : Nodes) (i k : Nat) : Prop := ∀ z, i ≤ z → z < k → i ≤ a.lf z
def DK (a : Nodes) (n : Nat) : Prop := ∀ x, x < n → KA a (a.lf x) x
def H6 (a b : Nodes) (i k : Nat) : Nat := ((List.range' i (k - i)).filter fun z => decide (a.lab z ≠ b.lab z)).length
theorem Fz (a b : Nodes) {i p k : Nat} (h1 : i ≤ p) (h2 : p ≤ k) : H6 a b i k = H6 a b i p + H6 a b p k := by
  unfold H6
  have e : List.range' i (k - i) = List.range' i (p - i) ++ List.range' p (k - p) := by
    have := List.range'_append_1 (s := i) (m := p - i) (n := k - p)
    rw [show i + (p - i) = p by omega, show p - i + (k - p) = k - i by omega] at this
    exact this.symm
  rw [e, List.filter_append, List.length_append]
theorem QJ (a b : Nodes) (x : Nat) : H6 a b x (x + 1) = turn a b x x := by
  unfold H6 turn
  rw [show x + 1 - x = 1 by omega]
  by_cases h : a.lab x = b.lab x
  · simp [h]
  · simp [h]
theorem MN (a b : Nodes) (n : Nat) (hn : DK a n) (hl : ∀ x, x < n → a.lf x = b.lf x) : ∀ (m i k : Nat), k - i ≤ m → k ≤ n → KA a i k → fd a b i k i k ≤ H6 a b i k := by
  intro m
  induction m with
  | zero => intro i k hm hk _; rw [Jh by_Om]; omega
  | succ m ih =>
    intro i k hm hk hc
    by_cases h : i < k
    · have h1 := hc (k - 1) by_Om by_Om
      have ha := a.le (k - 1)
      have e := hl (k - 1) by_Om
      have t := Wy (a := a) (b := b) (i := i) (k := k) (j := i) (l := k) h h h1 by_Om
      rw [← e] at t
      have r1 := ih i (a.lf (k - 1)) by_Om by_Om (fun z hz1 hz2 => hc z hz1 by_Om)
      have r2 := ih (a.lf (k - 1)) (k - 1) by_Om by_Om (hn (k - 1) by_Om)
      have s1 := Fz a b (i := i) (p := a.lf (k - 1)) (k := k) by_Om by_Om
      have s2 := Fz a b (i := a.lf (k - 1)) (p := k - 1) (k := k) by_Om by_Om
      have s3 := QJ a b (k - 1)
      rw [show k - 1 + 1 = k by omega] at s3
      omega
    · rw [Jh by_Om]; omega
theorem EM (a b : Nodes) : ∀ (m i k j l : Nat), (k - i) + (l - j) ≤ m → fd a b i k j l = 0 → k - i = l - j ∧ ∀ z, z < k - i → a.lab (i + z) = b.lab (j + z) ∧ a.lf (i + z) + j = b.lf (j + z) + i := by
  intro m
  induction m with
  | zero => intro i k j l hm _; exact ⟨by omega, fun z hz => by omega⟩
  | succ m ih =>
    intro i k j l hm h0
    by_cases hk : i < k
    · by_cases hl : j < l
      · rcases Cu (a := a) (b := b) hk hl with h | h | ⟨h5, h6, h⟩
        · omega
        · omega
        · have ha := a.le (k - 1)
          have hb := b.le (l - 1)
          obtain ⟨r1, r2⟩ := ih i (a.lf (k - 1)) j (b.lf (l - 1)) by_Om by_Om
          obtain ⟨q1, q2⟩ := ih (a.lf (k - 1)) (k - 1) (b.lf (l - 1)) (l - 1) by_Om by_Om
          have ht : turn a b (k - 1) (l - 1) = 0 := by omega
          have ht2 : a.lab (k - 1) = b.lab (l - 1) := by unfold turn at ht; split at ht <;> first | assumption | omega
          refine ⟨by omega, fun z hz => ?_⟩
          by_cases c1 : z < a.lf (k - 1) - i
          · exact r2 z c1
          · by_cases c2 : i + z < k - 1
            · have := q2 (i + z - a.lf (k - 1)) by_Om
              rw [show a.lf (k - 1) + (i + z - a.lf (k - 1)) = i + z by omega, show b.lf (l - 1) + (i + z - a.lf (k - 1)) = j + z by omega] at this
              exact ⟨this.1, by omega⟩
            · obtain rfl : z = k - 1 - i := by omega
              rw [show i + (k - 1 - i) = k - 1 by omega, show j + (k - 1 - i) = l - 1 by omega]
              exact ⟨ht2, by omega⟩
      · rw [Xl by_Om] at h0; omega
    · rw [Jh by_Om] at h0; exact ⟨by omega, fun z hz => by omega⟩
def td (a b : Nodes) (x y : Nat) : Nat := fd a b (a.lf x) (x + 1) (b.lf y) (y + 1)
theorem BS (a b : Nodes) (x y : Nat) : td a b x y ≤ fd a b (a.lf x) x (b.lf y) y + turn a b x y := by
  have ha := a.le x
  have hb := b.le y
  have h := Wy (a := a) (b := b) (i := a.lf x) (k := x + 1) (j := b.lf y) (l := y + 1) by_Om by_Om Ga Ga
  simp only [Nat.add_sub_cancel] at h
  rw [Jh (Nat.le_refl (a.lf x))] at h
  unfold td
  omega
theorem XG (a b : Nodes) {i x j y : Nat} (h1 : i ≤ a.lf x) (h2 : j ≤ b.lf y) :
    fd a b i (x + 1) j (y + 1) = min (min (fd a b i x j (y + 1)) (fd a b i (x + 1) j y) + 1) (fd a b i (a.lf x) j (b.lf y) + td a b x y) := by
  have ha := a.le x
  have hb := b.le y
  have d1 := E5 (a := a) (b := b) (i := i) (k := x + 1) (j := j) (l := y + 1) by_Om
  have d2 := WB (a := a) (b := b) (i := i) (k := x + 1) (j := j) (l := y + 1) by_Om
  have s := MQ a b _ i (a.lf x) (x + 1) j (b.lf y) (y + 1) (Nat.le_refl _) h1 by_Om h2 by_Om
  have t := BS a b x y
  rcases Cu (a := a) (b := b) (i := i) (k := x + 1) (j := j) (l := y + 1) by_Om by_Om with h | h | ⟨h5, h6, h⟩ <;> simp only [Nat.add_sub_cancel] at h d1 d2 <;> unfold td at * <;> omega
theorem QM (a b : Nodes) {x y : Nat} :
    fd a b (a.lf x) (x + 1) (b.lf y) (y + 1) = min (min (fd a b (a.lf x) x (b.lf y) (y + 1)) (fd a b (a.lf x) (x + 1) (b.lf y) y) + 1) (fd a b (a.lf x) x (b.lf y) y + turn a b x y) := by
  have ha := a.le x
  have hb := b.le y
  have h := Cp (a := a) (b := b) (i := a.lf x) (k := x + 1) (j := b.lf y) (l := y + 1) by_Om by_Om
  simp only [Nat.add_sub_cancel] at h
  rw [if_pos ⟨Nat.le_refl _, Nat.le_refl _⟩, Jh (Nat.le_refl (a.lf x)), Nat.sub_self, Nat.zero_add] at h
  exact h
end Go.Scarf
namespace Go.Scarf
def lfOk (fs : List Int) (n : Nat) : Prop := ∀ j (h : j < fs.length), j < n → 0 ≤ fs[j] ∧ fs[j] ≤ (j : Int) ∧ ∀ i (hi : i < j), fs[j] ≤ (i : Int) → fs[j] ≤ fs[i]'by_Om
def Yf (ls : List Str) (fs : List Int) : Prop := ls.length = fs.length ∧ ls.length ≤ 512 ∧ lfOk fs fs.length
def Sg (fs : List Int) (x : Nat) : Nat := min (fs.getD x 0).toNat x
def Wb (ls : List Str) (fs : List Int) : Nodes := ⟨fun x => ls.getD x [], Sg fs, fun _ => Nat.min_le_right _ _⟩
theorem lfOk.at {fs : List Int} {n j : Nat} (h : lfOk fs n) (hj : j < fs.length) (hn : j < n) : ((Sg fs j : Nat) : Int) = fs[j] := by
  obtain ⟨h1, h2, -⟩ := h j hj hn
  have e : fs.getD j 0 = fs[j] := by simp [List.getD, hj]
  rw [Sg, e]
  omega
theorem lfOk.nest {fs : List Int} {n : Nat} (h : lfOk fs n) (hn : n ≤ fs.length) (ls : List Str) : DK (Wb ls fs) n := by
  intro x hx z hz1 hz2
  have e1 := h.at (j := x) by_Om hx
  have e2 := h.at (j := z) by_Om by_Om
  have hz1' : Sg fs x ≤ z := hz1
  have := (h x by_Om hx).2.2 z hz2 by_Om
  show Sg fs x ≤ Sg fs z
  omega
theorem lfOk.closed {fs : List Int} (ls : List Str) (k : Nat) : KA (Wb ls fs) 0 k := fun _ _ _ => Nat.zero_le _
inductive Rts (fs : List Int) : Nat → List Nat → Prop
  | nil : Rts fs 0 []
  | snoc {r : Nat} {l : List Nat} : Rts fs (Sg fs r) l → Rts fs (r + 1) (l ++ [r])
theorem Rts.last {fs : List Int} {p r : Nat} {l : List Nat} (h : Rts fs p (l ++ [r])) : p = r + 1 ∧ Rts fs (Sg fs r) l := by
  generalize e : l ++ [r] = m at h
  cases h with
  | nil => simp at e
  | snoc h1 =>
    obtain ⟨rfl, e2⟩ := List.append_inj' e rfl
    simp only [List.cons.injEq, and_true] at e2
    subst e2
    exact ⟨rfl, h1⟩
theorem Rts.none {fs : List Int} {p : Nat} (h : Rts fs p []) : p = 0 := by
  generalize e : ([] : List Nat) = m at h
  cases h with
  | nil => rfl
  | snoc h1 => simp at e
theorem Rts.len {fs : List Int} {p : Nat} {l : List Nat} (h : Rts fs p l) : l.length ≤ p := by
  induction h with
  | nil => simp
  | snoc h1 ih =>
    rename_i r l
    have : Sg fs r ≤ r := Nat.min_le_right _ _
    simp only [List.length_append, List.length_cons, List.length_nil]
    omega
theorem lfOk.snoc {fs : List Int} {j : Nat} (h : lfOk fs j) (hj : j < fs.length) (h0 : 0 ≤ fs[j]) (h1 : fs[j] ≤ (j : Int)) (hc : ∀ z (hz : z < j), fs[j] ≤ (z : Int) → fs[j] ≤ fs[z]'by_Om) : lfOk fs (j + 1) := by
  intro i hi hn
  by_cases e : i = j
  · subst e
    exact ⟨h0, h1, fun z hz hle => hc z hz hle⟩
  · exact h i hi by_Om
theorem lfOk.popped {fs : List Int} {j r : Nat} (h : lfOk fs j) (hj : j ≤ fs.length) (hr : r < j) {left : Int} (hl : left ≤ ((Sg fs r : Nat) : Int)) {z : Nat} (h1 : Sg fs r ≤ z) (h2 : z ≤ r) : left ≤ fs[z]'by_Om := by
  have e1 := h.at (j := r) by_Om hr
  by_cases e : z = r
  · subst e; omega
  · have := (h r by_Om hr).2.2 z by_Om by_Om
    omega
def BL (fs : List Int) (i : Nat) : Bool := decide (∀ j, j < fs.length → i < j → fs.getD j 0 ≠ fs.getD i 0)
def Hc (fs : List Int) : List Nat := (List.range fs.length).filter fun i => BL fs i
theorem Ng {fs : List Int} {i : Nat} : i ∈ Hc fs ↔ i < fs.length ∧ ∀ j, j < fs.length → i < j → fs.getD j 0 ≠ fs.getD i 0 := by
  unfold Hc BL
  rw [List.mem_filter, List.mem_range, decide_eq_true_eq]
theorem Yq (fs : List Int) : (Hc fs).Pairwise (· < ·) := List.Pairwise.filter _ List.pairwise_lt_range
theorem Yx (fs : List Int) : ∀ (n x : Nat), fs.length - x ≤ n → x < fs.length → ∃ k, x ≤ k ∧ k ∈ Hc fs ∧ fs.getD k 0 = fs.getD x 0 := by
  intro n
  induction n with
  | zero => intro x h1 h2; omega
  | succ n ih =>
    intro x h1 h2
    by_cases h : ∀ j, j < fs.length → x < j → fs.getD j 0 ≠ fs.getD x 0
    · exact ⟨x, Nat.le_refl _, Ng.2 ⟨h2, h⟩, rfl⟩
    · have : ∃ j, j < fs.length ∧ x < j ∧ fs.getD j 0 = fs.getD x 0 := by
        refine Classical.byContradiction fun hn => h fun j h3 h4 h5 => hn ⟨j, h3, h4, h5⟩
      obtain ⟨j, h3, h4, h5⟩ := this
      obtain ⟨k, h6, h7, h8⟩ := ih j by_Om h3
      exact ⟨k, by omega, h7, h8.trans h5⟩
theorem Mm {fs : List Int} {j : Nat} (h : j < fs.length) : fs.getD j 0 = fs[j] := by simp [List.getD, h]
theorem Fx {fs : List Int} (h : lfOk fs fs.length) {k x : Nat} (hk : k ∈ Hc fs) (h1 : Sg fs k ≤ x) (h2 : x ≤ k) (hne : Sg fs x ≠ Sg fs k) : ∃ k', k' < k ∧ k' ∈ Hc fs ∧ Sg fs k' = Sg fs x := by
  have hkl := (Ng.1 hk).1
  obtain ⟨k', h3, h4, h5⟩ := Yx fs _ x (Nat.le_refl _) by_Om
  have hkl' := (Ng.1 h4).1
  have e1 := h.at hkl hkl
  have e2 := h.at hkl' hkl'
  have e3 := h.at (j := x) by_Om by_Om
  rw [Mm hkl', Mm by_Om] at h5
  refine ⟨k', ?_, h4, by omega⟩
  refine Classical.byContradiction fun hn => ?_
  have hx := (h k hkl hkl).2.2
  have hxx : Sg fs x ≤ x := Nat.min_le_right _ _
  have hxk : Sg fs k ≤ Sg fs x := by
    by_cases e : x = k
    · subst e; exact Nat.le_refl _
    · have := hx x by_Om by_Om; omega
  by_cases e : k' = k
  · subst e; omega
  · have := (h k' hkl' hkl').2.2 k by_Om by_Om
    omega
theorem Ow {l : List Nat} (h : l.Pairwise (· < ·)) {u x : Nat} (hu : u < l.length) (hx : x ∈ l) (hlt : x < l[u]) : x ∈ l.take u := by
  obtain ⟨i, hi, rfl⟩ := List.getElem_of_mem hx
  have : i < u := by
    refine Classical.byContradiction fun hn => ?_
    by_cases e : i = u
    · subst e; omega
    · have := List.pairwise_iff_getElem.1 h u i hu hi by_Om; omega
  rw [List.mem_take_iff_getElem]
  exact ⟨i, by omega, rfl⟩
def Mu (fs gs : List Int) (u v : Nat) (x y : Nat) : Prop :=
  (∃ k ∈ (Hc fs).take u, Sg fs k = Sg fs x) ∨ (∃ h : u < (Hc fs).length, Sg fs (Hc fs)[u] = Sg fs x ∧ ∃ l ∈ (Hc gs).take v, Sg gs l = Sg gs y)
theorem U9 {fs gs : List Int} (h : lfOk fs fs.length) (h' : lfOk gs gs.length) {u v : Nat} (hu : u < (Hc fs).length) (hv : v < (Hc gs).length) {x y : Nat}
    (hx1 : Sg fs (Hc fs)[u] ≤ x) (hx2 : x ≤ (Hc fs)[u]) (hy1 : Sg gs (Hc gs)[v] ≤ y) (hy2 : y ≤ (Hc gs)[v])
    (hne : ¬ (Sg fs x = Sg fs (Hc fs)[u] ∧ Sg gs y = Sg gs (Hc gs)[v])) : Mu fs gs u v x y := by
  by_cases e : Sg fs x = Sg fs (Hc fs)[u]
  · obtain ⟨k', h1, h2, h3⟩ := Fx h' (List.getElem_mem hv) hy1 hy2 (fun q => hne ⟨e, q⟩)
    exact .inr ⟨hu, e.symm, k', Ow (Yq gs) hv h2 h1, h3⟩
  · obtain ⟨k', h1, h2, h3⟩ := Fx h (List.getElem_mem hu) hx1 hx2 e
    exact .inl ⟨k', Ow (Yq fs) hu h2 h1, h3⟩
theorem O_ {fs gs : List Int} {u v x y : Nat} (hu : u < (Hc fs).length) (hv : v < (Hc gs).length) (h : Mu fs gs u (v + 1) x y) : Mu fs gs u v x y ∨ (Sg fs x = Sg fs (Hc fs)[u] ∧ Sg gs y = Sg gs (Hc gs)[v]) := by
  rcases h with h | ⟨_, h1, l, hl, h2⟩
  · exact .inl (.inl h)
  · rw [List.take_succ_eq_append_getElem hv, List.mem_append, List.mem_singleton] at hl
    rcases hl with hl | rfl
    · exact .inl (.inr ⟨hu, h1, l, hl, h2⟩)
    · exact .inr ⟨h1.symm, h2.symm⟩
theorem QF {fs gs : List Int} {u x y : Nat} (hu : u < (Hc fs).length) (hy : y < gs.length) (hg : lfOk gs gs.length) (h : Mu fs gs (u + 1) 0 x y) : Mu fs gs u (Hc gs).length x y := by
  rcases h with ⟨k, hk, h1⟩ | ⟨_, _, l, hl, _⟩
  · rw [List.take_succ_eq_append_getElem hu, List.mem_append, List.mem_singleton] at hk
    rcases hk with hk | rfl
    · exact .inl ⟨k, hk, h1⟩
    · obtain ⟨l, h2, h3, h4⟩ := Yx gs _ y (Nat.le_refl _) hy
      have hl := (Ng.1 h3).1
      have e1 := hg.at hl hl
      have e2 := hg.at hy hy
      rw [Mm hl, Mm hy] at h4
      exact .inr ⟨hu, h1, l, by rw [List.take_of_length_le (Nat.le_refl _)]; exact h3, by omega⟩
  · simp at hl
theorem IF {fs gs : List Int} (hf : lfOk fs fs.length) {x y : Nat} (hx : x < fs.length) : Mu fs gs (Hc fs).length 0 x y := by
  obtain ⟨l, h2, h3, h4⟩ := Yx fs _ x (Nat.le_refl _) hx
  have hl := (Ng.1 h3).1
  have e1 := hf.at hl hl
  have e2 := hf.at hx hx
  rw [Mm hl, Mm hx] at h4
  exact .inl ⟨l, by rw [List.take_of_length_le (Nat.le_refl _)]; exact h3, by omega⟩
theorem YB {fs gs : List Int} {x y : Nat} : ¬ Mu fs gs 0 0 x y := by
  rintro (⟨k, hk, _⟩ | ⟨_, _, l, hl, _⟩)
  · simp at hk
  · simp at hl
end Go.Scarf
namespace Go.Scarf
def Nl (ls : List Str) (fs : List Int) (gs : List Str) (hs : List Int) : Nat := fd (Wb ls fs) (Wb gs hs) 0 ls.length 0 gs.length
theorem NF {a b : Nodes} {i k : Nat} (h : ∀ z, i ≤ z → z < k → a.lab z = b.lab z) : H6 a b i k = 0 := by
  unfold H6
  rw [List.length_eq_zero_iff, List.filter_eq_nil_iff]
  intro z hz
  rw [List.mem_range'_1] at hz
  simp [h z hz.1 by_Om]
section
variable {ls gs ks : List Str} {fs hs is : List Int}
theorem DG : Nl ls fs gs hs = Nl gs hs ls fs := CN _ _ _ _ _ _ _ (Nat.le_refl _)
theorem Xn : Nl ls fs gs hs ≤ ls.length + gs.length ∧ ls.length ≤ Nl ls fs gs hs + gs.length ∧ gs.length ≤ Nl ls fs gs hs + ls.length := by
  have := Tm (Wb ls fs) (Wb gs hs) _ 0 ls.length 0 gs.length (Nat.le_refl _)
  simpa [Nl] using this
theorem QG (h : Yf ls fs) : ∀ k, k ≤ ls.length → fd (Wb ls fs) (Wb ls fs) 0 k 0 k = 0 := fun k hk => by
  have := MN (Wb ls fs) (Wb ls fs) ls.length (h.2.2.nest (by have := h.1; omega) ls |> fun q => by rw [h.1]; exact q) (fun _ _ => rfl) _ 0 k (Nat.le_refl _) hk (lfOk.closed ls k)
  rw [NF fun _ _ _ => rfl] at this
  omega
theorem RG (h : Yf ls fs) : Nl ls fs ls fs = 0 := QG h _ (Nat.le_refl _)
theorem KG (h : Yf ls fs) (h' : Yf gs hs) : Nl ls fs gs hs = 0 ↔ ls = gs ∧ fs = hs := by
  constructor
  · intro h0
    obtain ⟨e1, e2⟩ := EM _ _ _ 0 ls.length 0 gs.length (Nat.le_refl _) h0
    have el : ls.length = gs.length := by omega
    have q1 := h.1
    have q2 := h'.1
    refine ⟨List.ext_getElem el fun z h1 h2 => ?_, List.ext_getElem by_Om fun z h1 h2 => ?_⟩
    · have := (e2 z by_Om).1
      simpa [Wb, List.getD, h1, h2] using this
    · have := (e2 z by_Om).2
      have a1 := h.2.2.at h1 h1
      have a2 := h'.2.2.at h2 h2
      simp only [Wb, Nat.zero_add, Nat.add_zero] at this
      omega
  · rintro ⟨rfl, rfl⟩
    exact RG h
end
section
variable {ls gs : List Str} {fs hs : List Int} {r : Str}
end
end Go.Scarf
