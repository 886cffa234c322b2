/- A part of the proof. -/
import Derived.Test.YtepbomjpbdbejaaGreatDoorMem
set_option linter.all false
set_option maxHeartbeats 8000000
set_option maxRecDepth 10000
namespace Go.Scarf
structure Nodes where
  lab : Nat → Str
  lf : Nat → Nat
  le : ∀ x, lf x ≤ x
def turn (a b : Nodes) (x y : Nat) : Nat := if a.lab x = b.lab y then 0 else 1
def Fu (a b : Nodes) : Nat → Nat → Nat → Nat → Nat → Nat
  | 0, i, k, j, l => (k - i) + (l - j)
  | f + 1, i, k, j, l =>
    if k ≤ i then l - j else if l ≤ j then k - i else
      let m := min (Fu a b f i (k - 1) j l) (Fu a b f i k j (l - 1)) + 1
      if i ≤ a.lf (k - 1) ∧ j ≤ b.lf (l - 1) then min m (Fu a b f i (a.lf (k - 1)) j (b.lf (l - 1)) + Fu a b f (a.lf (k - 1)) (k - 1) (b.lf (l - 1)) (l - 1) + turn a b (k - 1) (l - 1)) else m
def fd (a b : Nodes) (i k j l : Nat) : Nat := Fu a b ((k - i) + (l - j)) i k j l
theorem Ho (a b : Nodes) : ∀ (f g i k j l : Nat), (k - i) + (l - j) ≤ f → (k - i) + (l - j) ≤ g → Fu a b f i k j l = Fu a b g i k j l
  | 0, 0, _, _, _, _, _, _ => rfl
  | 0, g + 1, i, k, j, l, h, _ => by rw [Fu, Fu, if_pos by_Om]; omega
  | f + 1, 0, i, k, j, l, _, h => by rw [Fu, Fu, if_pos by_Om]; omega
  | f + 1, g + 1, i, k, j, l, h1, h2 => by
    rw [Fu, Fu]
    split
    · rfl
    split
    · rfl
    have ha := a.le (k - 1)
    have hb := b.le (l - 1)
    have e1 : Fu a b f i (k - 1) j l = Fu a b g i (k - 1) j l := Ho a b f g _ _ _ _ by_Om by_Om
    have e2 : Fu a b f i k j (l - 1) = Fu a b g i k j (l - 1) := Ho a b f g _ _ _ _ by_Om by_Om
    simp only [e1, e2]
    split
    · rename_i hh
      rw [Ho a b f g i (a.lf (k - 1)) j (b.lf (l - 1)) by_Om by_Om, Ho a b f g (a.lf (k - 1)) (k - 1) (b.lf (l - 1)) (l - 1) by_Om by_Om]
    · rfl
section
variable {a b : Nodes} {i k j l : Nat}
theorem Mj (h : k ≤ i) : fd a b i k j l = l - j := by
  rw [fd]; cases hf : (k - i) + (l - j) with
  | zero => rw [Fu]; omega
  | succ f => rw [Fu, if_pos h]
theorem Ro (h : l ≤ j) : fd a b i k j l = k - i := by
  rw [fd]; cases hf : (k - i) + (l - j) with
  | zero => rw [Fu]; omega
  | succ f =>
    rw [Fu, if_pos h]
    split <;> omega
theorem Lr (h1 : i < k) (h2 : j < l) : fd a b i k j l =
    if i ≤ a.lf (k - 1) ∧ j ≤ b.lf (l - 1) then min (min (fd a b i (k - 1) j l) (fd a b i k j (l - 1)) + 1) (fd a b i (a.lf (k - 1)) j (b.lf (l - 1)) + fd a b (a.lf (k - 1)) (k - 1) (b.lf (l - 1)) (l - 1) + turn a b (k - 1) (l - 1))
    else min (fd a b i (k - 1) j l) (fd a b i k j (l - 1)) + 1 := by
  obtain ⟨f, hf⟩ : ∃ f, (k - i) + (l - j) = f + 1 := ⟨(k - i) + (l - j) - 1, by omega⟩
  have ha := a.le (k - 1)
  have hb := b.le (l - 1)
  conv => lhs; rw [fd, hf, Fu, if_neg by_Om, if_neg by_Om]
  have e1 : Fu a b f i (k - 1) j l = fd a b i (k - 1) j l := Ho a b _ _ _ _ _ _ by_Om by_Om
  have e2 : Fu a b f i k j (l - 1) = fd a b i k j (l - 1) := Ho a b _ _ _ _ _ _ by_Om by_Om
  simp only [e1, e2]
  split
  · rename_i hh
    have e3 : Fu a b f i (a.lf (k - 1)) j (b.lf (l - 1)) = fd a b i (a.lf (k - 1)) j (b.lf (l - 1)) := Ho a b _ _ _ _ _ _ by_Om by_Om
    have e4 : Fu a b f (a.lf (k - 1)) (k - 1) (b.lf (l - 1)) (l - 1) = fd a b (a.lf (k - 1)) (k - 1) (b.lf (l - 1)) (l - 1) := Ho a b _ _ _ _ _ _ by_Om by_Om
    rw [e3, e4]
  · rfl
theorem H1 (h : i < k) : fd a b i k j l ≤ fd a b i (k - 1) j l + 1 := by
  by_cases h2 : j < l
  · rw [Lr h h2]; split <;> omega
  · rw [Ro by_Om, Ro by_Om]; omega
theorem D8 (h : j < l) : fd a b i k j l ≤ fd a b i k j (l - 1) + 1 := by
  by_cases h2 : i < k
  · rw [Lr h2 h]; split <;> omega
  · rw [Mj by_Om, Mj by_Om]; omega
theorem Sv (h1 : i < k) (h2 : j < l) (h3 : i ≤ a.lf (k - 1)) (h4 : j ≤ b.lf (l - 1)) :
    fd a b i k j l ≤ fd a b i (a.lf (k - 1)) j (b.lf (l - 1)) + fd a b (a.lf (k - 1)) (k - 1) (b.lf (l - 1)) (l - 1) + turn a b (k - 1) (l - 1) := by
  rw [Lr h1 h2, if_pos ⟨h3, h4⟩]; omega
theorem Ew (h1 : i < k) (h2 : j < l) : fd a b i k j l = fd a b i (k - 1) j l + 1 ∨ fd a b i k j l = fd a b i k j (l - 1) + 1 ∨
    (i ≤ a.lf (k - 1) ∧ j ≤ b.lf (l - 1) ∧ fd a b i k j l = fd a b i (a.lf (k - 1)) j (b.lf (l - 1)) + fd a b (a.lf (k - 1)) (k - 1) (b.lf (l - 1)) (l - 1) + turn a b (k - 1) (l - 1)) := by
  rw [Lr h1 h2]
  split
  · rename_i h; omega
  · omega
end
theorem MK (a b : Nodes) : ∀ (n i p k j q l : Nat), (k - p) + (l - q) ≤ n → i ≤ p → p ≤ k → j ≤ q → q ≤ l → fd a b i k j l ≤ fd a b i p j q + fd a b p k q l := by
  intro n
  induction n with
  | zero =>
    intro i p k j q l hn h1 h2 h3 h4
    obtain rfl : p = k := by omega
    obtain rfl : q = l := by omega
    omega
  | succ n ih =>
    intro i p k j q l hn h1 h2 h3 h4
    by_cases hk : p < k
    · by_cases hl : q < l
      · rcases Ew (a := a) (b := b) hk hl with h | h | ⟨h5, h6, h⟩
        · have e := ih i p (k - 1) j q l by_Om h1 by_Om h3 h4
          have e2 := H1 (a := a) (b := b) (i := i) (k := k) (j := j) (l := l) by_Om
          omega
        · have e := ih i p k j q (l - 1) by_Om h1 h2 h3 by_Om
          have e2 := D8 (a := a) (b := b) (i := i) (k := k) (j := j) (l := l) by_Om
          omega
        · have ha := a.le (k - 1)
          have hb := b.le (l - 1)
          have e := ih i p (a.lf (k - 1)) j q (b.lf (l - 1)) by_Om h1 h5 h3 h6
          have e2 := Sv (a := a) (b := b) (i := i) (k := k) (j := j) (l := l) by_Om by_Om by_Om by_Om
          omega
      · have e := ih i p (k - 1) j q l by_Om h1 by_Om h3 h4
        have e2 := H1 (a := a) (b := b) (i := i) (k := k) (j := j) (l := l) by_Om
        rw [Ro (by omega : l ≤ q)] at e ⊢
        omega
    · by_cases hl : q < l
      · have e := ih i p k j q (l - 1) by_Om h1 h2 h3 by_Om
        have e2 := D8 (a := a) (b := b) (i := i) (k := k) (j := j) (l := l) by_Om
        rw [Mj (by omega : k ≤ p)] at e ⊢
        omega
      · obtain rfl : p = k := by omega
        obtain rfl : q = l := by omega
        omega
theorem Zk (a b : Nodes) : ∀ (n i k j l : Nat), (k - i) + (l - j) ≤ n → fd a b i k j l ≤ (k - i) + (l - j) ∧ k - i ≤ fd a b i k j l + (l - j) ∧ l - j ≤ fd a b i k j l + (k - i) := by
  intro n
  induction n with
  | zero =>
    intro i k j l hn
    rw [Mj by_Om]; omega
  | succ n ih =>
    intro i k j l hn
    by_cases hk : i < k
    · by_cases hl : j < l
      · have h0 := H1 (a := a) (b := b) (i := i) (k := k) (j := j) (l := l) hk
        have h1 := ih i (k - 1) j l by_Om
        have h2 := ih i k j (l - 1) by_Om
        have ha := a.le (k - 1)
        have hb := b.le (l - 1)
        rcases Ew (a := a) (b := b) hk hl with h | h | ⟨h5, h6, h⟩
        · omega
        · omega
        · have h3 := ih i (a.lf (k - 1)) j (b.lf (l - 1)) by_Om
          have h4 := ih (a.lf (k - 1)) (k - 1) (b.lf (l - 1)) (l - 1) by_Om
          omega
      · rw [Ro by_Om]; omega
    · rw [Mj by_Om]; omega
def E7 (a : Nodes) (i k : Nat) : Prop := ∀ z, i ≤ z → z < k → i ≤ a.lf z
def TE (a : Nodes) (n : Nat) : Prop := ∀ x, x < n → E7 a (a.lf x) x
def D2 (a b : Nodes) (i k : Nat) : Nat := ((List.range' i (k - i)).filter fun z => decide (a.lab z ≠ b.lab z)).length
theorem Wu (a b : Nodes) {i p k : Nat} (h1 : i ≤ p) (h2 : p ≤ k) : D2 a b i k = D2 a b i p + D2 a b p k := by
  unfold D2
  have e : List.range' i (k - i) = List.range' i (p - i) ++ List.range' p (k - p) := by
    have := List.range'_append_1 (s := i) (m := p - i) (n := k - p)
    rw [show i + (p - i) = p by omega, show p - i + (k - p) = k - i by omega] at this
    exact this.symm
  rw [e, List.filter_append, List.length_append]
theorem OC (a b : Nodes) (x : Nat) : D2 a b x (x + 1) = turn a b x x := by
  unfold D2 turn
  rw [show x + 1 - x = 1 by omega]
  by_cases h : a.lab x = b.lab x
  · simp [h]
  · simp [h]
theorem QF (a b : Nodes) (n : Nat) (hn : TE a n) (hl : ∀ x, x < n → a.lf x = b.lf x) : ∀ (m i k : Nat), k - i ≤ m → k ≤ n → E7 a i k → fd a b i k i k ≤ D2 a b i k := by
  intro m
  induction m with
  | zero => intro i k hm hk _; rw [Mj by_Om]; omega
  | succ m ih =>
    intro i k hm hk hc
    by_cases h : i < k
    · have h1 := hc (k - 1) by_Om by_Om
      have ha := a.le (k - 1)
      have e := hl (k - 1) by_Om
      have t := Sv (a := a) (b := b) (i := i) (k := k) (j := i) (l := k) h h h1 by_Om
      rw [← e] at t
      have r1 := ih i (a.lf (k - 1)) by_Om by_Om (fun z hz1 hz2 => hc z hz1 by_Om)
      have r2 := ih (a.lf (k - 1)) (k - 1) by_Om by_Om (hn (k - 1) by_Om)
      have s1 := Wu a b (i := i) (p := a.lf (k - 1)) (k := k) by_Om by_Om
      have s2 := Wu a b (i := a.lf (k - 1)) (p := k - 1) (k := k) by_Om by_Om
      have s3 := OC a b (k - 1)
      rw [show k - 1 + 1 = k by omega] at s3
      omega
    · rw [Mj by_Om]; omega
def td (a b : Nodes) (x y : Nat) : Nat := fd a b (a.lf x) (x + 1) (b.lf y) (y + 1)
theorem VM (a b : Nodes) (x y : Nat) : td a b x y ≤ fd a b (a.lf x) x (b.lf y) y + turn a b x y := by
  have ha := a.le x
  have hb := b.le y
  have h := Sv (a := a) (b := b) (i := a.lf x) (k := x + 1) (j := b.lf y) (l := y + 1) by_Om by_Om Fa Fa
  simp only [Nat.add_sub_cancel] at h
  rw [Mj (Nat.le_refl (a.lf x))] at h
  unfold td
  omega
theorem QB (a b : Nodes) {i x j y : Nat} (h1 : i ≤ a.lf x) (h2 : j ≤ b.lf y) :
    fd a b i (x + 1) j (y + 1) = min (min (fd a b i x j (y + 1)) (fd a b i (x + 1) j y) + 1) (fd a b i (a.lf x) j (b.lf y) + td a b x y) := by
  have ha := a.le x
  have hb := b.le y
  have d1 := H1 (a := a) (b := b) (i := i) (k := x + 1) (j := j) (l := y + 1) by_Om
  have d2 := D8 (a := a) (b := b) (i := i) (k := x + 1) (j := j) (l := y + 1) by_Om
  have s := MK a b _ i (a.lf x) (x + 1) j (b.lf y) (y + 1) (Nat.le_refl _) h1 by_Om h2 by_Om
  have t := VM a b x y
  rcases Ew (a := a) (b := b) (i := i) (k := x + 1) (j := j) (l := y + 1) by_Om by_Om with h | h | ⟨h5, h6, h⟩ <;> simp only [Nat.add_sub_cancel] at h d1 d2 <;> unfold td at * <;> omega
theorem WF (a b : Nodes) {x y : Nat} :
    fd a b (a.lf x) (x + 1) (b.lf y) (y + 1) = min (min (fd a b (a.lf x) x (b.lf y) (y + 1)) (fd a b (a.lf x) (x + 1) (b.lf y) y) + 1) (fd a b (a.lf x) x (b.lf y) y + turn a b x y) := by
  have ha := a.le x
  have hb := b.le y
  have h := Lr (a := a) (b := b) (i := a.lf x) (k := x + 1) (j := b.lf y) (l := y + 1) by_Om by_Om
  simp only [Nat.add_sub_cancel] at h
  rw [if_pos ⟨Nat.le_refl _, Nat.le_refl _⟩, Mj (Nat.le_refl (a.lf x)), Nat.sub_self, Nat.zero_add] at h
  exact h
end Go.Scarf
namespace Go.Scarf
def lfOk (fs : List Int) (n : Nat) : Prop := ∀ j (h : j < fs.length), j < n → 0 ≤ fs[j] ∧ fs[j] ≤ (j : Int) ∧ ∀ i (hi : i < j), fs[j] ≤ (i : Int) → fs[j] ≤ fs[i]'by_Om
def Ig (ls : List Str) (fs : List Int) : Prop := ls.length = fs.length ∧ ls.length ≤ 512 ∧ lfOk fs fs.length
def Yf (fs : List Int) (x : Nat) : Nat := min (fs.getD x 0).toNat x
def Ub (ls : List Str) (fs : List Int) : Nodes := ⟨fun x => ls.getD x [], Yf fs, fun _ => Nat.min_le_right _ _⟩
theorem lfOk.at {fs : List Int} {n j : Nat} (h : lfOk fs n) (hj : j < fs.length) (hn : j < n) : ((Yf fs j : Nat) : Int) = fs[j] := by
  obtain ⟨h1, h2, -⟩ := h j hj hn
  have e : fs.getD j 0 = fs[j] := by simp [List.getD, hj]
  rw [Yf, e]
  omega
theorem lfOk.nest {fs : List Int} {n : Nat} (h : lfOk fs n) (hn : n ≤ fs.length) (ls : List Str) : TE (Ub ls fs) n := by
  intro x hx z hz1 hz2
  have e1 := h.at (j := x) by_Om hx
  have e2 := h.at (j := z) by_Om by_Om
  have hz1' : Yf fs x ≤ z := hz1
  have := (h x by_Om hx).2.2 z hz2 by_Om
  show Yf fs x ≤ Yf fs z
  omega
theorem lfOk.closed {fs : List Int} (ls : List Str) (k : Nat) : E7 (Ub ls fs) 0 k := fun _ _ _ => Nat.zero_le _
inductive Rts (fs : List Int) : Nat → List Nat → Prop
  | nil : Rts fs 0 []
  | snoc {r : Nat} {l : List Nat} : Rts fs (Yf fs r) l → Rts fs (r + 1) (l ++ [r])
theorem Rts.last {fs : List Int} {p r : Nat} {l : List Nat} (h : Rts fs p (l ++ [r])) : p = r + 1 ∧ Rts fs (Yf fs r) l := by
  generalize e : l ++ [r] = m at h
  cases h with
  | nil => simp at e
  | snoc h1 =>
    obtain ⟨rfl, e2⟩ := List.append_inj' e rfl
    simp only [List.cons.injEq, and_true] at e2
    subst e2
    exact ⟨rfl, h1⟩
theorem Rts.none {fs : List Int} {p : Nat} (h : Rts fs p []) : p = 0 := by
  generalize e : ([] : List Nat) = m at h
  cases h with
  | nil => rfl
  | snoc h1 => simp at e
theorem Rts.len {fs : List Int} {p : Nat} {l : List Nat} (h : Rts fs p l) : l.length ≤ p := by
  induction h with
  | nil => simp
  | snoc h1 ih =>
    rename_i r l
    have : Yf fs r ≤ r := Nat.min_le_right _ _
    simp only [List.length_append, List.length_cons, List.length_nil]
    omega
theorem lfOk.snoc {fs : List Int} {j : Nat} (h : lfOk fs j) (hj : j < fs.length) (h0 : 0 ≤ fs[j]) (h1 : fs[j] ≤ (j : Int)) (hc : ∀ z (hz : z < j), fs[j] ≤ (z : Int) → fs[j] ≤ fs[z]'by_Om) : lfOk fs (j + 1) := by
  intro i hi hn
  by_cases e : i = j
  · subst e
    exact ⟨h0, h1, fun z hz hle => hc z hz hle⟩
  · exact h i hi by_Om
theorem lfOk.popped {fs : List Int} {j r : Nat} (h : lfOk fs j) (hj : j ≤ fs.length) (hr : r < j) {left : Int} (hl : left ≤ ((Yf fs r : Nat) : Int)) {z : Nat} (h1 : Yf fs r ≤ z) (h2 : z ≤ r) : left ≤ fs[z]'by_Om := by
  have e1 := h.at (j := r) by_Om hr
  by_cases e : z = r
  · subst e; omega
  · have := (h r by_Om hr).2.2 z by_Om by_Om
    omega
def LB (fs : List Int) (i : Nat) : Bool := decide (∀ j, j < fs.length → i < j → fs.getD j 0 ≠ fs.getD i 0)
def Yb (fs : List Int) : List Nat := (List.range fs.length).filter fun i => LB fs i
theorem Xf {fs : List Int} {i : Nat} : i ∈ Yb fs ↔ i < fs.length ∧ ∀ j, j < fs.length → i < j → fs.getD j 0 ≠ fs.getD i 0 := by
  unfold Yb LB
  rw [List.mem_filter, List.mem_range, decide_eq_true_eq]
theorem Ip (fs : List Int) : (Yb fs).Pairwise (· < ·) := List.Pairwise.filter _ List.pairwise_lt_range
theorem Sw (fs : List Int) : ∀ (n x : Nat), fs.length - x ≤ n → x < fs.length → ∃ k, x ≤ k ∧ k ∈ Yb fs ∧ fs.getD k 0 = fs.getD x 0 := by
  intro n
  induction n with
  | zero => intro x h1 h2; omega
  | succ n ih =>
    intro x h1 h2
    by_cases h : ∀ j, j < fs.length → x < j → fs.getD j 0 ≠ fs.getD x 0
    · exact ⟨x, Nat.le_refl _, Xf.2 ⟨h2, h⟩, rfl⟩
    · have : ∃ j, j < fs.length ∧ x < j ∧ fs.getD j 0 = fs.getD x 0 := by
        refine Classical.byContradiction fun hn => h fun j h3 h4 h5 => hn ⟨j, h3, h4, h5⟩
      obtain ⟨j, h3, h4, h5⟩ := this
      obtain ⟨k, h6, h7, h8⟩ := ih j by_Om h3
      exact ⟨k, by omega, h7, h8.trans h5⟩
theorem Jk {fs : List Int} {j : Nat} (h : j < fs.length) : fs.getD j 0 = fs[j] := by simp [List.getD, h]
theorem Au {fs : List Int} (h : lfOk fs fs.length) {k x : Nat} (hk : k ∈ Yb fs) (h1 : Yf fs k ≤ x) (h2 : x ≤ k) (hne : Yf fs x ≠ Yf fs k) : ∃ k', k' < k ∧ k' ∈ Yb fs ∧ Yf fs k' = Yf fs x := by
  have hkl := (Xf.1 hk).1
  obtain ⟨k', h3, h4, h5⟩ := Sw fs _ x (Nat.le_refl _) by_Om
  have hkl' := (Xf.1 h4).1
  have e1 := h.at hkl hkl
  have e2 := h.at hkl' hkl'
  have e3 := h.at (j := x) by_Om by_Om
  rw [Jk hkl', Jk by_Om] at h5
  refine ⟨k', ?_, h4, by omega⟩
  refine Classical.byContradiction fun hn => ?_
  have hx := (h k hkl hkl).2.2
  have hxx : Yf fs x ≤ x := Nat.min_le_right _ _
  have hxk : Yf fs k ≤ Yf fs x := by
    by_cases e : x = k
    · subst e; exact Nat.le_refl _
    · have := hx x by_Om by_Om; omega
  by_cases e : k' = k
  · subst e; omega
  · have := (h k' hkl' hkl').2.2 k by_Om by_Om
    omega
theorem Bu {l : List Nat} (h : l.Pairwise (· < ·)) {u x : Nat} (hu : u < l.length) (hx : x ∈ l) (hlt : x < l[u]) : x ∈ l.take u := by
  obtain ⟨i, hi, rfl⟩ := List.getElem_of_mem hx
  have : i < u := by
    refine Classical.byContradiction fun hn => ?_
    by_cases e : i = u
    · subst e; omega
    · have := List.pairwise_iff_getElem.1 h u i hu hi by_Om; omega
  rw [List.mem_take_iff_getElem]
  exact ⟨i, by omega, rfl⟩
def Pr (fs gs : List Int) (u v : Nat) (x y : Nat) : Prop :=
  (∃ k ∈ (Yb fs).take u, Yf fs k = Yf fs x) ∨ (∃ h : u < (Yb fs).length, Yf fs (Yb fs)[u] = Yf fs x ∧ ∃ l ∈ (Yb gs).take v, Yf gs l = Yf gs y)
theorem M2 {fs gs : List Int} (h : lfOk fs fs.length) (h' : lfOk gs gs.length) {u v : Nat} (hu : u < (Yb fs).length) (hv : v < (Yb gs).length) {x y : Nat}
    (hx1 : Yf fs (Yb fs)[u] ≤ x) (hx2 : x ≤ (Yb fs)[u]) (hy1 : Yf gs (Yb gs)[v] ≤ y) (hy2 : y ≤ (Yb gs)[v])
    (hne : ¬ (Yf fs x = Yf fs (Yb fs)[u] ∧ Yf gs y = Yf gs (Yb gs)[v])) : Pr fs gs u v x y := by
  by_cases e : Yf fs x = Yf fs (Yb fs)[u]
  · obtain ⟨k', h1, h2, h3⟩ := Au h' (List.getElem_mem hv) hy1 hy2 (fun q => hne ⟨e, q⟩)
    exact .inr ⟨hu, e.symm, k', Bu (Ip gs) hv h2 h1, h3⟩
  · obtain ⟨k', h1, h2, h3⟩ := Au h (List.getElem_mem hu) hx1 hx2 e
    exact .inl ⟨k', Bu (Ip fs) hu h2 h1, h3⟩
theorem F6 {fs gs : List Int} {u v x y : Nat} (hu : u < (Yb fs).length) (hv : v < (Yb gs).length) (h : Pr fs gs u (v + 1) x y) : Pr fs gs u v x y ∨ (Yf fs x = Yf fs (Yb fs)[u] ∧ Yf gs y = Yf gs (Yb gs)[v]) := by
  rcases h with h | ⟨_, h1, l, hl, h2⟩
  · exact .inl (.inl h)
  · rw [List.take_succ_eq_append_getElem hv, List.mem_append, List.mem_singleton] at hl
    rcases hl with hl | rfl
    · exact .inl (.inr ⟨hu, h1, l, hl, h2⟩)
    · exact .inr ⟨h1.symm, h2.symm⟩
theorem NA {fs gs : List Int} {u x y : Nat} (hu : u < (Yb fs).length) (hy : y < gs.length) (hg : lfOk gs gs.length) (h : Pr fs gs (u + 1) 0 x y) : Pr fs gs u (Yb gs).length x y := by
  rcases h with ⟨k, hk, h1⟩ | ⟨_, _, l, hl, _⟩
  · rw [List.take_succ_eq_append_getElem hu, List.mem_append, List.mem_singleton] at hk
    rcases hk with hk | rfl
    · exact .inl ⟨k, hk, h1⟩
    · obtain ⟨l, h2, h3, h4⟩ := Sw gs _ y (Nat.le_refl _) hy
      have hl := (Xf.1 h3).1
      have e1 := hg.at hl hl
      have e2 := hg.at hy hy
      rw [Jk hl, Jk hy] at h4
      exact .inr ⟨hu, h1, l, by rw [List.take_of_length_le (Nat.le_refl _)]; exact h3, by omega⟩
  · simp at hl
theorem H_ {fs gs : List Int} (hf : lfOk fs fs.length) {x y : Nat} (hx : x < fs.length) : Pr fs gs (Yb fs).length 0 x y := by
  obtain ⟨l, h2, h3, h4⟩ := Sw fs _ x (Nat.le_refl _) hx
  have hl := (Xf.1 h3).1
  have e1 := hf.at hl hl
  have e2 := hf.at hx hx
  rw [Jk hl, Jk hx] at h4
  exact .inl ⟨l, by rw [List.take_of_length_le (Nat.le_refl _)]; exact h3, by omega⟩
theorem Y7 {fs gs : List Int} {x y : Nat} : ¬ Pr fs gs 0 0 x y := by
  rintro (⟨k, hk, _⟩ | ⟨_, _, l, hl, _⟩)
  · simp at hk
  · simp at hl
end Go.Scarf
namespace Go.Scarf
def Fp (ls : List Str) (fs : List Int) (gs : List Str) (hs : List Int) : Nat := fd (Ub ls fs) (Ub gs hs) 0 ls.length 0 gs.length
theorem AA {a b : Nodes} {i k : Nat} (h : ∀ z, i ≤ z → z < k → a.lab z = b.lab z) : D2 a b i k = 0 := by
  unfold D2
  rw [List.length_eq_zero_iff, List.filter_eq_nil_iff]
  intro z hz
  rw [List.mem_range'_1] at hz
  simp [h z hz.1 by_Om]
section
variable {ls gs ks : List Str} {fs hs is : List Int}
theorem Vl : Fp ls fs gs hs ≤ ls.length + gs.length ∧ ls.length ≤ Fp ls fs gs hs + gs.length ∧ gs.length ≤ Fp ls fs gs hs + ls.length := by
  have := Zk (Ub ls fs) (Ub gs hs) _ 0 ls.length 0 gs.length (Nat.le_refl _)
  simpa [Fp] using this
theorem JA (h : Ig ls fs) : ∀ k, k ≤ ls.length → fd (Ub ls fs) (Ub ls fs) 0 k 0 k = 0 := fun k hk => by
  have := QF (Ub ls fs) (Ub ls fs) ls.length (h.2.2.nest (by have := h.1; omega) ls |> fun q => by rw [h.1]; exact q) (fun _ _ => rfl) _ 0 k (Nat.le_refl _) hk (lfOk.closed ls k)
  rw [AA fun _ _ _ => rfl] at this
  omega
theorem W_ (h : Ig ls fs) : Fp ls fs ls fs = 0 := JA h _ (Nat.le_refl _)
end
section
variable {ls gs : List Str} {fs hs : List Int} {r : Str}
end
end Go.Scarf
