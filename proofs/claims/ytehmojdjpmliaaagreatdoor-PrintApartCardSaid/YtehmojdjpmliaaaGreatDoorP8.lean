/- A part of the proof. -/
import Derived.Test.YtehmojdjpmliaaaGreatDoorP7
import Derived.Lib.MapLaws
set_option linter.all false
namespace Go.Scarf
def escB (b : UInt8) : Str := if b.toNat < 128 then escS b.toNat else [b]
def escL : Str → Str
  | [] => []
  | b :: s => escB b ++ escL s
theorem escL_app : ∀ a b : Str, escL (a ++ b) = escL a ++ escL b
  | [], b => rfl
  | x :: a, b => by rw [List.cons_append, escL, escL, escL_app a b, List.append_assoc]
theorem rune_one (r : Int) : Lib.encodeRune r = runeS r := rfl
theorem escL_high : ∀ {s : Str}, (∀ c ∈ s, 128 ≤ c.toNat) → escL s = s
  | [], _ => rfl
  | c :: s, h => by
    have h1 := h c (by simp)
    rw [escL, escB, if_neg (by omega), escL_high fun d hd => h d (by simp [hd])]
    rfl
theorem esc_high {r : Nat} (h : 128 ≤ r) : escS r = runeS r := by
  have h0 : ¬ letterZ (r : Int) ≠ 0 := by
    unfold letterZ
    repeat' split
    all_goals first | omega | simp
  rw [escS, if_neg h0, if_pos (by omega)]
theorem runeS_high {r : Nat} (h : 128 ≤ r) : ∀ c ∈ runeS r, 128 ≤ c.toNat := by
  intro c hc
  obtain ⟨x, hx, rfl⟩ := List.mem_map.1 hc
  have hb := Lib.encodeRuneZ_byte _ x hx
  have := encode_high (by omega : (128 : Int) ≤ r) x hx
  simp only [UInt8.toNat_ofNat']
  omega
theorem esc_rune (r : Nat) : escS r = escL (runeS r) := by
  by_cases h : r < 128
  · have e : runeS (r : Int) = [UInt8.ofNat r] := by
      rw [runeS, Lib.encodeRuneZ_one (by omega) (by omega)]
      simp
    have e2 : (UInt8.ofNat r).toNat = r := by simp only [UInt8.toNat_ofNat']; omega
    rw [e, escL, escL, escB, e2, if_pos h, List.append_nil]
  · rw [esc_high (by omega), escL_high (runeS_high (by omega))]
theorem escAt_bytes (s : Str) (p : Nat) : Lib.validD (s.drop p) = true → escAt s p = escL (s.drop p) := by
  induction h : s.length - p using Nat.strongRecOn generalizing p with
  | ind n ih =>
    intro hv
    by_cases hp : p < s.length
    · have hne : s.drop p ≠ [] := by intro e; have := congrArg List.length e; simp at this; omega
      rw [Lib.validD_step _ hne] at hv
      split at hv
      · cases hv
      · rename_i hok
        have he := Lib.encode_decode (s.drop p) hne hok
        rw [decode_drop] at he hv
        have h2 := decode_pos s p
        rw [List.drop_drop] at hv
        rw [escAt_step hp, ih (s.length - (p + (Utf8.decode (bs s) p).2)) (by omega) _ rfl hv, esc_rune, ← rune_one, he, ← List.drop_drop, ← escL_app, List.take_append_drop]
    · rw [escAt_end hp, List.drop_eq_nil_of_le (by omega)]; rfl
theorem quote_bytes {s : Str} (h : Lib.validD s = true) : quoteS s = [34] ++ (escL s ++ [34]) := by
  rw [quoteS, escAt_bytes s 0 (by simpa using h), List.drop_zero, List.append_assoc]
def shapeB : Str → Bool
  | [c] => decide (c ≠ 92) && decide (c ≠ 34)
  | [a, c] => decide (a = 92) && decide (c ≠ 117)
  | [a, c, _, _, _, _] => decide (a = 92) && decide (c = 117)
  | _ => false
def unB : Str → UInt8
  | [c] => c
  | [_, c] => if c = 98 then 8 else if c = 102 then 12 else if c = 110 then 10 else if c = 114 then 13 else if c = 116 then 9 else c
  | [_, _, _, _, h, l] => (h - 48) * 16 + (if l.toNat < 58 then l - 48 else l - 87)
  | _ => 0
theorem escB_shape' : ∀ n < 256, shapeB (escB (UInt8.ofNat n)) = true := by decide +kernel
theorem escB_un' : ∀ n < 256, unB (escB (UInt8.ofNat n)) = UInt8.ofNat n := by decide +kernel
theorem escB_shape (b : UInt8) : shapeB (escB b) = true := by have := escB_shape' b.toNat (UInt8.toNat_lt b); simpa using this
theorem escB_un (b : UInt8) : unB (escB b) = b := by have := escB_un' b.toNat (UInt8.toNat_lt b); simpa using this
theorem shape_cases {p : Str} (h : shapeB p = true) : (∃ c, p = [c] ∧ c ≠ 92 ∧ c ≠ 34) ∨ (∃ c, p = [92, c] ∧ c ≠ 117) ∨ (∃ a b c d, p = [92, 117, a, b, c, d]) := by
  unfold shapeB at h
  split at h <;> simp_all
theorem escB_app {b b' : UInt8} {X X' : Str} (h : escB b ++ X = escB b' ++ X') : b = b' ∧ X = X' := by
  have key : escB b = escB b' ∧ X = X' := by
    rcases shape_cases (escB_shape b) with ⟨c, e, h1, h2⟩ | ⟨c, e, h1⟩ | ⟨x1, x2, x3, x4, e⟩ <;>
    rcases shape_cases (escB_shape b') with ⟨c', e', h1', h2'⟩ | ⟨c', e', h1'⟩ | ⟨y1, y2, y3, y4, e'⟩ <;>
    rw [e, e'] at h <;> simp at h <;> (first | (rw [e, e']; simp_all; done) | (exfalso; simp_all; done))
  exact ⟨by rw [← escB_un b, ← escB_un b', key.1], key.2⟩
theorem escB_start (b : UInt8) : ∃ c s, escB b = c :: s ∧ c ≠ 34 := by
  rcases shape_cases (escB_shape b) with ⟨c, e, h1, h2⟩ | ⟨c, e, h1⟩ | ⟨x1, x2, x3, x4, e⟩
  · exact ⟨c, [], e, h2⟩
  · exact ⟨92, [c], e, by decide⟩
  · exact ⟨92, _, e, by decide⟩
theorem escL_read : ∀ (s s' : Str) (X X' : Str), escL s ++ 34 :: X = escL s' ++ 34 :: X' → s = s' ∧ X = X'
  | [], [], X, X', h => ⟨rfl, by simpa [escL] using h⟩
  | [], b :: s, X, X', h => by
    obtain ⟨c, r, e, hc⟩ := escB_start b
    rw [escL, escL, e] at h
    simp at h
    exact absurd h.1.symm hc
  | b :: s, [], X, X', h => by
    obtain ⟨c, r, e, hc⟩ := escB_start b
    rw [escL, escL, e] at h
    simp at h
    exact absurd h.1 hc
  | b :: s, b' :: s', X, X', h => by
    rw [escL, escL, List.append_assoc, List.append_assoc] at h
    obtain ⟨rfl, h2⟩ := escB_app h
    obtain ⟨rfl, h3⟩ := escL_read s s' X X' h2
    exact ⟨rfl, h3⟩
theorem qS_read {s s' X X' : Str} (h1 : Lib.validD s = true) (h2 : Lib.validD s' = true) (h : qS s ++ X = qS s' ++ X') : s = s' ∧ X = X' := by
  rw [qS, qS, if_pos h1, if_pos h2, quote_bytes h1, quote_bytes h2] at h
  simp at h
  exact escL_read s s' X X' h
theorem qS_start {s : Str} (h : Lib.validD s = true) : ∃ r, qS s = 34 :: r := by
  rw [qS, if_pos h, quote_bytes h]
  exact ⟨_, rfl⟩
def Ends (r : Str) : Prop := ∀ c s, r = c :: s → c = 44 ∨ c = 93 ∨ c = 125
theorem Ends.nil : Ends [] := fun c s h => by cases h
theorem numC_ends {c : UInt8} (h : numC c) : ¬ (c = 44 ∨ c = 93 ∨ c = 125) := by
  rintro (rfl | rfl | rfl) <;> (rcases h with h | h | h <;> revert h <;> decide)
theorem num_read : ∀ (t t' r r' : Str), (∀ c ∈ t, numC c) → (∀ c ∈ t', numC c) → Ends r → Ends r' → t ++ r = t' ++ r' → t = t' ∧ r = r'
  | [], [], r, r', _, _, _, _, h => ⟨rfl, by simpa using h⟩
  | [], c :: t, r, r', _, h2, h3, _, h => absurd (h3 c (t ++ r') (by simpa using h)) (numC_ends (h2 c (by simp)))
  | c :: t, [], r, r', h1, _, _, h4, h => absurd (h4 c (t ++ r) (by simpa using h.symm)) (numC_ends (h1 c (by simp)))
  | c :: t, c' :: t', r, r', h1, h2, h3, h4, h => by
    simp only [List.cons_append, List.cons.injEq] at h
    obtain ⟨rfl, h5⟩ := num_read t t' r r' (fun d hd => h1 d (by simp [hd])) (fun d hd => h2 d (by simp [hd])) h3 h4 h.2
    exact ⟨by rw [h.1], h5⟩
def kindOf (c : UInt8) : Int := if c = 110 then 1 else if c = 116 ∨ c = 102 then 2 else if c = 34 then 4 else if c = 91 then 5 else if c = 123 then 6 else 3
theorem kind_num {c : UInt8} (h : numC c) : kindOf c = 3 := by
  have : ∀ n < 256, (isDig (UInt8.ofNat n) = true ∨ UInt8.ofNat n = 45 ∨ UInt8.ofNat n = 101) → kindOf (UInt8.ofNat n) = 3 := by decide +kernel
  have h2 := this c.toNat (UInt8.toNat_lt c)
  simp only [UInt8.ofNat_toNat] at h2
  exact h2 h
theorem rnode_cases {k : Int} {t : Str} {ks : List Str} {xs : List Tree} (h : rnodeB (.node k t ks xs) = true) :
    (k = 1 ∧ t = [] ∧ ks = [] ∧ xs = []) ∨ (k = 2 ∧ (t = [116, 114, 117, 101] ∨ t = [102, 97, 108, 115, 101]) ∧ ks = [] ∧ xs = []) ∨ (k = 3 ∧ decimalB t = true ∧ ks = [] ∧ xs = []) ∨
    (k = 4 ∧ Lib.validD t = true ∧ ks = [] ∧ xs = []) ∨ (k = 5 ∧ t = [] ∧ ks = []) ∨ (k = 6 ∧ t = [] ∧ ks.Nodup ∧ (∀ x ∈ ks, Lib.validD x = true) ∧ ks.length = xs.length) := by
  unfold rnodeB at h
  rw [Bool.and_eq_true, decide_eq_true_eq] at h
  obtain ⟨h7, h⟩ := h
  have h7' : k ≠ 7 := h7
  simp only [nodeB] at h
  by_cases h5 : k = 5
  · rw [if_pos h5] at h
    simp at h
    exact .inr (.inr (.inr (.inr (.inl ⟨h5, h.2, h.1⟩))))
  rw [if_neg h5] at h
  by_cases h6 : k = 6
  · rw [if_pos h6] at h
    simp [keyedB] at h
    exact .inr (.inr (.inr (.inr (.inr ⟨h6, h.2, h.1.1.1, h.1.1.2, by omega⟩))))
  rw [if_neg h6] at h
  by_cases hh : ks ≠ [] ∨ xs ≠ []
  · rw [if_pos hh] at h; cases h
  rw [if_neg hh] at h
  have hk : ks = [] := Classical.byContradiction fun hc => hh (.inl hc)
  have hx : xs = [] := Classical.byContradiction fun hc => hh (.inr hc)
  by_cases h1 : k = 1
  · rw [if_pos h1] at h
    simp at h
    exact .inl ⟨h1, h, hk, hx⟩
  rw [if_neg h1] at h
  by_cases h2 : k = 2
  · rw [if_pos h2] at h
    simp at h
    exact .inr (.inl ⟨h2, h, hk, hx⟩)
  rw [if_neg h2] at h
  by_cases h3 : k = 3
  · rw [if_pos h3] at h
    exact .inr (.inr (.inl ⟨h3, h, hk, hx⟩))
  rw [if_neg h3] at h
  by_cases h4 : k = 4
  · rw [if_pos h4] at h
    exact .inr (.inr (.inr (.inl ⟨h4, h, hk, hx⟩)))
  rw [if_neg h4, if_neg h7'] at h
  cases h
theorem val_head {x : Tree} (h : allT rnodeB x = true) (d : Nat) : ∃ c s, valS false 0 x d = c :: s ∧ kindOf c = x.kind ∧ c ≠ 44 ∧ c ≠ 93 ∧ c ≠ 125 := by
  obtain ⟨k, t, ks, xs⟩ := x
  obtain ⟨hn, -⟩ := allT_node h
  rcases rnode_cases hn with ⟨rfl, rfl, rfl, rfl⟩ | ⟨rfl, ht, rfl, rfl⟩ | ⟨rfl, ht, rfl, rfl⟩ | ⟨rfl, ht, rfl, rfl⟩ | ⟨rfl, rfl, rfl⟩ | ⟨rfl, rfl, -, -, -⟩
  · exact ⟨110, [117, 108, 108], by rw [valS]; rfl, by decide, by decide⟩
  · rcases ht with rfl | rfl
    · exact ⟨116, [114, 117, 101], by rw [valS]; rfl, by decide, by decide⟩
    · exact ⟨102, [97, 108, 115, 101], by rw [valS]; rfl, by decide, by decide⟩
  · have hc := decimal_num ht
    obtain ⟨c, s, rfl⟩ := List.exists_cons_of_ne_nil (decimal_ne ht)
    have h1 := hc c (by simp)
    have h2 := numC_ends h1
    exact ⟨c, s, by rw [valS]; rfl, kind_num h1, fun e => h2 (.inl e), fun e => h2 (.inr (.inl e)), fun e => h2 (.inr (.inr e))⟩
  · obtain ⟨r, e⟩ := qS_start ht
    exact ⟨34, r, by rw [valS]; exact e, rfl, by decide⟩
  · exact ⟨91, _, by rw [valS]; rfl, rfl, by decide⟩
  · exact ⟨123, _, by rw [valS]; rfl, rfl, by decide⟩
def ReadsT (x : Tree) : Prop := allT rnodeB x = true → ∀ y, allT rnodeB y = true → ∀ d e r r', Ends r → Ends r' → valS false 0 x d ++ r = valS false 0 y e ++ r' → x = y ∧ r = r'
theorem join_ends (d : Nat) (b : Bool) (ps : List Str) (c : UInt8) (hc : c = 93 ∨ c = 125) (r : Str) (hb : b = false) : Ends (joinS false 0 d b ps ++ c :: r) := by
  subst hb
  intro x s h
  cases ps with
  | nil => rw [joinS] at h; simp at h; rw [← h.1]; exact .inr hc
  | cons p ps => rw [joinS] at h; simp at h; exact .inl h.1.symm
theorem rows_read : ∀ (xs ys : List Tree), (∀ x ∈ xs, ReadsT x) → (∀ x ∈ xs, allT rnodeB x = true) → (∀ y ∈ ys, allT rnodeB y = true) → ∀ (b : Bool) (d e d' e' : Nat) (r r' : Str),
    joinS false 0 d b (valsS false 0 xs d') ++ 93 :: r = joinS false 0 e b (valsS false 0 ys e') ++ 93 :: r' → xs = ys ∧ r = r'
  | [], [], _, _, _, b, d, e, d', e', r, r', h => by
    rw [valsS, valsS, joinS, joinS] at h
    exact ⟨rfl, by simpa using h⟩
  | [], y :: ys, _, _, hy, b, d, e, d', e', r, r', h => by
    exfalso
    obtain ⟨c, s, e1, -, -, h93, -⟩ := val_head (hy y (by simp)) e'
    rw [valsS, valsS, joinS, joinS, e1] at h
    cases b
    · simp at h
    · simp [lineS] at h; exact h93 h.1.symm
  | x :: xs, [], _, hx, _, b, d, e, d', e', r, r', h => by
    exfalso
    obtain ⟨c, s, e1, -, -, h93, -⟩ := val_head (hx x (by simp)) d'
    rw [valsS, valsS, joinS, joinS, e1] at h
    cases b
    · simp at h
    · simp [lineS] at h; exact h93 h.1
  | x :: xs, y :: ys, hr, hx, hy, b, d, e, d', e', r, r', h => by
    rw [valsS, valsS, joinS, joinS] at h
    simp only [lineS, List.append_assoc] at h
    have h2 := List.append_cancel_left h
    simp only [if_neg (show ¬ false = true by decide), List.nil_append] at h2
    obtain ⟨rfl, h3⟩ := hr x (by simp) (hx x (by simp)) y (hy y (by simp)) d' e' _ _ (join_ends d false _ 93 (.inl rfl) r rfl) (join_ends e false _ 93 (.inl rfl) r' rfl) h2
    obtain ⟨rfl, h4⟩ := rows_read xs ys (fun z hz => hr z (by simp [hz])) (fun z hz => hx z (by simp [hz])) (fun z hz => hy z (by simp [hz])) false d e d' e' r r' h3
    exact ⟨rfl, h4⟩
theorem mems_read : ∀ (xs ys : List Tree) (ks ls : List Str), ks.length = xs.length → ls.length = ys.length → (∀ x ∈ xs, ReadsT x) → (∀ x ∈ xs, allT rnodeB x = true) → (∀ y ∈ ys, allT rnodeB y = true) →
    (∀ k ∈ ks, Lib.validD k = true) → (∀ k ∈ ls, Lib.validD k = true) → ∀ (b : Bool) (d e d' e' : Nat) (r r' : Str),
    joinS false 0 d b (memsS false 0 xs ks d') ++ 125 :: r = joinS false 0 e b (memsS false 0 ys ls e') ++ 125 :: r' → xs = ys ∧ ks = ls ∧ r = r'
  | [], [], ks, ls, h1, h2, _, _, _, _, _, b, d, e, d', e', r, r', h => by
    rw [memsS, memsS, joinS, joinS] at h
    rw [List.eq_nil_of_length_eq_zero h1, List.eq_nil_of_length_eq_zero h2]
    exact ⟨rfl, rfl, by simpa using h⟩
  | [], y :: ys, ks, l :: ls, _, _, _, _, _, _, hl, b, d, e, d', e', r, r', h => by
    exfalso
    obtain ⟨s, e1⟩ := qS_start (hl l (by simp))
    rw [memsS, memsS, joinS, joinS, List.headD_cons, e1] at h
    cases b
    · simp at h
    · simp [lineS] at h
  | x :: xs, [], k :: ks, ls, _, _, _, _, _, hk, _, b, d, e, d', e', r, r', h => by
    exfalso
    obtain ⟨s, e1⟩ := qS_start (hk k (by simp))
    rw [memsS, memsS, joinS, joinS, List.headD_cons, e1] at h
    cases b
    · simp at h
    · simp [lineS] at h
  | x :: xs, y :: ys, k :: ks, l :: ls, h1, h2, hr, hx, hy, hk, hl, b, d, e, d', e', r, r', h => by
    rw [memsS, memsS, joinS, joinS, List.headD_cons, List.headD_cons] at h
    simp only [lineS, List.append_assoc] at h
    have h3 := List.append_cancel_left h
    simp only [if_neg (show ¬ false = true by decide), List.nil_append] at h3
    obtain ⟨rfl, h4⟩ := qS_read (hk k (by simp)) (hl l (by simp)) h3
    have h5 := List.append_cancel_left h4
    obtain ⟨rfl, h6⟩ := hr x (by simp) (hx x (by simp)) y (hy y (by simp)) d' e' _ _ (join_ends d false _ 125 (.inr rfl) r rfl) (join_ends e false _ 125 (.inr rfl) r' rfl) h5
    simp only [List.tail_cons] at h6
    obtain ⟨rfl, rfl, h7⟩ := mems_read xs ys ks ls (by simpa using h1) (by simpa using h2) (fun z hz => hr z (by simp [hz])) (fun z hz => hx z (by simp [hz])) (fun z hz => hy z (by simp [hz])) (fun z hz => hk z (by simp [hz])) (fun z hz => hl z (by simp [hz])) false d e d' e' r r' h6
    exact ⟨rfl, rfl, h7⟩
  | [], _ :: _, _, [], _, h2, _, _, _, _, _, _, _, _, _, _, _, _, _ => by simp at h2
  | _ :: _, _, [], _, h1, _, _, _, _, _, _, _, _, _, _, _, _, _, _ => by simp at h1
  | _ :: _, _ :: _, _ :: _, [], _, h2, _, _, _, _, _, _, _, _, _, _, _, _, _ => by simp at h2
theorem val_read (x : Tree) : ReadsT x := Tree.ind (Q := ReadsT) (fun k t ks xs ih hx y hy d e r r' hr hr' h => by
  obtain ⟨k', t', ks', ys⟩ := y
  obtain ⟨hn, hxs⟩ := allT_node hx
  obtain ⟨hn', hys⟩ := allT_node hy
  obtain ⟨c, s, e1, hc, -⟩ := val_head hx d
  obtain ⟨c', s', e1', hc', -⟩ := val_head hy e
  have hk : k = k' := by
    have h2 := h
    rw [e1, e1'] at h2
    simp at h2
    rw [h2.1] at hc
    exact hc.symm.trans hc'
  subst hk
  clear e1 e1' hc hc'
  rcases rnode_cases hn with ⟨rfl, rfl, rfl, rfl⟩ | ⟨rfl, ht, rfl, rfl⟩ | ⟨rfl, ht, rfl, rfl⟩ | ⟨rfl, ht, rfl, rfl⟩ | ⟨rfl, rfl, rfl⟩ | ⟨rfl, rfl, -, hv, hl⟩ <;>
  rcases rnode_cases hn' with ⟨h0, rfl, rfl, rfl⟩ | ⟨h0, ht', rfl, rfl⟩ | ⟨h0, ht', rfl, rfl⟩ | ⟨h0, ht', rfl, rfl⟩ | ⟨h0, rfl, rfl⟩ | ⟨h0, rfl, -, hv', hl'⟩ <;>
  first | (exfalso; revert h0; decide) | skip
  · rw [valS, valS] at h
    exact ⟨rfl, List.append_cancel_left h⟩
  · rw [valS, valS] at h
    rcases ht with rfl | rfl <;> rcases ht' with rfl | rfl <;> simp at h <;> exact ⟨rfl, h⟩
  · rw [valS, valS] at h
    obtain ⟨rfl, h2⟩ := num_read t t' r r' (decimal_num ht) (decimal_num ht') hr hr' h
    exact ⟨rfl, h2⟩
  · rw [valS, valS] at h
    obtain ⟨rfl, h2⟩ := qS_read ht ht' h
    exact ⟨rfl, h2⟩
  · rw [valS, valS] at h
    simp [itemsS, lineS] at h
    obtain ⟨rfl, h2⟩ := rows_read xs ys ih hxs hys true d e _ _ r r' h
    exact ⟨rfl, h2⟩
  · rw [valS, valS] at h
    simp [itemsS, lineS] at h
    obtain ⟨rfl, rfl, h2⟩ := mems_read xs ys ks ks' hl hl' ih hxs hys hv hv' true d e _ _ r r' h
    exact ⟨rfl, h2⟩) x
theorem right_nodes {x : Tree} (h : rightB x = true) : allT rnodeB x = true := by
  unfold rightB at h
  rw [Bool.and_eq_true] at h
  exact h.2
theorem comp_read {x y : Tree} (hx : rightB x = true) (hy : rightB y = true) : compS x = compS y ↔ x = y := by
  refine ⟨fun h => ?_, fun h => by rw [h]⟩
  rw [compS, compS, if_pos hx, if_pos hy] at h
  exact (val_read x (right_nodes hx) y (right_nodes hy) 0 0 [] [] Ends.nil Ends.nil (by simpa using h)).1
theorem comp_equal {x y : Tree} (hx : rightB x = true) (hy : rightB y = true) : decide (compS x = compS y) = eqT x y := by
  rw [Bool.eq_iff_iff, decide_eq_true_eq, comp_read hx hy, eqT_iff]
theorem canon_same {x y : Tree} (hx : rightB x = true) (hy : rightB y = true) : decide (compS (sortedV x) = compS (sortedV y)) = SameV x y := by
  have ox := right_open hx
  have oy := right_open hy
  rw [Bool.eq_iff_iff, decide_eq_true_eq, comp_read (by rw [right_sorted]; exact hx) (by rw [right_sorted]; exact hy), sorted_open ox, sorted_open oy, sameV_iff ox oy]
end Go.Scarf
