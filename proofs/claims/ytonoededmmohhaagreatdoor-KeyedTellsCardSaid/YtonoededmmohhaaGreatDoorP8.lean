/- A part of the proof. -/
import Derived.Test.YtonoededmmohhaaGreatDoorP7
import Derived.Lib.MapLaws
set_option linter.all false
namespace Go.Scarf
def escB (b : UInt8) : Str := if b.toNat < 128 then escS b.toNat else [b]
def escL : Str → Str
  | [] => []
  | b :: s => escB b ++ escL s
theorem escL_app : ∀ a b : Str, escL (a ++ b) = escL a ++ escL b
  | [], b => rfl
  | x :: a, b => by rw [List.cons_append, escL, escL, escL_app a b, List.append_assoc]
theorem rune_one (r : Int) : Lib.encodeRune r = runeS r := rfl
theorem escL_high : ∀ {s : Str}, (∀ c ∈ s, 128 ≤ c.toNat) → escL s = s
  | [], _ => rfl
  | c :: s, h => by
    have h1 := h c (by simp)
    rw [escL, escB, if_neg (by omega), escL_high fun d hd => h d (by simp [hd])]
    rfl
theorem esc_high {r : Nat} (h : 128 ≤ r) : escS r = runeS r := by
  have h0 : ¬ letterZ (r : Int) ≠ 0 := by
    unfold letterZ
    repeat' split
    all_goals first | omega | simp
  rw [escS, if_neg h0, if_pos (by omega)]
theorem runeS_high {r : Nat} (h : 128 ≤ r) : ∀ c ∈ runeS r, 128 ≤ c.toNat := by
  intro c hc
  obtain ⟨x, hx, rfl⟩ := List.mem_map.1 hc
  have hb := Lib.encodeRuneZ_byte _ x hx
  have := encode_high (by omega : (128 : Int) ≤ r) x hx
  simp only [UInt8.toNat_ofNat']
  omega
theorem esc_rune (r : Nat) : escS r = escL (runeS r) := by
  by_cases h : r < 128
  · have e : runeS (r : Int) = [UInt8.ofNat r] := by
      rw [runeS, Lib.encodeRuneZ_one (by omega) (by omega)]
      simp
    have e2 : (UInt8.ofNat r).toNat = r := by simp only [UInt8.toNat_ofNat']; omega
    rw [e, escL, escL, escB, e2, if_pos h, List.append_nil]
  · rw [esc_high (by omega), escL_high (runeS_high (by omega))]
theorem escAt_bytes (s : Str) (p : Nat) : Lib.validD (s.drop p) = true → escAt s p = escL (s.drop p) := by
  induction h : s.length - p using Nat.strongRecOn generalizing p with
  | ind n ih =>
    intro hv
    by_cases hp : p < s.length
    · have hne : s.drop p ≠ [] := by intro e; have := congrArg List.length e; simp at this; omega
      rw [Lib.validD_step _ hne] at hv
      split at hv
      · cases hv
      · rename_i hok
        have he := Lib.encode_decode (s.drop p) hne hok
        rw [decode_drop] at he hv
        have h2 := decode_pos s p
        rw [List.drop_drop] at hv
        rw [escAt_step hp, ih (s.length - (p + (Utf8.decode (bs s) p).2)) (by omega) _ rfl hv, esc_rune, ← rune_one, he, ← List.drop_drop, ← escL_app, List.take_append_drop]
    · rw [escAt_end hp, List.drop_eq_nil_of_le (by omega)]; rfl
theorem quote_bytes {s : Str} (h : Lib.validD s = true) : quoteS s = [34] ++ (escL s ++ [34]) := by
  rw [quoteS, escAt_bytes s 0 (by simpa using h), List.drop_zero, List.append_assoc]
def shapeB : Str → Bool
  | [c] => decide (c ≠ 92) && decide (c ≠ 34)
  | [a, c] => decide (a = 92) && decide (c ≠ 117)
  | [a, c, _, _, _, _] => decide (a = 92) && decide (c = 117)
  | _ => false
theorem escB_shape' : ∀ n < 256, shapeB (escB (UInt8.ofNat n)) = true := by decide +kernel
theorem escB_shape (b : UInt8) : shapeB (escB b) = true := by have := escB_shape' b.toNat (UInt8.toNat_lt b); simpa using this
theorem shape_cases {p : Str} (h : shapeB p = true) : (∃ c, p = [c] ∧ c ≠ 92 ∧ c ≠ 34) ∨ (∃ c, p = [92, c] ∧ c ≠ 117) ∨ (∃ a b c d, p = [92, 117, a, b, c, d]) := by
  unfold shapeB at h
  split at h <;> simp_all
def Ends (r : Str) : Prop := ∀ c s, r = c :: s → c = 44 ∨ c = 93 ∨ c = 125
theorem Ends.nil : Ends [] := fun c s h => by cases h
theorem rnode_cases {k : Int} {t : Str} {ks : List Str} {xs : List Tree} (h : rnodeB (.node k t ks xs) = true) :
    (k = 1 ∧ t = [] ∧ ks = [] ∧ xs = []) ∨ (k = 2 ∧ (t = [116, 114, 117, 101] ∨ t = [102, 97, 108, 115, 101]) ∧ ks = [] ∧ xs = []) ∨ (k = 3 ∧ decimalB t = true ∧ ks = [] ∧ xs = []) ∨
    (k = 4 ∧ Lib.validD t = true ∧ ks = [] ∧ xs = []) ∨ (k = 5 ∧ t = [] ∧ ks = []) ∨ (k = 6 ∧ t = [] ∧ ks.Nodup ∧ (∀ x ∈ ks, Lib.validD x = true) ∧ ks.length = xs.length) := by
  unfold rnodeB at h
  rw [Bool.and_eq_true, decide_eq_true_eq] at h
  obtain ⟨h7, h⟩ := h
  have h7' : k ≠ 7 := h7
  simp only [nodeB] at h
  by_cases h5 : k = 5
  · rw [if_pos h5] at h
    simp at h
    exact .inr (.inr (.inr (.inr (.inl ⟨h5, h.2, h.1⟩))))
  rw [if_neg h5] at h
  by_cases h6 : k = 6
  · rw [if_pos h6] at h
    simp [keyedB] at h
    exact .inr (.inr (.inr (.inr (.inr ⟨h6, h.2, h.1.1.1, h.1.1.2, by omega⟩))))
  rw [if_neg h6] at h
  by_cases hh : ks ≠ [] ∨ xs ≠ []
  · rw [if_pos hh] at h; cases h
  rw [if_neg hh] at h
  have hk : ks = [] := Classical.byContradiction fun hc => hh (.inl hc)
  have hx : xs = [] := Classical.byContradiction fun hc => hh (.inr hc)
  by_cases h1 : k = 1
  · rw [if_pos h1] at h
    simp at h
    exact .inl ⟨h1, h, hk, hx⟩
  rw [if_neg h1] at h
  by_cases h2 : k = 2
  · rw [if_pos h2] at h
    simp at h
    exact .inr (.inl ⟨h2, h, hk, hx⟩)
  rw [if_neg h2] at h
  by_cases h3 : k = 3
  · rw [if_pos h3] at h
    exact .inr (.inr (.inl ⟨h3, h, hk, hx⟩))
  rw [if_neg h3] at h
  by_cases h4 : k = 4
  · rw [if_pos h4] at h
    exact .inr (.inr (.inr (.inl ⟨h4, h, hk, hx⟩)))
  rw [if_neg h4, if_neg h7'] at h
  cases h
end Go.Scarf
