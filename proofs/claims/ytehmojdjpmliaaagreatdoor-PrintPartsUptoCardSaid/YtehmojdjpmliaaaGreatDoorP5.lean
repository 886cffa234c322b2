/- A part of the proof. -/
import Derived.Test.YtehmojdjpmliaaaGreatDoorC3
import Derived.Lib.ItoaMem
set_option linter.all false
namespace Go.Scarf
def Bal (a b : Str) : Prop := ∀ r, bareL false (a ++ r) = b ++ bareL false r
def Inq (a : Str) : Prop := ∀ r, bareL true (a ++ r) = a ++ bareL true r
theorem bare_cons {q : Bool} {c : UInt8} {r : Str} (h : ¬ (q = true ∧ c = 92)) : bareL q (c :: r) = keepB q c (bareL (nq q c) r) := by
  cases r with
  | nil => rw [bareL, bareL]
  | cons d r => rw [bareL, if_neg h]
theorem Bal.nil : Bal [] [] := fun _ => rfl
theorem Bal.app {a b a' b' : Str} (h : Bal a a') (k : Bal b b') : Bal (a ++ b) (a' ++ b') := fun r => by rw [List.append_assoc, h, k, List.append_assoc]
theorem Inq.nil : Inq [] := fun _ => rfl
theorem Inq.app {a b : Str} (h : Inq a) (k : Inq b) : Inq (a ++ b) := fun r => by rw [List.append_assoc, h, k, List.append_assoc]
theorem Bal.byte {c : UInt8} (h1 : c ≠ 34) (h2 : c ≠ 32) (h3 : c ≠ 10) : Bal [c] [c] := fun r => by
  show bareL false (c :: r) = c :: bareL false r
  rw [bare_cons (by simp), keepB, nq, if_neg h1, if_pos (.inr ⟨h2, h3⟩)]
theorem Bal.blank {c : UInt8} (h : c = 32 ∨ c = 10) : Bal [c] [] := fun r => by
  show bareL false (c :: r) = bareL false r
  have h1 : c ≠ 34 := by rcases h with rfl | rfl <;> decide
  rw [bare_cons (by simp), keepB, nq, if_neg h1, if_neg]
  rintro (h2 | h2)
  · cases h2
  · rcases h with rfl | rfl
    · exact h2.1 rfl
    · exact h2.2 rfl
theorem Bal.bytes : ∀ {a : Str}, (∀ c ∈ a, c ≠ 34 ∧ c ≠ 32 ∧ c ≠ 10) → Bal a a
  | [], _ => Bal.nil
  | c :: a, h => by
    have h1 := h c (by simp)
    exact (Bal.byte h1.1 h1.2.1 h1.2.2).app (Bal.bytes fun d hd => h d (by simp [hd]))
theorem Inq.byte {c : UInt8} (h1 : c ≠ 34) (h2 : c ≠ 92) : Inq [c] := fun r => by
  show bareL true (c :: r) = c :: bareL true r
  rw [bare_cons (fun h => h2 h.2), keepB, nq, if_neg h1, if_pos (.inl rfl)]
theorem Inq.bytes : ∀ {a : Str}, (∀ c ∈ a, c ≠ 34 ∧ c ≠ 92) → Inq a
  | [], _ => Inq.nil
  | c :: a, h => by
    have h1 := h c (by simp)
    exact (Inq.byte h1.1 h1.2).app (Inq.bytes fun d hd => h d (by simp [hd]))
theorem Inq.esc (c : UInt8) : Inq [92, c] := fun r => by
  show bareL true (92 :: c :: r) = 92 :: c :: bareL true r
  rw [bareL, if_pos ⟨rfl, rfl⟩]
theorem Bal.quote {a : Str} (h : Inq a) : Bal ([34] ++ a ++ [34]) ([34] ++ a ++ [34]) := fun r => by
  have e1 : [34] ++ a ++ [34] ++ r = 34 :: (a ++ (34 :: r)) := by simp
  have e2 : bareL true (34 :: r) = 34 :: bareL false r := by
    rw [bare_cons (by decide), keepB, nq, if_pos rfl, if_pos (.inr (by decide))]; rfl
  rw [e1, bare_cons (by simp), keepB, nq, if_pos rfl, if_pos (.inl rfl)]
  show 34 :: bareL true (a ++ (34 :: r)) = _
  rw [h, e2]; simp
theorem encode_high {r : Int} (h : 128 ≤ r) : ∀ x ∈ Lib.encodeRuneZ r, 128 ≤ x := by
  intro x hx
  by_cases h1 : r ≤ 2047
  · rw [Lib.encodeRuneZ_two h h1] at hx; simp at hx; omega
  by_cases h2 : (2048 ≤ r ∧ r < 55296) ∨ (57343 < r ∧ r ≤ 65535)
  · rw [Lib.encodeRuneZ_three h2] at hx; simp at hx; omega
  by_cases h3 : 65536 ≤ r ∧ r ≤ 1114111
  · rw [Lib.encodeRuneZ_four h3.1 h3.2] at hx; simp at hx; omega
  · rw [Lib.encodeRuneZ_bad (by omega)] at hx; simp at hx; omega
theorem letter_none {r : Int} (h : ¬ letterZ r ≠ 0) : r ≠ 34 ∧ r ≠ 92 ∧ r ≠ 10 := by
  have h' : letterZ r = 0 := Classical.not_not.1 h
  refine ⟨?_, ?_, ?_⟩ <;> (rintro rfl; revert h'; decide)
theorem runeS_bytes {r : Nat} (h : 32 ≤ r) (hl : ¬ letterZ r ≠ 0) : ∀ c ∈ runeS r, c ≠ 34 ∧ c ≠ 92 ∧ c ≠ 10 := by
  intro c hc
  obtain ⟨x, hx, rfl⟩ := List.mem_map.1 hc
  have hb := Lib.encodeRuneZ_byte _ x hx
  have hn := letter_none hl
  have key : x ≠ 34 ∧ x ≠ 92 ∧ x ≠ 10 := by
    by_cases h1 : (r : Int) ≤ 127
    · rw [Lib.encodeRuneZ_one (by omega) h1] at hx
      obtain rfl := List.mem_singleton.1 hx
      exact hn
    · have := encode_high (by omega : (128 : Int) ≤ r) x hx
      omega
  refine ⟨fun e => key.1 ?_, fun e => key.2.1 ?_, fun e => key.2.2 ?_⟩ <;>
    (have e' := congrArg UInt8.toNat e; simp only [UInt8.toNat_ofNat'] at e'; first | (have : (34 : UInt8).toNat = 34 := rfl; omega) | (have : (92 : UInt8).toNat = 92 := rfl; omega) | (have : (10 : UInt8).toNat = 10 := rfl; omega))
theorem dg_bytes : ∀ k < 32, dg k ≠ 34 ∧ dg k ≠ 92 ∧ dg k ≠ 10 := by decide
theorem rep_bytes (c : UInt8) : ∀ n, ∀ d ∈ Lib.repeatL [c] n, d = c
  | 0, d, h => by simp [Lib.repeatL] at h
  | n + 1, d, h => by
    simp only [Lib.repeatL, List.mem_append, List.mem_singleton, List.cons_append, List.nil_append, List.mem_cons] at h
    first
    | (rcases h with h | h
       · exact h
       · exact rep_bytes c n d h)
    | (rcases h with h | h
       · exact rep_bytes c n d h
       · exact h)
end Go.Scarf
