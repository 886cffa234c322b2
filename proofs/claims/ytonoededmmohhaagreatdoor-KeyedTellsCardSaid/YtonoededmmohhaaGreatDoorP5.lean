/- A part of the proof. -/
import Derived.Test.YtonoededmmohhaaGreatDoorC3
import Derived.Lib.ItoaMem
set_option linter.all false
namespace Go.Scarf
def Bal (a b : Str) : Prop := ∀ r, bareL false (a ++ r) = b ++ bareL false r
def Inq (a : Str) : Prop := ∀ r, bareL true (a ++ r) = a ++ bareL true r
theorem bare_cons {q : Bool} {c : UInt8} {r : Str} (h : ¬ (q = true ∧ c = 92)) : bareL q (c :: r) = keepB q c (bareL (nq q c) r) := by
  cases r with
  | nil => rw [bareL, bareL]
  | cons d r => rw [bareL, if_neg h]
theorem Bal.nil : Bal [] [] := fun _ => rfl
theorem Bal.app {a b a' b' : Str} (h : Bal a a') (k : Bal b b') : Bal (a ++ b) (a' ++ b') := fun r => by rw [List.append_assoc, h, k, List.append_assoc]
theorem Inq.nil : Inq [] := fun _ => rfl
theorem Inq.app {a b : Str} (h : Inq a) (k : Inq b) : Inq (a ++ b) := fun r => by rw [List.append_assoc, h, k, List.append_assoc]
theorem Bal.byte {c : UInt8} (h1 : c ≠ 34) (h2 : c ≠ 32) (h3 : c ≠ 10) : Bal [c] [c] := fun r => by
  show bareL false (c :: r) = c :: bareL false r
  rw [bare_cons (by simp), keepB, nq, if_neg h1, if_pos (.inr ⟨h2, h3⟩)]
theorem Bal.bytes : ∀ {a : Str}, (∀ c ∈ a, c ≠ 34 ∧ c ≠ 32 ∧ c ≠ 10) → Bal a a
  | [], _ => Bal.nil
  | c :: a, h => by
    have h1 := h c (by simp)
    exact (Bal.byte h1.1 h1.2.1 h1.2.2).app (Bal.bytes fun d hd => h d (by simp [hd]))
theorem Inq.byte {c : UInt8} (h1 : c ≠ 34) (h2 : c ≠ 92) : Inq [c] := fun r => by
  show bareL true (c :: r) = c :: bareL true r
  rw [bare_cons (fun h => h2 h.2), keepB, nq, if_neg h1, if_pos (.inl rfl)]
theorem Inq.bytes : ∀ {a : Str}, (∀ c ∈ a, c ≠ 34 ∧ c ≠ 92) → Inq a
  | [], _ => Inq.nil
  | c :: a, h => by
    have h1 := h c (by simp)
    exact (Inq.byte h1.1 h1.2).app (Inq.bytes fun d hd => h d (by simp [hd]))
theorem encode_high {r : Int} (h : 128 ≤ r) : ∀ x ∈ Lib.encodeRuneZ r, 128 ≤ x := by
  intro x hx
  by_cases h1 : r ≤ 2047
  · rw [Lib.encodeRuneZ_two h h1] at hx; simp at hx; omega
  by_cases h2 : (2048 ≤ r ∧ r < 55296) ∨ (57343 < r ∧ r ≤ 65535)
  · rw [Lib.encodeRuneZ_three h2] at hx; simp at hx; omega
  by_cases h3 : 65536 ≤ r ∧ r ≤ 1114111
  · rw [Lib.encodeRuneZ_four h3.1 h3.2] at hx; simp at hx; omega
  · rw [Lib.encodeRuneZ_bad (by omega)] at hx; simp at hx; omega
end Go.Scarf
