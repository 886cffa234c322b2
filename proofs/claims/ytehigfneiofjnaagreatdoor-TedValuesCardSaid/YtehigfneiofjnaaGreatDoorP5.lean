/- A part of the proof. -/
import Derived.Test.YtehigfneiofjnaaGreatDoorC2
import Derived.Lib.ItoaMem
import Derived.Lib.MapLaws
set_option linter.all false
set_option maxHeartbeats 8000000
set_option maxRecDepth 10000
namespace Go.Scarf
def Bal (a b : Str) : Prop := ∀ r, Hn false (a ++ r) = b ++ Hn false r
def Inq (a : Str) : Prop := ∀ r, Hn true (a ++ r) = a ++ Hn true r
theorem O1 {q : Bool} {c : UInt8} {r : Str} (h : ¬ (q = true ∧ c = 92)) : Hn q (c :: r) = M5 q c (Hn (nq q c) r) := by
  cases r with
  | nil => rw [Hn, Hn]
  | cons d r => rw [Hn, if_neg h]
theorem Bal.nil : Bal [] [] := fun _ => rfl
theorem Bal.app {a b a' b' : Str} (h : Bal a a') (k : Bal b b') : Bal (a ++ b) (a' ++ b') := fun r => by rw [List.append_assoc, h, k, List.append_assoc]
theorem Inq.nil : Inq [] := fun _ => rfl
theorem Inq.app {a b : Str} (h : Inq a) (k : Inq b) : Inq (a ++ b) := fun r => by rw [List.append_assoc, h, k, List.append_assoc]
theorem Bal.byte {c : UInt8} (h1 : c ≠ 34) (h2 : c ≠ 32) (h3 : c ≠ 10) : Bal [c] [c] := fun r => by
  show Hn false (c :: r) = c :: Hn false r
  rw [O1 Sa, M5, nq, if_neg h1, if_pos (.inr ⟨h2, h3⟩)]
theorem Bal.bytes : ∀ {a : Str}, (∀ c ∈ a, c ≠ 34 ∧ c ≠ 32 ∧ c ≠ 10) → Bal a a
  | [], _ => Bal.nil
  | c :: a, h => by
    have h1 := h c Sa
    exact (Bal.byte h1.1 h1.2.1 h1.2.2).app (Bal.bytes fun d hd => h d (by simp [hd]))
theorem Inq.byte {c : UInt8} (h1 : c ≠ 34) (h2 : c ≠ 92) : Inq [c] := fun r => by
  show Hn true (c :: r) = c :: Hn true r
  rw [O1 (fun h => h2 h.2), M5, nq, if_neg h1, if_pos (.inl rfl)]
theorem Inq.bytes : ∀ {a : Str}, (∀ c ∈ a, c ≠ 34 ∧ c ≠ 92) → Inq a
  | [], _ => Inq.nil
  | c :: a, h => by
    have h1 := h c Sa
    exact (Inq.byte h1.1 h1.2).app (Inq.bytes fun d hd => h d (by simp [hd]))
theorem F8 {r : Int} (h : 128 ≤ r) : ∀ x ∈ Lib.encodeRuneZ r, 128 ≤ x := by
  intro x hx
  by_cases h1 : r ≤ 2047
  · rw [Lib.encodeRuneZ_two h h1] at hx; simp at hx; omega
  by_cases h2 : (2048 ≤ r ∧ r < 55296) ∨ (57343 < r ∧ r ≤ 65535)
  · rw [Lib.encodeRuneZ_three h2] at hx; simp at hx; omega
  by_cases h3 : 65536 ≤ r ∧ r ≤ 1114111
  · rw [Lib.encodeRuneZ_four h3.1 h3.2] at hx; simp at hx; omega
  · rw [Lib.encodeRuneZ_bad by_Om] at hx; simp at hx; omega
end Go.Scarf
namespace Go.Scarf
end Go.Scarf
namespace Go.Scarf
def nl (s : Str) : Nat := s.count 10
end Go.Scarf
namespace Go.Scarf
def Jh (b : UInt8) : Str := if b.toNat < 128 then Kr b.toNat else [b]
def Xp : Str → Str
  | [] => []
  | b :: s => Jh b ++ Xp s
theorem Jz : ∀ a b : Str, Xp (a ++ b) = Xp a ++ Xp b
  | [], b => rfl
  | x :: a, b => by rw [List.cons_append, Xp, Xp, Jz a b, List.append_assoc]
theorem NI (r : Int) : Lib.encodeRune r = Qi r := rfl
theorem Q1 : ∀ {s : Str}, (∀ c ∈ s, 128 ≤ c.toNat) → Xp s = s
  | [], _ => rfl
  | c :: s, h => by
    have h1 := h c Sa
    rw [Xp, Jh, if_neg by_Om, Q1 fun d hd => h d (by simp [hd])]
    rfl
theorem MF {r : Nat} (h : 128 ≤ r) : Kr r = Qi r := by
  have h0 : ¬ Zf (r : Int) ≠ 0 := by
    unfold Zf
    repeat' split
    all_goals first | omega | simp
  rw [Kr, if_neg h0, if_pos by_Om]
theorem Y8 {r : Nat} (h : 128 ≤ r) : ∀ c ∈ Qi r, 128 ≤ c.toNat := by
  intro c hc
  obtain ⟨x, hx, rfl⟩ := List.mem_map.1 hc
  have hb := Lib.encodeRuneZ_byte _ x hx
  have := F8 (by omega : (128 : Int) ≤ r) x hx
  simp only [UInt8.toNat_ofNat']
  omega
theorem JH (r : Nat) : Kr r = Xp (Qi r) := by
  by_cases h : r < 128
  · have e : Qi (r : Int) = [UInt8.ofNat r] := by
      rw [Qi, Lib.encodeRuneZ_one by_Om by_Om]
      simp
    have e2 : (UInt8.ofNat r).toNat = r := by simp only [UInt8.toNat_ofNat']; omega
    rw [e, Xp, Xp, Jh, e2, if_pos h, List.append_nil]
  · rw [MF by_Om, Q1 (Y8 by_Om)]
theorem R6 (s : Str) (p : Nat) : Lib.validD (s.drop p) = true → Er s p = Xp (s.drop p) := by
  induction h : s.length - p using Nat.strongRecOn generalizing p with
  | ind n ih =>
    intro hv
    by_cases hp : p < s.length
    · have hne : s.drop p ≠ [] := by intro e; have := congrArg List.length e; simp at this; omega
      rw [Lib.validD_step _ hne] at hv
      split at hv
      · cases hv
      · rename_i hok
        have he := Lib.encode_decode (s.drop p) hne hok
        rw [Gk] at he hv
        have h2 := Tf s p
        rw [List.drop_drop] at hv
        rw [Zm hp, ih (s.length - (p + (Utf8.decode (bs s) p).2)) by_Om _ rfl hv, JH, ← NI, he, ← List.drop_drop, ← Jz, List.take_append_drop]
    · rw [Uv hp, List.drop_eq_nil_of_le by_Om]; rfl
theorem Y7 {s : Str} (h : Lib.validD s = true) : Qt s = [34] ++ (Xp s ++ [34]) := by
  rw [Qt, R6 s 0 (by simpa using h), List.drop_zero, List.append_assoc]
def B4 : Str → Bool
  | [c] => decide (c ≠ 92) && decide (c ≠ 34)
  | [a, c] => decide (a = 92) && decide (c ≠ 117)
  | [a, c, _, _, _, _] => decide (a = 92) && decide (c = 117)
  | _ => false
theorem V7 : ∀ n < 256, B4 (Jh (UInt8.ofNat n)) = true := by decide +kernel
theorem C9 (b : UInt8) : B4 (Jh b) = true := by have := V7 b.toNat (UInt8.toNat_lt b); simpa using this
theorem G6 {p : Str} (h : B4 p = true) : (∃ c, p = [c] ∧ c ≠ 92 ∧ c ≠ 34) ∨ (∃ c, p = [92, c] ∧ c ≠ 117) ∨ (∃ a b c d, p = [92, 117, a, b, c, d]) := by
  unfold B4 at h
  split at h <;> simp_all
def Ends (r : Str) : Prop := ∀ c s, r = c :: s → c = 44 ∨ c = 93 ∨ c = 125
theorem Ends.nil : Ends [] := fun c s h => by cases h
theorem Ex {k : Int} {t : Str} {ks : List Str} {xs : List Tree} (h : rnodeB (.node k t ks xs) = true) :
    (k = 1 ∧ t = [] ∧ ks = [] ∧ xs = []) ∨ (k = 2 ∧ (t = [116, 114, 117, 101] ∨ t = [102, 97, 108, 115, 101]) ∧ ks = [] ∧ xs = []) ∨ (k = 3 ∧ Ki t = true ∧ ks = [] ∧ xs = []) ∨
    (k = 4 ∧ Lib.validD t = true ∧ ks = [] ∧ xs = []) ∨ (k = 5 ∧ t = [] ∧ ks = []) ∨ (k = 6 ∧ t = [] ∧ ks.Nodup ∧ (∀ x ∈ ks, Lib.validD x = true) ∧ ks.length = xs.length) := by
  unfold rnodeB at h
  rw [Bool.and_eq_true, decide_eq_true_eq] at h
  obtain ⟨h7, h⟩ := h
  have h7' : k ≠ 7 := h7
  simp only [nodeB] at h
  by_cases h5 : k = 5
  · rw [if_pos h5] at h
    simp at h
    exact .inr (.inr (.inr (.inr (.inl ⟨h5, h.2, h.1⟩))))
  rw [if_neg h5] at h
  by_cases h6 : k = 6
  · rw [if_pos h6] at h
    simp [Bl] at h
    exact .inr (.inr (.inr (.inr (.inr ⟨h6, h.2, h.1.1.1, h.1.1.2, by omega⟩))))
  rw [if_neg h6] at h
  by_cases hh : ks ≠ [] ∨ xs ≠ []
  · rw [if_pos hh] at h; cases h
  rw [if_neg hh] at h
  have hk : ks = [] := Classical.byContradiction fun hc => hh (.inl hc)
  have hx : xs = [] := Classical.byContradiction fun hc => hh (.inr hc)
  by_cases h1 : k = 1
  · rw [if_pos h1] at h
    simp at h
    exact .inl ⟨h1, h, hk, hx⟩
  rw [if_neg h1] at h
  by_cases h2 : k = 2
  · rw [if_pos h2] at h
    simp at h
    exact .inr (.inl ⟨h2, h, hk, hx⟩)
  rw [if_neg h2] at h
  by_cases h3 : k = 3
  · rw [if_pos h3] at h
    exact .inr (.inr (.inl ⟨h3, h, hk, hx⟩))
  rw [if_neg h3] at h
  by_cases h4 : k = 4
  · rw [if_pos h4] at h
    exact .inr (.inr (.inr (.inl ⟨h4, h, hk, hx⟩)))
  rw [if_neg h4, if_neg h7'] at h
  cases h
end Go.Scarf
