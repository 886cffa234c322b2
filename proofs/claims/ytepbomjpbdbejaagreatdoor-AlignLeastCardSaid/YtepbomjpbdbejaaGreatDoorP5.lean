/- A part of the proof. -/
import Derived.Test.YtepbomjpbdbejaaGreatDoorC3
import Derived.Lib.ItoaMem
import Derived.Lib.MapLaws
set_option linter.all false
set_option maxHeartbeats 8000000
set_option maxRecDepth 10000
namespace Go.Scarf
def Bal (a b : Str) : Prop := ∀ r, Dn false (a ++ r) = b ++ Dn false r
def Inq (a : Str) : Prop := ∀ r, Dn true (a ++ r) = a ++ Dn true r
theorem T4 {q : Bool} {c : UInt8} {r : Str} (h : ¬ (q = true ∧ c = 92)) : Dn q (c :: r) = Y8 q c (Dn (nq q c) r) := by
  cases r with
  | nil => rw [Dn, Dn]
  | cons d r => rw [Dn, if_neg h]
theorem Bal.nil : Bal [] [] := fun _ => rfl
theorem Bal.app {a b a' b' : Str} (h : Bal a a') (k : Bal b b') : Bal (a ++ b) (a' ++ b') := fun r => by rw [List.append_assoc, h, k, List.append_assoc]
theorem Inq.nil : Inq [] := fun _ => rfl
theorem Inq.app {a b : Str} (h : Inq a) (k : Inq b) : Inq (a ++ b) := fun r => by rw [List.append_assoc, h, k, List.append_assoc]
theorem Bal.byte {c : UInt8} (h1 : c ≠ 34) (h2 : c ≠ 32) (h3 : c ≠ 10) : Bal [c] [c] := fun r => by
  show Dn false (c :: r) = c :: Dn false r
  rw [T4 Ga, Y8, nq, if_neg h1, if_pos (.inr ⟨h2, h3⟩)]
theorem Bal.bytes : ∀ {a : Str}, (∀ c ∈ a, c ≠ 34 ∧ c ≠ 32 ∧ c ≠ 10) → Bal a a
  | [], _ => Bal.nil
  | c :: a, h => by
    have h1 := h c Ga
    exact (Bal.byte h1.1 h1.2.1 h1.2.2).app (Bal.bytes fun d hd => h d (by simp [hd]))
theorem Inq.byte {c : UInt8} (h1 : c ≠ 34) (h2 : c ≠ 92) : Inq [c] := fun r => by
  show Dn true (c :: r) = c :: Dn true r
  rw [T4 (fun h => h2 h.2), Y8, nq, if_neg h1, if_pos (.inl rfl)]
theorem Inq.bytes : ∀ {a : Str}, (∀ c ∈ a, c ≠ 34 ∧ c ≠ 92) → Inq a
  | [], _ => Inq.nil
  | c :: a, h => by
    have h1 := h c Ga
    exact (Inq.byte h1.1 h1.2).app (Inq.bytes fun d hd => h d (by simp [hd]))
theorem N9 {r : Int} (h : 128 ≤ r) : ∀ x ∈ Lib.encodeRuneZ r, 128 ≤ x := by
  intro x hx
  by_cases h1 : r ≤ 2047
  · rw [Lib.encodeRuneZ_two h h1] at hx; simp at hx; omega
  by_cases h2 : (2048 ≤ r ∧ r < 55296) ∨ (57343 < r ∧ r ≤ 65535)
  · rw [Lib.encodeRuneZ_three h2] at hx; simp at hx; omega
  by_cases h3 : 65536 ≤ r ∧ r ≤ 1114111
  · rw [Lib.encodeRuneZ_four h3.1 h3.2] at hx; simp at hx; omega
  · rw [Lib.encodeRuneZ_bad by_Om] at hx; simp at hx; omega
end Go.Scarf
namespace Go.Scarf
theorem QD : ∀ u : Nat, ∀ c ∈ Lib.decDigits u, Nh c = true := fun u => by
  induction u using Nat.strongRecOn with
  | ind u ih =>
    intro c hc
    rw [Lib.decDigits] at hc
    split at hc
    · rw [List.mem_singleton.1 hc, Nh]
      simp only [UInt8.toNat_ofNat', Bool.and_eq_true, decide_eq_true_eq]; omega
    · rcases List.mem_append.1 hc with hc | hc
      · exact ih (u / 10) by_Om c hc
      · rw [List.mem_singleton.1 hc, Nh]
        simp only [UInt8.toNat_ofNat', Bool.and_eq_true, decide_eq_true_eq]; omega
def MA (c : UInt8) : Prop := Nh c = true ∨ c = 45 ∨ c = 101
theorem BH (x : Num) : ∀ c ∈ Mn x, MA c := by
  intro c hc
  unfold Mn at hc
  split at hc
  · cases hc
  split at hc
  · rw [List.mem_singleton.1 hc]; exact .inl Ra
  rename_i h1 h2
  have hd : ∀ c ∈ x.digits, Nh c = true := by
    have h3 : Pe x = true := by simpa using h1
    unfold Pe at h3
    simp only [Bool.or_eq_true, Bool.and_eq_true, decide_eq_true_eq] at h3
    rcases h3 with h3 | h3
    · subst h3; exact absurd rfl h2
    · have h4 : Np x.digits = true := by simp_all
      unfold Np at h4
      rw [Bool.and_eq_true, List.all_eq_true] at h4
      exact h4.1
  have hi : ∀ c ∈ Lib.itoa x.exp, MA c := by
    intro c hc
    unfold Lib.itoa at hc
    split at hc
    · rcases List.mem_cons.1 hc with rfl | hc
      · exact .inr (.inl rfl)
      · exact .inl (QD _ c hc)
    · exact .inl (QD _ c hc)
  rcases List.mem_append.1 hc with hc | hc
  · split at hc
    · rcases List.mem_cons.1 hc with rfl | hc
      · exact .inr (.inl rfl)
      · exact .inl (hd c hc)
    · exact .inl (hd c hc)
  · split at hc
    · rcases List.mem_cons.1 hc with rfl | hc
      · exact .inr (.inr rfl)
      · exact hi c hc
    · cases hc
theorem Rq {t : Str} (h : Tj t = true) : ∀ c ∈ t, MA c := by
  unfold Tj at h
  rw [Bool.and_eq_true, decide_eq_true_eq, decide_eq_true_eq] at h
  rw [← h.2]; exact BH _
end Go.Scarf
namespace Go.Scarf
def nl (s : Str) : Nat := s.count 10
end Go.Scarf
namespace Go.Scarf
def Kx (b : UInt8) : Str := if b.toNat < 128 then Rp b.toNat else [b]
def Kn : Str → Str
  | [] => []
  | b :: s => Kx b ++ Kn s
theorem V8 : ∀ a b : Str, Kn (a ++ b) = Kn a ++ Kn b
  | [], b => rfl
  | x :: a, b => by rw [List.cons_append, Kn, Kn, V8 a b, List.append_assoc]
theorem EH (r : Int) : Lib.encodeRune r = Gh r := rfl
theorem C4 : ∀ {s : Str}, (∀ c ∈ s, 128 ≤ c.toNat) → Kn s = s
  | [], _ => rfl
  | c :: s, h => by
    have h1 := h c Ga
    rw [Kn, Kx, if_neg by_Om, C4 fun d hd => h d (by simp [hd])]
    rfl
theorem RI {r : Nat} (h : 128 ≤ r) : Rp r = Gh r := by
  have h0 : ¬ Se (r : Int) ≠ 0 := by
    unfold Se
    repeat' split
    all_goals first | omega | simp
  rw [Rp, if_neg h0, if_pos by_Om]
theorem RB {r : Nat} (h : 128 ≤ r) : ∀ c ∈ Gh r, 128 ≤ c.toNat := by
  intro c hc
  obtain ⟨x, hx, rfl⟩ := List.mem_map.1 hc
  have hb := Lib.encodeRuneZ_byte _ x hx
  have := N9 (by omega : (128 : Int) ≤ r) x hx
  simp only [UInt8.toNat_ofNat']
  omega
theorem UL (r : Nat) : Rp r = Kn (Gh r) := by
  by_cases h : r < 128
  · have e : Gh (r : Int) = [UInt8.ofNat r] := by
      rw [Gh, Lib.encodeRuneZ_one by_Om by_Om]
      simp
    have e2 : (UInt8.ofNat r).toNat = r := by simp only [UInt8.toNat_ofNat']; omega
    rw [e, Kn, Kn, Kx, e2, if_pos h, List.append_nil]
  · rw [RI by_Om, C4 (RB by_Om)]
theorem N7 (s : Str) (p : Nat) : Lib.validD (s.drop p) = true → Oq s p = Kn (s.drop p) := by
  induction h : s.length - p using Nat.strongRecOn generalizing p with
  | ind n ih =>
    intro hv
    by_cases hp : p < s.length
    · have hne : s.drop p ≠ [] := by intro e; have := congrArg List.length e; simp at this; omega
      rw [Lib.validD_step _ hne] at hv
      split at hv
      · cases hv
      · rename_i hok
        have he := Lib.encode_decode (s.drop p) hne hok
        rw [Ul] at he hv
        have h2 := Cf s p
        rw [List.drop_drop] at hv
        rw [Bn hp, ih (s.length - (p + (Utf8.decode (bs s) p).2)) by_Om _ rfl hv, UL, ← EH, he, ← List.drop_drop, ← V8, List.take_append_drop]
    · rw [Cw hp, List.drop_eq_nil_of_le by_Om]; rfl
theorem Xp {s : Str} (h : Lib.validD s = true) : Cs s = [34] ++ (Kn s ++ [34]) := by
  rw [Cs, N7 s 0 (by simpa using h), List.drop_zero, List.append_assoc]
def K5 : Str → Bool
  | [c] => decide (c ≠ 92) && decide (c ≠ 34)
  | [a, c] => decide (a = 92) && decide (c ≠ 117)
  | [a, c, _, _, _, _] => decide (a = 92) && decide (c = 117)
  | _ => false
def SU : Str → UInt8
  | [c] => c
  | [_, c] => if c = 98 then 8 else if c = 102 then 12 else if c = 110 then 10 else if c = 114 then 13 else if c = 116 then 9 else c
  | [_, _, _, _, h, l] => (h - 48) * 16 + (if l.toNat < 58 then l - 48 else l - 87)
  | _ => 0
theorem G7 : ∀ n < 256, K5 (Kx (UInt8.ofNat n)) = true := by decide +kernel
theorem PI : ∀ n < 256, SU (Kx (UInt8.ofNat n)) = UInt8.ofNat n := by decide +kernel
theorem Gs (b : UInt8) : K5 (Kx b) = true := by have := G7 b.toNat (UInt8.toNat_lt b); simpa using this
theorem KE (b : UInt8) : SU (Kx b) = b := by have := PI b.toNat (UInt8.toNat_lt b); simpa using this
theorem Zp {p : Str} (h : K5 p = true) : (∃ c, p = [c] ∧ c ≠ 92 ∧ c ≠ 34) ∨ (∃ c, p = [92, c] ∧ c ≠ 117) ∨ (∃ a b c d, p = [92, 117, a, b, c, d]) := by
  unfold K5 at h
  split at h <;> simp_all
theorem WI {b b' : UInt8} {X X' : Str} (h : Kx b ++ X = Kx b' ++ X') : b = b' ∧ X = X' := by
  have key : Kx b = Kx b' ∧ X = X' := by
    rcases Zp (Gs b) with ⟨c, e, h1, h2⟩ | ⟨c, e, h1⟩ | ⟨x1, x2, x3, x4, e⟩ <;>
    rcases Zp (Gs b') with ⟨c', e', h1', h2'⟩ | ⟨c', e', h1'⟩ | ⟨y1, y2, y3, y4, e'⟩ <;>
    rw [e, e'] at h <;> simp at h <;> (first | (rw [e, e']; simp_all; done) | (exfalso; simp_all; done))
  exact ⟨by rw [← KE b, ← KE b', key.1], key.2⟩
theorem Uz (b : UInt8) : ∃ c s, Kx b = c :: s ∧ c ≠ 34 := by
  rcases Zp (Gs b) with ⟨c, e, h1, h2⟩ | ⟨c, e, h1⟩ | ⟨x1, x2, x3, x4, e⟩
  · exact ⟨c, [], e, h2⟩
  · exact ⟨92, [c], e, by decide⟩
  · exact ⟨92, _, e, by decide⟩
theorem J4 : ∀ (s s' : Str) (X X' : Str), Kn s ++ 34 :: X = Kn s' ++ 34 :: X' → s = s' ∧ X = X'
  | [], [], X, X', h => ⟨rfl, by simpa [Kn] using h⟩
  | [], b :: s, X, X', h => by
    obtain ⟨c, r, e, hc⟩ := Uz b
    rw [Kn, Kn, e] at h
    simp at h
    exact absurd h.1.symm hc
  | b :: s, [], X, X', h => by
    obtain ⟨c, r, e, hc⟩ := Uz b
    rw [Kn, Kn, e] at h
    simp at h
    exact absurd h.1 hc
  | b :: s, b' :: s', X, X', h => by
    rw [Kn, Kn, List.append_assoc, List.append_assoc] at h
    obtain ⟨rfl, h2⟩ := WI h
    obtain ⟨rfl, h3⟩ := J4 s s' X X' h2
    exact ⟨rfl, h3⟩
theorem PC {s s' X X' : Str} (h1 : Lib.validD s = true) (h2 : Lib.validD s' = true) (h : qS s ++ X = qS s' ++ X') : s = s' ∧ X = X' := by
  rw [qS, qS, if_pos h1, if_pos h2, Xp h1, Xp h2] at h
  simp at h
  exact J4 s s' X X' h
theorem My {s : Str} (h : Lib.validD s = true) : ∃ r, qS s = 34 :: r := by
  rw [qS, if_pos h, Xp h]
  exact ⟨_, rfl⟩
def Ends (r : Str) : Prop := ∀ c s, r = c :: s → c = 44 ∨ c = 93 ∨ c = 125
theorem Ends.nil : Ends [] := fun c s h => by cases h
theorem Ew {c : UInt8} (h : MA c) : ¬ (c = 44 ∨ c = 93 ∨ c = 125) := by
  rintro (rfl | rfl | rfl) <;> (rcases h with h | h | h <;> revert h <;> decide)
theorem T9 : ∀ (t t' r r' : Str), (∀ c ∈ t, MA c) → (∀ c ∈ t', MA c) → Ends r → Ends r' → t ++ r = t' ++ r' → t = t' ∧ r = r'
  | [], [], r, r', _, _, _, _, h => ⟨rfl, by simpa using h⟩
  | [], c :: t, r, r', _, h2, h3, _, h => absurd (h3 c (t ++ r') (by simpa using h)) (Ew (h2 c Ga))
  | c :: t, [], r, r', h1, _, _, h4, h => absurd (h4 c (t ++ r) (by simpa using h.symm)) (Ew (h1 c Ga))
  | c :: t, c' :: t', r, r', h1, h2, h3, h4, h => by
    simp only [List.cons_append, List.cons.injEq] at h
    obtain ⟨rfl, h5⟩ := T9 t t' r r' (fun d hd => h1 d (by simp [hd])) (fun d hd => h2 d (by simp [hd])) h3 h4 h.2
    exact ⟨by rw [h.1], h5⟩
def D5 (c : UInt8) : Int := if c = 110 then 1 else if c = 116 ∨ c = 102 then 2 else if c = 34 then 4 else if c = 91 then 5 else if c = 123 then 6 else 3
theorem HI {c : UInt8} (h : MA c) : D5 c = 3 := by
  have : ∀ n < 256, (Nh (UInt8.ofNat n) = true ∨ UInt8.ofNat n = 45 ∨ UInt8.ofNat n = 101) → D5 (UInt8.ofNat n) = 3 := by decide +kernel
  have h2 := this c.toNat (UInt8.toNat_lt c)
  simp only [UInt8.ofNat_toNat] at h2
  exact h2 h
theorem Pn {k : Int} {t : Str} {ks : List Str} {xs : List Tree} (h : rnodeB (.node k t ks xs) = true) :
    (k = 1 ∧ t = [] ∧ ks = [] ∧ xs = []) ∨ (k = 2 ∧ (t = [116, 114, 117, 101] ∨ t = [102, 97, 108, 115, 101]) ∧ ks = [] ∧ xs = []) ∨ (k = 3 ∧ Tj t = true ∧ ks = [] ∧ xs = []) ∨
    (k = 4 ∧ Lib.validD t = true ∧ ks = [] ∧ xs = []) ∨ (k = 5 ∧ t = [] ∧ ks = []) ∨ (k = 6 ∧ t = [] ∧ ks.Nodup ∧ (∀ x ∈ ks, Lib.validD x = true) ∧ ks.length = xs.length) := by
  unfold rnodeB at h
  rw [Bool.and_eq_true, decide_eq_true_eq] at h
  obtain ⟨h7, h⟩ := h
  have h7' : k ≠ 7 := h7
  simp only [nodeB] at h
  by_cases h5 : k = 5
  · rw [if_pos h5] at h
    simp at h
    exact .inr (.inr (.inr (.inr (.inl ⟨h5, h.2, h.1⟩))))
  rw [if_neg h5] at h
  by_cases h6 : k = 6
  · rw [if_pos h6] at h
    simp [Eo] at h
    exact .inr (.inr (.inr (.inr (.inr ⟨h6, h.2, h.1.1.1, h.1.1.2, by omega⟩))))
  rw [if_neg h6] at h
  by_cases hh : ks ≠ [] ∨ xs ≠ []
  · rw [if_pos hh] at h; cases h
  rw [if_neg hh] at h
  have hk : ks = [] := Classical.byContradiction fun hc => hh (.inl hc)
  have hx : xs = [] := Classical.byContradiction fun hc => hh (.inr hc)
  by_cases h1 : k = 1
  · rw [if_pos h1] at h
    simp at h
    exact .inl ⟨h1, h, hk, hx⟩
  rw [if_neg h1] at h
  by_cases h2 : k = 2
  · rw [if_pos h2] at h
    simp at h
    exact .inr (.inl ⟨h2, h, hk, hx⟩)
  rw [if_neg h2] at h
  by_cases h3 : k = 3
  · rw [if_pos h3] at h
    exact .inr (.inr (.inl ⟨h3, h, hk, hx⟩))
  rw [if_neg h3] at h
  by_cases h4 : k = 4
  · rw [if_pos h4] at h
    exact .inr (.inr (.inr (.inl ⟨h4, h, hk, hx⟩)))
  rw [if_neg h4, if_neg h7'] at h
  cases h
theorem Mq {x : Tree} (h : Vc rnodeB x = true) (d : Nat) : ∃ c s, Xe false 0 x d = c :: s ∧ D5 c = x.kind ∧ c ≠ 44 ∧ c ≠ 93 ∧ c ≠ 125 := by
  obtain ⟨k, t, ks, xs⟩ := x
  obtain ⟨hn, -⟩ := Td h
  rcases Pn hn with ⟨rfl, rfl, rfl, rfl⟩ | ⟨rfl, ht, rfl, rfl⟩ | ⟨rfl, ht, rfl, rfl⟩ | ⟨rfl, ht, rfl, rfl⟩ | ⟨rfl, rfl, rfl⟩ | ⟨rfl, rfl, -, -, -⟩
  · exact ⟨110, [117, 108, 108], by rw [Xe]; rfl, by decide, by decide⟩
  · rcases ht with rfl | rfl
    · exact ⟨116, [114, 117, 101], by rw [Xe]; rfl, by decide, by decide⟩
    · exact ⟨102, [97, 108, 115, 101], by rw [Xe]; rfl, by decide, by decide⟩
  · have hc := Rq ht
    obtain ⟨c, s, rfl⟩ := List.exists_cons_of_ne_nil (U0 ht)
    have h1 := hc c Ga
    have h2 := Ew h1
    exact ⟨c, s, by rw [Xe]; rfl, HI h1, fun e => h2 (.inl e), fun e => h2 (.inr (.inl e)), fun e => h2 (.inr (.inr e))⟩
  · obtain ⟨r, e⟩ := My ht
    exact ⟨34, r, by rw [Xe]; exact e, rfl, by decide⟩
  · exact ⟨91, _, by rw [Xe]; rfl, rfl, by decide⟩
  · exact ⟨123, _, by rw [Xe]; rfl, rfl, by decide⟩
def M5 (x : Tree) : Prop := Vc rnodeB x = true → ∀ y, Vc rnodeB y = true → ∀ d e r r', Ends r → Ends r' → Xe false 0 x d ++ r = Xe false 0 y e ++ r' → x = y ∧ r = r'
theorem Xq (d : Nat) (b : Bool) (ps : List Str) (c : UInt8) (hc : c = 93 ∨ c = 125) (r : Str) (hb : b = false) : Ends (Ue false 0 d b ps ++ c :: r) := by
  subst hb
  intro x s h
  cases ps with
  | nil => rw [Ue] at h; simp at h; rw [← h.1]; exact .inr hc
  | cons p ps => rw [Ue] at h; simp at h; exact .inl h.1.symm
theorem T3 : ∀ (xs ys : List Tree), (∀ x ∈ xs, M5 x) → (∀ x ∈ xs, Vc rnodeB x = true) → (∀ y ∈ ys, Vc rnodeB y = true) → ∀ (b : Bool) (d e d' e' : Nat) (r r' : Str),
    Ue false 0 d b (Fj false 0 xs d') ++ 93 :: r = Ue false 0 e b (Fj false 0 ys e') ++ 93 :: r' → xs = ys ∧ r = r'
  | [], [], _, _, _, b, d, e, d', e', r, r', h => by
    rw [Fj, Fj, Ue, Ue] at h
    exact ⟨rfl, by simpa using h⟩
  | [], y :: ys, _, _, hy, b, d, e, d', e', r, r', h => by
    exfalso
    obtain ⟨c, s, e1, -, -, h93, -⟩ := Mq (hy y Ga) e'
    rw [Fj, Fj, Ue, Ue, e1] at h
    cases b
    · simp at h
    · simp [Ji] at h; exact h93 h.1.symm
  | x :: xs, [], _, hx, _, b, d, e, d', e', r, r', h => by
    exfalso
    obtain ⟨c, s, e1, -, -, h93, -⟩ := Mq (hx x Ga) d'
    rw [Fj, Fj, Ue, Ue, e1] at h
    cases b
    · simp at h
    · simp [Ji] at h; exact h93 h.1
  | x :: xs, y :: ys, hr, hx, hy, b, d, e, d', e', r, r', h => by
    rw [Fj, Fj, Ue, Ue] at h
    simp only [Ji, List.append_assoc] at h
    have h2 := List.append_cancel_left h
    simp only [if_neg (show ¬ false = true by decide), List.nil_append] at h2
    obtain ⟨rfl, h3⟩ := hr x Ga (hx x Ga) y (hy y Ga) d' e' _ _ (Xq d false _ 93 (.inl rfl) r rfl) (Xq e false _ 93 (.inl rfl) r' rfl) h2
    obtain ⟨rfl, h4⟩ := T3 xs ys (fun z hz => hr z (by simp [hz])) (fun z hz => hx z (by simp [hz])) (fun z hz => hy z (by simp [hz])) false d e d' e' r r' h3
    exact ⟨rfl, h4⟩
theorem L2 : ∀ (xs ys : List Tree) (ks ls : List Str), ks.length = xs.length → ls.length = ys.length → (∀ x ∈ xs, M5 x) → (∀ x ∈ xs, Vc rnodeB x = true) → (∀ y ∈ ys, Vc rnodeB y = true) →
    (∀ k ∈ ks, Lib.validD k = true) → (∀ k ∈ ls, Lib.validD k = true) → ∀ (b : Bool) (d e d' e' : Nat) (r r' : Str),
    Ue false 0 d b (Rh false 0 xs ks d') ++ 125 :: r = Ue false 0 e b (Rh false 0 ys ls e') ++ 125 :: r' → xs = ys ∧ ks = ls ∧ r = r'
  | [], [], ks, ls, h1, h2, _, _, _, _, _, b, d, e, d', e', r, r', h => by
    rw [Rh, Rh, Ue, Ue] at h
    rw [List.eq_nil_of_length_eq_zero h1, List.eq_nil_of_length_eq_zero h2]
    exact ⟨rfl, rfl, by simpa using h⟩
  | [], y :: ys, ks, l :: ls, _, _, _, _, _, _, hl, b, d, e, d', e', r, r', h => by
    exfalso
    obtain ⟨s, e1⟩ := My (hl l Ga)
    rw [Rh, Rh, Ue, Ue, List.headD_cons, e1] at h
    cases b
    · simp at h
    · simp [Ji] at h
  | x :: xs, [], k :: ks, ls, _, _, _, _, _, hk, _, b, d, e, d', e', r, r', h => by
    exfalso
    obtain ⟨s, e1⟩ := My (hk k Ga)
    rw [Rh, Rh, Ue, Ue, List.headD_cons, e1] at h
    cases b
    · simp at h
    · simp [Ji] at h
  | x :: xs, y :: ys, k :: ks, l :: ls, h1, h2, hr, hx, hy, hk, hl, b, d, e, d', e', r, r', h => by
    rw [Rh, Rh, Ue, Ue, List.headD_cons, List.headD_cons] at h
    simp only [Ji, List.append_assoc] at h
    have h3 := List.append_cancel_left h
    simp only [if_neg (show ¬ false = true by decide), List.nil_append] at h3
    obtain ⟨rfl, h4⟩ := PC (hk k Ga) (hl l Ga) h3
    have h5 := List.append_cancel_left h4
    obtain ⟨rfl, h6⟩ := hr x Ga (hx x Ga) y (hy y Ga) d' e' _ _ (Xq d false _ 125 (.inr rfl) r rfl) (Xq e false _ 125 (.inr rfl) r' rfl) h5
    simp only [List.tail_cons] at h6
    obtain ⟨rfl, rfl, h7⟩ := L2 xs ys ks ls (by simpa using h1) (by simpa using h2) (fun z hz => hr z (by simp [hz])) (fun z hz => hx z (by simp [hz])) (fun z hz => hy z (by simp [hz])) (fun z hz => hk z (by simp [hz])) (fun z hz => hl z (by simp [hz])) false d e d' e' r r' h6
    exact ⟨rfl, rfl, h7⟩
  | [], _ :: _, _, [], _, h2, _, _, _, _, _, _, _, _, _, _, _, _, _ => by simp at h2
  | _ :: _, _, [], _, h1, _, _, _, _, _, _, _, _, _, _, _, _, _, _ => by simp at h1
  | _ :: _, _ :: _, _ :: _, [], _, h2, _, _, _, _, _, _, _, _, _, _, _, _, _ => by simp at h2
theorem SH (x : Tree) : M5 x := Tree.ind (Q := M5) (fun k t ks xs ih hx y hy d e r r' hr hr' h => by
  obtain ⟨k', t', ks', ys⟩ := y
  obtain ⟨hn, hxs⟩ := Td hx
  obtain ⟨hn', hys⟩ := Td hy
  obtain ⟨c, s, e1, hc, -⟩ := Mq hx d
  obtain ⟨c', s', e1', hc', -⟩ := Mq hy e
  have hk : k = k' := by
    have h2 := h
    rw [e1, e1'] at h2
    simp at h2
    rw [h2.1] at hc
    exact hc.symm.trans hc'
  subst hk
  clear e1 e1' hc hc'
  rcases Pn hn with ⟨rfl, rfl, rfl, rfl⟩ | ⟨rfl, ht, rfl, rfl⟩ | ⟨rfl, ht, rfl, rfl⟩ | ⟨rfl, ht, rfl, rfl⟩ | ⟨rfl, rfl, rfl⟩ | ⟨rfl, rfl, -, hv, hl⟩ <;>
  rcases Pn hn' with ⟨h0, rfl, rfl, rfl⟩ | ⟨h0, ht', rfl, rfl⟩ | ⟨h0, ht', rfl, rfl⟩ | ⟨h0, ht', rfl, rfl⟩ | ⟨h0, rfl, rfl⟩ | ⟨h0, rfl, -, hv', hl'⟩ <;>
  first | (exfalso; revert h0; decide) | skip
  · rw [Xe, Xe] at h
    exact ⟨rfl, List.append_cancel_left h⟩
  · rw [Xe, Xe] at h
    rcases ht with rfl | rfl <;> rcases ht' with rfl | rfl <;> simp at h <;> exact ⟨rfl, h⟩
  · rw [Xe, Xe] at h
    obtain ⟨rfl, h2⟩ := T9 t t' r r' (Rq ht) (Rq ht') hr hr' h
    exact ⟨rfl, h2⟩
  · rw [Xe, Xe] at h
    obtain ⟨rfl, h2⟩ := PC ht ht' h
    exact ⟨rfl, h2⟩
  · rw [Xe, Xe] at h
    simp [Cl, Ji] at h
    obtain ⟨rfl, h2⟩ := T3 xs ys ih hxs hys true d e _ _ r r' h
    exact ⟨rfl, h2⟩
  · rw [Xe, Xe] at h
    simp [Cl, Ji] at h
    obtain ⟨rfl, rfl, h2⟩ := L2 xs ys ks ks' hl hl' ih hxs hys hv hv' true d e _ _ r r' h
    exact ⟨rfl, h2⟩) x
theorem Jk {x : Tree} (h : Zb x = true) : Vc rnodeB x = true := by
  unfold Zb at h
  rw [Bool.and_eq_true] at h
  exact h.2
theorem O4 {x y : Tree} (hx : Zb x = true) (hy : Zb y = true) : Fm x = Fm y ↔ x = y := by
  refine ⟨fun h => ?_, fun h => by rw [h]⟩
  rw [Fm, Fm, if_pos hx, if_pos hy] at h
  exact (SH x (Jk hx) y (Jk hy) 0 0 [] [] Ends.nil Ends.nil (by simpa using h)).1
end Go.Scarf
