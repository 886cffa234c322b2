/- A part of the proof. -/
import Derived.Test.YtonoededmmohhaaGreatDoorW4
import Derived.Test.YtonoededmmohhaaGreatDoorW20
import Derived.Lib.DecodeN
import Derived.Test.YtonoededmmohhaaGreatDoorW2
import Derived.Lib.ItoaMem
set_option linter.all false
namespace Go.Scarf
open Go.RowKit Go.Proofs
def wideZ (c : Int) : Int := if c < 128 then 1 else if 194 ≤ c ∧ c ≤ 223 then 2 else if 224 ≤ c ∧ c ≤ 239 then 3 else if 240 ≤ c ∧ c ≤ 244 then 4 else 0
theorem wideZ_rng (c : Int) : wideZ c = 0 ∨ wideZ c = 1 ∨ wideZ c = 2 ∨ wideZ c = 3 ∨ wideZ c = 4 := by
  unfold wideZ
  repeat' split
  all_goals simp
def bZ (s : Str) (p : Nat) : Int := (((bs s).get! p).toNat : Int)
theorem bZ_at {s : Str} {p : Nat} (h : p < s.length) : ((s[p].toNat : Nat) : Int) = bZ s p := by
  have h' : p < (bs s).data.toList.length := h
  unfold bZ
  have : (bs s).get! p = s[p] := by
    show (bs s).data[p]! = s[p]
    rw [getElem!_pos (bs s).data p (by simpa using h')]
    rfl
  rw [this]
theorem bZ_rng (s : Str) (p : Nat) : 0 ≤ bZ s p ∧ bZ s p < 256 := by
  unfold bZ
  have := UInt8.toNat_lt ((bs s).get! p)
  omega
theorem dec_form (s : Str) (p : Nat) : Utf8.decode (bs s) p = Lib.decodeN (s.length - p) (bZ s p).toNat (bZ s (p + 1)).toNat (bZ s (p + 2)).toNat (bZ s (p + 3)).toNat := by
  rw [Lib.decode_at]
  rfl
theorem next_v {s : Str} {p i : Nat} {v v3 : Int} (h1 : 1 ≤ i) (h4 : i < 4)
    (hv : (i = 1 → v = v3) ∧ (i = 2 → v = 64 * v3 + bZ s (p + 1) - 128) ∧ (i = 3 → v = 64 * (64 * v3 + bZ s (p + 1) - 128) + bZ s (p + 2) - 128) ∧ (i = 4 → v = 64 * (64 * (64 * v3 + bZ s (p + 1) - 128) + bZ s (p + 2) - 128) + bZ s (p + 3) - 128)) :
    (i + 1 = 1 → 64 * v + bZ s (p + i) - 128 = v3) ∧ (i + 1 = 2 → 64 * v + bZ s (p + i) - 128 = 64 * v3 + bZ s (p + 1) - 128) ∧ (i + 1 = 3 → 64 * v + bZ s (p + i) - 128 = 64 * (64 * v3 + bZ s (p + 1) - 128) + bZ s (p + 2) - 128) ∧ (i + 1 = 4 → 64 * v + bZ s (p + i) - 128 = 64 * (64 * (64 * v3 + bZ s (p + 1) - 128) + bZ s (p + 2) - 128) + bZ s (p + 3) - 128) := by
  obtain rfl | rfl | rfl : i = 1 ∨ i = 2 ∨ i = 3 := by omega
  · rw [hv.1 rfl]; exact ⟨fun h => absurd h (by omega), fun _ => rfl, fun h => absurd h (by omega), fun h => absurd h (by omega)⟩
  · rw [hv.2.1 rfl]; exact ⟨fun h => absurd h (by omega), fun h => absurd h (by omega), fun _ => rfl, fun h => absurd h (by omega)⟩
  · rw [hv.2.2.1 rfl]; exact ⟨fun h => absurd h (by omega), fun h => absurd h (by omega), fun h => absurd h (by omega), fun _ => rfl⟩
theorem next_c_ {s : Str} {p i : Nat} (h1 : 1 ≤ i) (h4 : i < 4) (hc : 128 ≤ bZ s (p + i) ∧ bZ s (p + i) ≤ 191)
    (hcb : (2 ≤ i → 128 ≤ bZ s (p + 1) ∧ bZ s (p + 1) ≤ 191) ∧ (3 ≤ i → 128 ≤ bZ s (p + 2) ∧ bZ s (p + 2) ≤ 191) ∧ (4 ≤ i → 128 ≤ bZ s (p + 3) ∧ bZ s (p + 3) ≤ 191)) :
    (2 ≤ i + 1 → 128 ≤ bZ s (p + 1) ∧ bZ s (p + 1) ≤ 191) ∧ (3 ≤ i + 1 → 128 ≤ bZ s (p + 2) ∧ bZ s (p + 2) ≤ 191) ∧ (4 ≤ i + 1 → 128 ≤ bZ s (p + 3) ∧ bZ s (p + 3) ≤ 191) := by
  obtain rfl | rfl | rfl : i = 1 ∨ i = 2 ∨ i = 3 := by omega
  · exact ⟨fun _ => hc, fun h => absurd h (by omega), fun h => absurd h (by omega)⟩
  · exact ⟨fun _ => hcb.1 (by omega), fun _ => hc, fun h => absurd h (by omega)⟩
  · exact ⟨fun _ => hcb.1 (by omega), fun _ => hcb.2.1 (by omega), fun _ => hc⟩
theorem next_b {s : Str} {p i : Nat} {v v3 : Int} (h1 : 1 ≤ i) (h4 : i ≤ 4) (h0 : 0 ≤ v3 ∧ v3 ≤ 255)
    (hv : (i = 1 → v = v3) ∧ (i = 2 → v = 64 * v3 + bZ s (p + 1) - 128) ∧ (i = 3 → v = 64 * (64 * v3 + bZ s (p + 1) - 128) + bZ s (p + 2) - 128) ∧ (i = 4 → v = 64 * (64 * (64 * v3 + bZ s (p + 1) - 128) + bZ s (p + 2) - 128) + bZ s (p + 3) - 128))
    (hcb : (2 ≤ i → 128 ≤ bZ s (p + 1) ∧ bZ s (p + 1) ≤ 191) ∧ (3 ≤ i → 128 ≤ bZ s (p + 2) ∧ bZ s (p + 2) ≤ 191) ∧ (4 ≤ i → 128 ≤ bZ s (p + 3) ∧ bZ s (p + 3) ≤ 191))
    (r1 : 0 ≤ bZ s (p + 1) ∧ bZ s (p + 1) < 256) (r2 : 0 ≤ bZ s (p + 2) ∧ bZ s (p + 2) < 256) (r3 : 0 ≤ bZ s (p + 3) ∧ bZ s (p + 3) < 256) : 0 ≤ v ∧ v < 100000000 := by
  obtain rfl | rfl | rfl | rfl : i = 1 ∨ i = 2 ∨ i = 3 ∨ i = 4 := by omega
  · have := hv.1 rfl; clear hv hcb; omega
  · have := hv.2.1 rfl; have := hcb.1 (by omega); clear hv hcb; omega
  · have := hv.2.2.1 rfl; have := hcb.1 (by omega); have := hcb.2.1 (by omega); clear hv hcb; omega
  · have := hv.2.2.2 rfl; have := hcb.1 (by omega); have := hcb.2.1 (by omega); have := hcb.2.2 (by omega); clear hv hcb; omega
theorem tuple_dec {a b : Int} {d : Nat × Nat} (h1 : a = (d.1 : Int)) (h2 : b = (d.2 : Int)) : Value.tuple #[.int .i32 a, .int .i64 b] = .tuple #[.int .i32 (d.1 : Int), .int .i64 (d.2 : Int)] := by rw [h1, h2]
theorem decN_0 {m b0 b1 b2 b3 : Nat} (h : (128 ≤ b0 ∧ b0 < 194) ∨ (245 ≤ b0 ∧ b0 < 256)) : Lib.decodeN m b0 b1 b2 b3 = (65533, 1) := by
  unfold Lib.decodeN
  rw [if_neg (by omega)]
  by_cases h1 : b0 / 32 = 6
  · have h2 : b0 % 32 < 2 := by omega
    have h3 : ¬ b0 / 16 = 14 := by omega
    have h4 : ¬ b0 / 8 = 30 := by omega
    have h5 : ¬ (b0 % 32 * 64 + b1 % 64 ≥ 128) := by omega
    by_cases hc : 1 < m ∧ b1 / 64 = 2
    · rw [if_pos ⟨h1, hc⟩, if_neg h5]
    · rw [if_neg (fun h => hc h.2), if_neg (fun h => h3 h.1), if_neg (fun h => h4 h.1)]
  · have h3 : ¬ b0 / 16 = 14 := by omega
    rw [if_neg (fun h => h1 h.1), if_neg (fun h => h3 h.1)]
    by_cases h4 : b0 / 8 = 30
    · have h6 : 5 ≤ b0 % 8 := by omega
      split
      · rw [if_neg (by omega)]
      · rfl
    · rw [if_neg (fun h => h4 h.1)]
theorem decN_1 {m b0 b1 b2 b3 : Nat} (h : b0 < 128) : Lib.decodeN m b0 b1 b2 b3 = (b0, 1) := by
  unfold Lib.decodeN
  rw [if_pos h]
theorem decN_2 {m b0 b1 b2 b3 : Nat} (h : 194 ≤ b0 ∧ b0 < 224) (h1 : b1 < 256) : Lib.decodeN m b0 b1 b2 b3 = if 1 < m ∧ (128 ≤ b1 ∧ b1 ≤ 191) then (64 * (b0 - 192) + (b1 - 128), 2) else (65533, 1) := by
  unfold Lib.decodeN
  have e2 : b0 / 32 = 6 := by omega
  have e3 : ¬ b0 / 16 = 14 := by omega
  have e4 : ¬ b0 / 8 = 30 := by omega
  rw [if_neg (by omega)]
  by_cases hc : 1 < m ∧ (128 ≤ b1 ∧ b1 ≤ 191)
  · have ec : b1 / 64 = 2 := by omega
    have ev : b0 % 32 * 64 + b1 % 64 = 64 * (b0 - 192) + (b1 - 128) := by omega
    have eg : 64 * (b0 - 192) + (b1 - 128) ≥ 128 := by omega
    rw [if_pos hc, if_pos ⟨e2, hc.1, ec⟩, ev, if_pos eg]
  · rw [if_neg hc, if_neg (fun h => hc ⟨h.2.1, by omega⟩), if_neg (fun h => e3 h.1), if_neg (fun h => e4 h.1)]
theorem decN_3 {m b0 b1 b2 b3 : Nat} (h : 224 ≤ b0 ∧ b0 < 240) (h1 : b1 < 256) (h2 : b2 < 256) : Lib.decodeN m b0 b1 b2 b3 = if 2 < m ∧ (128 ≤ b1 ∧ b1 ≤ 191) ∧ (128 ≤ b2 ∧ b2 ≤ 191) then
    (if 64 * (64 * (b0 - 224) + (b1 - 128)) + (b2 - 128) < 2048 ∨ (55296 ≤ 64 * (64 * (b0 - 224) + (b1 - 128)) + (b2 - 128) ∧ 64 * (64 * (b0 - 224) + (b1 - 128)) + (b2 - 128) < 57344) then (65533, 1) else (64 * (64 * (b0 - 224) + (b1 - 128)) + (b2 - 128), 3)) else (65533, 1) := by
  unfold Lib.decodeN
  have e2 : ¬ b0 / 32 = 6 := by omega
  have e3 : b0 / 16 = 14 := by omega
  have e4 : ¬ b0 / 8 = 30 := by omega
  rw [if_neg (by omega), if_neg (fun h => e2 h.1)]
  by_cases hc : 2 < m ∧ (128 ≤ b1 ∧ b1 ≤ 191) ∧ (128 ≤ b2 ∧ b2 ≤ 191)
  · have c1 : b1 / 64 = 2 := by omega
    have c2 : b2 / 64 = 2 := by omega
    have ev : b0 % 16 * 4096 + b1 % 64 * 64 + b2 % 64 = 64 * (64 * (b0 - 224) + (b1 - 128)) + (b2 - 128) := by omega
    rw [if_pos hc, if_pos ⟨e3, ⟨by omega, c1⟩, hc.1, c2⟩, ev]
    have hlt : 64 * (64 * (b0 - 224) + (b1 - 128)) + (b2 - 128) < 65536 := by omega
    generalize 64 * (64 * (b0 - 224) + (b1 - 128)) + (b2 - 128) = v at *
    by_cases hv : v < 2048 ∨ (55296 ≤ v ∧ v < 57344)
    · rw [if_pos hv, if_neg (by omega)]
    · rw [if_neg hv, if_pos (by omega)]
  · rw [if_neg hc, if_neg (fun h => hc ⟨h.2.2.1, by omega, by omega⟩), if_neg (fun h => e4 h.1)]
theorem decN_4 {m b0 b1 b2 b3 : Nat} (h : 240 ≤ b0 ∧ b0 < 245) (h1 : b1 < 256) (h2 : b2 < 256) (h3 : b3 < 256) : Lib.decodeN m b0 b1 b2 b3 = if 3 < m ∧ (128 ≤ b1 ∧ b1 ≤ 191) ∧ (128 ≤ b2 ∧ b2 ≤ 191) ∧ (128 ≤ b3 ∧ b3 ≤ 191) then
    (if 64 * (64 * (64 * (b0 - 240) + (b1 - 128)) + (b2 - 128)) + (b3 - 128) < 65536 ∨ 1114111 < 64 * (64 * (64 * (b0 - 240) + (b1 - 128)) + (b2 - 128)) + (b3 - 128) then (65533, 1) else (64 * (64 * (64 * (b0 - 240) + (b1 - 128)) + (b2 - 128)) + (b3 - 128), 4)) else (65533, 1) := by
  unfold Lib.decodeN
  have e2 : ¬ b0 / 32 = 6 := by omega
  have e3 : ¬ b0 / 16 = 14 := by omega
  have e4 : b0 / 8 = 30 := by omega
  rw [if_neg (by omega), if_neg (fun h => e2 h.1), if_neg (fun h => e3 h.1)]
  by_cases hc : 3 < m ∧ (128 ≤ b1 ∧ b1 ≤ 191) ∧ (128 ≤ b2 ∧ b2 ≤ 191) ∧ (128 ≤ b3 ∧ b3 ≤ 191)
  · have c1 : b1 / 64 = 2 := by omega
    have c2 : b2 / 64 = 2 := by omega
    have c3 : b3 / 64 = 2 := by omega
    have ev : b0 % 8 * 262144 + b1 % 64 * 4096 + b2 % 64 * 64 + b3 % 64 = 64 * (64 * (64 * (b0 - 240) + (b1 - 128)) + (b2 - 128)) + (b3 - 128) := by omega
    rw [if_pos hc, if_pos ⟨e4, ⟨by omega, c1⟩, ⟨by omega, c2⟩, hc.1, c3⟩, ev]
    generalize 64 * (64 * (64 * (b0 - 240) + (b1 - 128)) + (b2 - 128)) + (b3 - 128) = v at *
    by_cases hv : v < 65536 ∨ 1114111 < v
    · rw [if_pos hv, if_neg (by omega)]
    · rw [if_neg hv, if_pos (by omega)]
  · rw [if_neg hc, if_neg (fun h => hc ⟨h.2.2.2.1, by omega, by omega, by omega⟩)]
theorem wide_inv {b : Int} {n : Nat} (hb : 0 ≤ b ∧ b < 256) (h : wideZ b = (n : Int)) : (n = 0 ∧ ((128 ≤ b ∧ b < 194) ∨ (245 ≤ b ∧ b < 256))) ∨ (n = 1 ∧ b < 128) ∨ (n = 2 ∧ 194 ≤ b ∧ b < 224) ∨ (n = 3 ∧ 224 ≤ b ∧ b < 240) ∨ (n = 4 ∧ 240 ≤ b ∧ b < 245) := by
  unfold wideZ at h
  (repeat' split at h) <;> omega
def V0 (n : Nat) (b : Int) : Int := if n = 2 then b - 192 else if n = 3 then b - 224 else if n = 4 then b - 240 else b
theorem next_short {s : Str} {p n : Nat} (hp : p < s.length) (hw : wideZ (bZ s p) = (n : Int)) (h : n = 0 ∨ (s.length : Int) - p < n) : Utf8.decode (bs s) p = (65533, 1) := by
  have h0 := bZ_rng s p
  have h1 := bZ_rng s (p + 1)
  have h2 := bZ_rng s (p + 2)
  have h3 := bZ_rng s (p + 3)
  rw [dec_form]
  rcases wide_inv h0 hw with ⟨hn, hb⟩ | ⟨hn, hb⟩ | ⟨hn, hb⟩ | ⟨hn, hb⟩ | ⟨hn, hb⟩
  · exact decN_0 (by omega)
  · omega
  · rw [decN_2 (by omega) (by omega), if_neg (by omega)]
  · rw [decN_3 (by omega) (by omega) (by omega), if_neg (by omega)]
  · rw [decN_4 (by omega) (by omega) (by omega) (by omega), if_neg (by omega)]
theorem next_stop {s : Str} {p n i : Nat} (hw : wideZ (bZ s p) = (n : Int)) (h1i : 1 ≤ i) (hi : i < n) (hc : bZ s (p + i) < 128 ∨ 191 < bZ s (p + i)) : Utf8.decode (bs s) p = (65533, 1) := by
  have h0 := bZ_rng s p
  have h1 := bZ_rng s (p + 1)
  have h2 := bZ_rng s (p + 2)
  have h3 := bZ_rng s (p + 3)
  rw [dec_form]
  rcases wide_inv h0 hw with ⟨hn, hb⟩ | ⟨hn, hb⟩ | ⟨hn, hb⟩ | ⟨hn, hb⟩ | ⟨hn, hb⟩
  · omega
  · omega
  · obtain rfl : i = 1 := by omega
    rw [decN_2 (by omega) (by omega), if_neg (by omega)]
  · rw [decN_3 (by omega) (by omega) (by omega), if_neg]
    rintro ⟨-, a, b⟩
    obtain rfl | rfl : i = 1 ∨ i = 2 := by omega
    · omega
    · omega
  · rw [decN_4 (by omega) (by omega) (by omega) (by omega), if_neg]
    rintro ⟨-, a, b, c⟩
    obtain rfl | rfl | rfl : i = 1 ∨ i = 2 ∨ i = 3 := by omega
    · omega
    · omega
    · omega
theorem next_all {s : Str} {p n i : Nat} {v v3 : Int} (hw : wideZ (bZ s p) = (n : Int)) (hn0 : ¬ n = 0) (hm : (n : Int) ≤ (s.length : Int) - p) (hin : n ≤ i) (hi1 : 1 ≤ i ∧ (i ≤ n ∨ i = 1)) (hv0 : v3 = V0 n (bZ s p))
    (hv : (i = 1 → v = v3) ∧ (i = 2 → v = 64 * v3 + bZ s (p + 1) - 128) ∧ (i = 3 → v = 64 * (64 * v3 + bZ s (p + 1) - 128) + bZ s (p + 2) - 128) ∧ (i = 4 → v = 64 * (64 * (64 * v3 + bZ s (p + 1) - 128) + bZ s (p + 2) - 128) + bZ s (p + 3) - 128))
    (hcb : (2 ≤ i → 128 ≤ bZ s (p + 1) ∧ bZ s (p + 1) ≤ 191) ∧ (3 ≤ i → 128 ≤ bZ s (p + 2) ∧ bZ s (p + 2) ≤ 191) ∧ (4 ≤ i → 128 ≤ bZ s (p + 3) ∧ bZ s (p + 3) ≤ 191)) :
    0 ≤ v ∧ v < 2147483648 ∧ Utf8.decode (bs s) p = if (n = 3 ∧ v < 2048) ∨ (n = 4 ∧ v < 65536) ∨ 1114111 < v ∨ (55296 ≤ v ∧ v < 57344) then (65533, 1) else (v.toNat, n) := by
  have h0 := bZ_rng s p
  have h1 := bZ_rng s (p + 1)
  have h2 := bZ_rng s (p + 2)
  have h3 := bZ_rng s (p + 3)
  rw [dec_form]
  rcases wide_inv h0 hw with ⟨hn, hb⟩ | ⟨hn, hb⟩ | ⟨hn, hb⟩ | ⟨hn, hb⟩ | ⟨hn, hb⟩
  · exact absurd hn hn0
  · subst hn
    obtain rfl : i = 1 := by omega
    have e := hv.1 rfl
    have e0 : v3 = bZ s p := hv0
    clear hv hcb hv0
    refine ⟨by omega, by omega, ?_⟩
    rw [decN_1 (by omega), if_neg (by omega)]
    exact Prod.ext (by show _ = v.toNat; omega) rfl
  · subst hn
    obtain rfl : i = 2 := by omega
    have e := hv.2.1 rfl
    have c1 := hcb.1 (by omega)
    have e0 : v3 = bZ s p - 192 := hv0
    clear hv hcb hv0
    refine ⟨by omega, by omega, ?_⟩
    rw [decN_2 (by omega) (by omega), if_pos (by omega), if_neg (by omega)]
    exact Prod.ext (by show _ = v.toNat; simp only; omega) rfl
  · subst hn
    obtain rfl : i = 3 := by omega
    have e := hv.2.2.1 rfl
    have c1 := hcb.1 (by omega)
    have c2 := hcb.2.1 (by omega)
    have e0 : v3 = bZ s p - 224 := hv0
    clear hv hcb hv0
    refine ⟨by omega, by omega, ?_⟩
    rw [decN_3 (by omega) (by omega) (by omega), if_pos (by omega)]
    have ev : 64 * (64 * ((bZ s p).toNat - 224) + ((bZ s (p + 1)).toNat - 128)) + ((bZ s (p + 2)).toNat - 128) = v.toNat := by omega
    rw [ev]
    by_cases hx : (3 = 3 ∧ v < 2048) ∨ (3 = 4 ∧ v < 65536) ∨ 1114111 < v ∨ (55296 ≤ v ∧ v < 57344)
    · rw [if_pos hx, if_pos (by omega)]
    · rw [if_neg hx, if_neg (by omega)]
  · subst hn
    obtain rfl : i = 4 := by omega
    have e := hv.2.2.2 rfl
    have c1 := hcb.1 (by omega)
    have c2 := hcb.2.1 (by omega)
    have c3 := hcb.2.2 (by omega)
    have e0 : v3 = bZ s p - 240 := hv0
    clear hv hcb hv0
    refine ⟨by omega, by omega, ?_⟩
    rw [decN_4 (by omega) (by omega) (by omega) (by omega), if_pos (by omega)]
    have ev : 64 * (64 * (64 * ((bZ s p).toNat - 240) + ((bZ s (p + 1)).toNat - 128)) + ((bZ s (p + 2)).toNat - 128)) + ((bZ s (p + 3)).toNat - 128) = v.toNat := by omega
    rw [ev]
    by_cases hx : (4 = 3 ∧ v < 2048) ∨ (4 = 4 ∧ v < 65536) ∨ 1114111 < v ∨ (55296 ≤ v ∧ v < 57344)
    · rw [if_pos hx, if_pos (by omega)]
    · rw [if_neg hx, if_neg (by omega)]
set_option maxHeartbeats 1000000 in
set_option maxRecDepth 10000 in
theorem wide_c (c : Int) (w0 : World) : Calls Tryz.prog 145 #[.int .i64 c] w0 (Ret fun v w' => v = .int .i64 (wideZ c) ∧ Same [] w0 w') := by
 refine calls_start Tryz.func145 rfl Tryz.ntmps145 (Nat.le_of_ble_eq_true rfl) (args_1 _) ?_
 have hF := FR.start w0 []
 refine c_seq (c_region (o_val (x_assign rfl) (o_nil (e_seq (c_seq (c_seq (c_region (o_val (x_move rfl) (o_val (v := .bool (decide ((c : Int) < (128 : Int)))) (x_lss rfl rfl) (o_nil (e_seq ?_)))))))))))
 refine c_splitd (d := 4) (p := (c : Int) < (128 : Int)) rfl (fun hc0 => ?_) (fun hc0 => ?_)
 refine c_ift rfl (c_seq (c_region (o_val (x_assign rfl) (o_nil (e_seq ?_)))))
 refine c_ret (e_ret (post_ret (res_1 (v := .int .i64 (1)) rfl rfl) ?_))
 refine ⟨congrArg (Value.int .i64) ?_, hF.same⟩
 unfold wideZ
 (repeat' split) <;> omega
 refine c_iff rfl (c_skip (e_seq (c_seq (c_seq (c_region (o_val (x_move rfl) (o_val (v := .bool (decide ((194 : Int) ≤ (c : Int)))) (x_geq rfl rfl) (o_val (x_move rfl) ?_))))))))
 refine o_splitd (d := 7) (p := (194 : Int) ≤ (c : Int)) rfl (fun hg0 => ?_) (fun hg0 => ?_)
 refine o_val (x_move rfl) (o_val (v := .bool (decide ((c : Int) ≤ (223 : Int)))) (x_leq rfl rfl) (o_val (x_pickt rfl rfl) (o_nil (e_seq ?_))))
 refine c_splitd (d := 10) (p := (c : Int) ≤ (223 : Int)) rfl (fun hc1 => ?_) (fun hc1 => ?_)
 refine c_ift rfl (c_seq (c_region (o_val (x_assign rfl) (o_nil (e_seq ?_)))))
 refine c_ret (e_ret (post_ret (res_1 (v := .int .i64 (2)) rfl rfl) ?_))
 refine ⟨congrArg (Value.int .i64) ?_, hF.same⟩
 unfold wideZ
 (repeat' split) <;> omega
 refine c_iff rfl (c_skip (e_seq (c_seq (c_seq (c_region (o_val (x_move rfl) (o_val (v := .bool (decide ((224 : Int) ≤ (c : Int)))) (x_geq rfl rfl) (o_val (x_move rfl) ?_))))))))
 refine o_splitd (d := 13) (p := (224 : Int) ≤ (c : Int)) rfl (fun hg1 => ?_) (fun hg1 => ?_)
 refine o_val (x_move rfl) (o_val (v := .bool (decide ((c : Int) ≤ (239 : Int)))) (x_leq rfl rfl) (o_val (x_pickt rfl rfl) (o_nil (e_seq ?_))))
 refine c_splitd (d := 16) (p := (c : Int) ≤ (239 : Int)) rfl (fun hc2 => ?_) (fun hc2 => ?_)
 refine c_ift rfl (c_seq (c_region (o_val (x_assign rfl) (o_nil (e_seq ?_)))))
 refine c_ret (e_ret (post_ret (res_1 (v := .int .i64 (3)) rfl rfl) ?_))
 refine ⟨congrArg (Value.int .i64) ?_, hF.same⟩
 unfold wideZ
 (repeat' split) <;> omega
 refine c_iff rfl (c_skip (e_seq (c_seq (c_seq (c_region (o_val (x_move rfl) (o_val (v := .bool (decide ((240 : Int) ≤ (c : Int)))) (x_geq rfl rfl) (o_val (x_move rfl) ?_))))))))
 refine o_splitd (d := 19) (p := (240 : Int) ≤ (c : Int)) rfl (fun hg2 => ?_) (fun hg2 => ?_)
 refine o_val (x_move rfl) (o_val (v := .bool (decide ((c : Int) ≤ (244 : Int)))) (x_leq rfl rfl) (o_val (x_pickt rfl rfl) (o_nil (e_seq ?_))))
 refine c_splitd (d := 22) (p := (c : Int) ≤ (244 : Int)) rfl (fun hc3 => ?_) (fun hc3 => ?_)
 refine c_ift rfl (c_seq (c_region (o_val (x_assign rfl) (o_nil (e_seq ?_)))))
 refine c_ret (e_ret (post_ret (res_1 (v := .int .i64 (4)) rfl rfl) ?_))
 refine ⟨congrArg (Value.int .i64) ?_, hF.same⟩
 unfold wideZ
 (repeat' split) <;> omega
 refine c_iff rfl (c_skip (e_seq (c_seq (c_region (o_val (x_assign rfl) (o_nil (e_seq ?_)))))))
 refine c_ret (e_ret (post_ret (res_1 (v := .int .i64 (0)) rfl rfl) ?_))
 refine ⟨congrArg (Value.int .i64) ?_, hF.same⟩
 unfold wideZ
 (repeat' split) <;> omega
 refine o_off (o_off (o_val (x_pickf rfl rfl) (o_nil (e_seq (c_iff rfl (c_skip (e_seq (c_seq (c_region (o_val (x_assign rfl) (o_nil (e_seq ?_))))))))))))
 refine c_ret (e_ret (post_ret (res_1 (v := .int .i64 (0)) rfl rfl) ?_))
 refine ⟨congrArg (Value.int .i64) ?_, hF.same⟩
 unfold wideZ
 (repeat' split) <;> omega
 refine o_off (o_off (o_val (x_pickf rfl rfl) (o_nil (e_seq (c_iff rfl (c_skip (e_seq (c_seq (c_seq (c_region (o_val (x_move rfl) (o_val (v := .bool (decide ((240 : Int) ≤ (c : Int)))) (x_geq rfl rfl) (o_val (x_move rfl) ?_)))))))))))))
 refine o_splitd (d := 19) (p := (240 : Int) ≤ (c : Int)) rfl (fun hg3 => ?_) (fun hg3 => ?_)
 refine o_val (x_move rfl) (o_val (v := .bool (decide ((c : Int) ≤ (244 : Int)))) (x_leq rfl rfl) (o_val (x_pickt rfl rfl) (o_nil (e_seq ?_))))
 refine c_splitd (d := 22) (p := (c : Int) ≤ (244 : Int)) rfl (fun hc3 => ?_) (fun hc3 => ?_)
 refine c_ift rfl (c_seq (c_region (o_val (x_assign rfl) (o_nil (e_seq ?_)))))
 refine c_ret (e_ret (post_ret (res_1 (v := .int .i64 (4)) rfl rfl) ?_))
 refine ⟨congrArg (Value.int .i64) ?_, hF.same⟩
 unfold wideZ
 (repeat' split) <;> omega
 refine c_iff rfl (c_skip (e_seq (c_seq (c_region (o_val (x_assign rfl) (o_nil (e_seq ?_)))))))
 refine c_ret (e_ret (post_ret (res_1 (v := .int .i64 (0)) rfl rfl) ?_))
 refine ⟨congrArg (Value.int .i64) ?_, hF.same⟩
 unfold wideZ
 (repeat' split) <;> omega
 refine o_off (o_off (o_val (x_pickf rfl rfl) (o_nil (e_seq (c_iff rfl (c_skip (e_seq (c_seq (c_region (o_val (x_assign rfl) (o_nil (e_seq ?_))))))))))))
 refine c_ret (e_ret (post_ret (res_1 (v := .int .i64 (0)) rfl rfl) ?_))
 refine ⟨congrArg (Value.int .i64) ?_, hF.same⟩
 unfold wideZ
 (repeat' split) <;> omega
 refine o_off (o_off (o_val (x_pickf rfl rfl) (o_nil (e_seq (c_iff rfl (c_skip (e_seq (c_seq (c_seq (c_region (o_val (x_move rfl) (o_val (v := .bool (decide ((224 : Int) ≤ (c : Int)))) (x_geq rfl rfl) (o_val (x_move rfl) ?_)))))))))))))
 refine o_splitd (d := 13) (p := (224 : Int) ≤ (c : Int)) rfl (fun hg4 => ?_) (fun hg4 => ?_)
 refine o_val (x_move rfl) (o_val (v := .bool (decide ((c : Int) ≤ (239 : Int)))) (x_leq rfl rfl) (o_val (x_pickt rfl rfl) (o_nil (e_seq ?_))))
 refine c_splitd (d := 16) (p := (c : Int) ≤ (239 : Int)) rfl (fun hc2 => ?_) (fun hc2 => ?_)
 refine c_ift rfl (c_seq (c_region (o_val (x_assign rfl) (o_nil (e_seq ?_)))))
 refine c_ret (e_ret (post_ret (res_1 (v := .int .i64 (3)) rfl rfl) ?_))
 refine ⟨congrArg (Value.int .i64) ?_, hF.same⟩
 unfold wideZ
 (repeat' split) <;> omega
 refine c_iff rfl (c_skip (e_seq (c_seq (c_seq (c_region (o_val (x_move rfl) (o_val (v := .bool (decide ((240 : Int) ≤ (c : Int)))) (x_geq rfl rfl) (o_val (x_move rfl) ?_))))))))
 refine o_splitd (d := 19) (p := (240 : Int) ≤ (c : Int)) rfl (fun hg5 => ?_) (fun hg5 => ?_)
 refine o_val (x_move rfl) (o_val (v := .bool (decide ((c : Int) ≤ (244 : Int)))) (x_leq rfl rfl) (o_val (x_pickt rfl rfl) (o_nil (e_seq ?_))))
 refine c_splitd (d := 22) (p := (c : Int) ≤ (244 : Int)) rfl (fun hc3 => ?_) (fun hc3 => ?_)
 refine c_ift rfl (c_seq (c_region (o_val (x_assign rfl) (o_nil (e_seq ?_)))))
 refine c_ret (e_ret (post_ret (res_1 (v := .int .i64 (4)) rfl rfl) ?_))
 refine ⟨congrArg (Value.int .i64) ?_, hF.same⟩
 unfold wideZ
 (repeat' split) <;> omega
 refine c_iff rfl (c_skip (e_seq (c_seq (c_region (o_val (x_assign rfl) (o_nil (e_seq ?_)))))))
 refine c_ret (e_ret (post_ret (res_1 (v := .int .i64 (0)) rfl rfl) ?_))
 refine ⟨congrArg (Value.int .i64) ?_, hF.same⟩
 unfold wideZ
 (repeat' split) <;> omega
 refine o_off (o_off (o_val (x_pickf rfl rfl) (o_nil (e_seq (c_iff rfl (c_skip (e_seq (c_seq (c_region (o_val (x_assign rfl) (o_nil (e_seq ?_))))))))))))
 refine c_ret (e_ret (post_ret (res_1 (v := .int .i64 (0)) rfl rfl) ?_))
 refine ⟨congrArg (Value.int .i64) ?_, hF.same⟩
 unfold wideZ
 (repeat' split) <;> omega
 refine o_off (o_off (o_val (x_pickf rfl rfl) (o_nil (e_seq (c_iff rfl (c_skip (e_seq (c_seq (c_seq (c_region (o_val (x_move rfl) (o_val (v := .bool (decide ((240 : Int) ≤ (c : Int)))) (x_geq rfl rfl) (o_val (x_move rfl) ?_)))))))))))))
 refine o_splitd (d := 19) (p := (240 : Int) ≤ (c : Int)) rfl (fun hg6 => ?_) (fun hg6 => ?_)
 refine o_val (x_move rfl) (o_val (v := .bool (decide ((c : Int) ≤ (244 : Int)))) (x_leq rfl rfl) (o_val (x_pickt rfl rfl) (o_nil (e_seq ?_))))
 refine c_splitd (d := 22) (p := (c : Int) ≤ (244 : Int)) rfl (fun hc3 => ?_) (fun hc3 => ?_)
 refine c_ift rfl (c_seq (c_region (o_val (x_assign rfl) (o_nil (e_seq ?_)))))
 refine c_ret (e_ret (post_ret (res_1 (v := .int .i64 (4)) rfl rfl) ?_))
 refine ⟨congrArg (Value.int .i64) ?_, hF.same⟩
 unfold wideZ
 (repeat' split) <;> omega
 refine c_iff rfl (c_skip (e_seq (c_seq (c_region (o_val (x_assign rfl) (o_nil (e_seq ?_)))))))
 refine c_ret (e_ret (post_ret (res_1 (v := .int .i64 (0)) rfl rfl) ?_))
 refine ⟨congrArg (Value.int .i64) ?_, hF.same⟩
 unfold wideZ
 (repeat' split) <;> omega
 refine o_off (o_off (o_val (x_pickf rfl rfl) (o_nil (e_seq (c_iff rfl (c_skip (e_seq (c_seq (c_region (o_val (x_assign rfl) (o_nil (e_seq ?_))))))))))))
 refine c_ret (e_ret (post_ret (res_1 (v := .int .i64 (0)) rfl rfl) ?_))
 refine ⟨congrArg (Value.int .i64) ?_, hF.same⟩
 unfold wideZ
 (repeat' split) <;> omega
set_option maxHeartbeats 8000000 in
set_option maxRecDepth 10000 in
theorem next_c (s : Str) (p : Nat) (hp : p < s.length) (hl : s.length ≤ 140737488355328) (w0 : World) : Calls Tryz.prog 115 #[.string (bs s), .int .i64 (p : Int)] w0 (Ret fun v w' => v = .tuple #[.int .i32 ((Utf8.decode (bs s) p).1 : Int), .int .i64 ((Utf8.decode (bs s) p).2 : Int)] ∧ Same [] w0 w') := by
 obtain ⟨n, hw, hn4⟩ : ∃ n : Nat, wideZ (bZ s p) = (n : Int) ∧ n ≤ 4 := by rcases wideZ_rng (bZ s p) with h | h | h | h | h; exact ⟨0, h, by omega⟩; exact ⟨1, h, by omega⟩; exact ⟨2, h, by omega⟩; exact ⟨3, h, by omega⟩; exact ⟨4, h, by omega⟩
 have hb0 := bZ_rng s p
 have hb1 := bZ_rng s (p + 1)
 have hb2 := bZ_rng s (p + 2)
 have hb3 := bZ_rng s (p + 3)
 refine calls_start Tryz.func115 rfl Tryz.ntmps115 (Nat.le_of_ble_eq_true rfl) (args_2 _ _) ?_
 have hF := FR.start w0 []
 refine c_seq (c_region (o_val (x_assign rfl) (o_val (x_assign rfl) (o_nil (e_seq (c_seq (c_seq (c_region (o_val (x_move rfl) (o_val (v := .bool false) (run_false (x_lss rfl rfl) (by omega)) (o_val (x_move rfl) (o_val (x_move rfl) (o_val (x_move rfl) ?_)))))))))))))
 refine o_val (v := .int .i64 ((((s) : Str).length : Int))) (x_len_string Tryz.underlying9 rfl) (o_val (v := .bool false) (run_false (x_geq rfl rfl) (by omega)) (o_val (x_pickf rfl rfl) (o_nil (e_seq (c_iff rfl (c_skip (e_seq (c_seq (c_region (o_val (x_move rfl) (o_val (x_move rfl) ?_)))))))))))
 refine o_val (v := .int .u8 (bZ s p)) (by rw [← bZ_at hp]; exact x_index p Tryz.underlying9 rfl rfl hp) ?_
 refine o_val (v := .int .i64 (bZ s p)) (x_conv_int Tryz.underlying5 Tryz.underlying3 rfl (wrap_id (by omega) (by omega))) ?_
 refine o_call (wide_c (bZ s p) _) (x_call1 en_145 rfl rfl) ?_
 rintro _ w ⟨rfl, hE⟩
 rw [hw]
 replace hF := hF.ext hE
 clear hE
 refine o_val (x_assign rfl) (o_nil (e_seq (c_seq (c_seq (c_region (o_val (x_move rfl) (o_val (v := .bool (decide (((n : Int) : Int) = (0 : Int)))) (x_eql rfl rfl) (o_val (x_move rfl) ?_))))))))
 refine o_splitd (d := 25) (p := ((n : Int) : Int) = (0 : Int)) rfl (fun hg0 => ?_) (fun hg0 => ?_)
 refine o_off (o_off (o_off (o_off (o_off (o_off (o_val (x_pickt rfl rfl) (o_nil (e_seq (c_ift rfl (c_seq (c_region (o_val (x_assign rfl) (o_val (x_assign rfl) ?_)))))))))))))
 refine o_nil (e_seq ?_)
 refine c_ret (e_ret (post_ret (res_2 (v := .int .i32 (65533)) (x := .int .i64 (1)) rfl rfl rfl) ?_))
 exact ⟨by rw [next_short hp hw (.inl (by omega))]; rfl, hF.same⟩
 refine o_val (x_move rfl) (o_val (x_move rfl) (o_val (v := .int .i64 ((((s) : Str).length : Int))) (x_len_string Tryz.underlying9 rfl) (o_val (x_move rfl) (o_val (v := .int .i64 (((((s) : Str).length : Int) : Int) - (p : Int))) (x_sub rfl rfl (wrap_id (by omega) (by omega))) (o_val (v := .bool (decide ((((((s) : Str).length : Int) : Int) - (p : Int) : Int) < ((n : Int) : Int)))) (x_gtr rfl rfl) (o_val (x_pickf rfl rfl) (o_nil (e_seq ?_))))))))
 refine c_splitd (d := 32) (p := (((((s) : Str).length : Int) : Int) - (p : Int) : Int) < ((n : Int) : Int)) rfl (fun hc1 => ?_) (fun hc1 => ?_)
 refine c_ift rfl (c_seq (c_region (o_val (x_assign rfl) (o_val (x_assign rfl) (o_nil (e_seq ?_))))))
 refine c_ret (e_ret (post_ret (res_2 (v := .int .i32 (65533)) (x := .int .i64 (1)) rfl rfl rfl) ?_))
 exact ⟨by rw [next_short hp hw (.inr (by omega))]; rfl, hF.same⟩
 refine c_iff rfl (c_skip (e_seq (c_seq (c_region (o_val (x_move rfl) (o_val (x_move rfl) ?_))))))
 refine o_val (v := .int .u8 (bZ s p)) (by rw [← bZ_at hp]; exact x_index p Tryz.underlying9 rfl rfl hp) ?_
 refine o_val (v := .int .i64 (bZ s p)) (x_conv_int Tryz.underlying5 Tryz.underlying3 rfl (wrap_id (by omega) (by omega))) (o_val (x_assign rfl) (o_nil (e_seq (c_seq ?_))))
 refine c_join (fun σ w => ∃ (v1 : Int), (v1 = if n = 2 then bZ s p - 192 else bZ s p) ∧ AllEq σ [(0, .string (bs (s))), (1, .int .i64 ((p : Int))), (6, .int .i64 ((n : Int))), (7, .int .i64 (v1))] ∧ FR w0 [] [] w) ?_ ?_
 refine c_seq (c_region (o_val (x_move rfl) (o_val (v := .bool (decide (((n : Int) : Int) = (2 : Int)))) (x_eql rfl rfl) (o_nil (e_seq ?_)))))
 refine c_splitd (d := 38) (p := ((n : Int) : Int) = (2 : Int)) rfl (fun hc2 => ?_) (fun hc2 => ?_)
 refine c_ift rfl (c_region (o_val (x_move rfl) (o_val (v := .int .i64 ((bZ s p : Int) - 192)) (x_sub rfl rfl (wrap_id (by omega) (by omega))) (o_val (x_assign rfl) (o_nil ?_)))))
 exact e_inv ⟨((bZ s p : Int) - 192), (by first | (rw [if_pos (by omega)]) | (rw [if_neg (by omega)])), ⟨rfl, rfl, rfl, rfl, trivial⟩, hF⟩
 refine c_iff rfl (c_skip ?_)
 exact e_inv ⟨(bZ s p), (by first | (rw [if_pos (by omega)]) | (rw [if_neg (by omega)])), ⟨rfl, rfl, rfl, rfl, trivial⟩, hF⟩
 clear hF; rintro σ w ⟨v1, hv1, hs, hF⟩
 refine Eg.slots hs ?_
 clear hs; intro σ
 refine e_seq (c_seq ?_)
 refine c_join (fun σ w => ∃ (v2 : Int), (v2 = if n = 3 then v1 - 224 else v1) ∧ AllEq σ [(0, .string (bs (s))), (1, .int .i64 ((p : Int))), (6, .int .i64 ((n : Int))), (7, .int .i64 (v2))] ∧ FR w0 [] [] w) ?_ ?_
 refine c_seq (c_region (o_val (x_move rfl) (o_val (v := .bool (decide (((n : Int) : Int) = (3 : Int)))) (x_eql rfl rfl) (o_nil (e_seq ?_)))))
 refine c_splitd (d := 42) (p := ((n : Int) : Int) = (3 : Int)) rfl (fun hc3 => ?_) (fun hc3 => ?_)
 refine c_ift rfl (c_region (o_val (x_move rfl) (o_val (v := .int .i64 ((v1 : Int) - 224)) (x_sub rfl rfl (wrap_id (by omega) (by omega))) (o_val (x_assign rfl) (o_nil ?_)))))
 exact e_inv ⟨((v1 : Int) - 224), (by first | (rw [if_pos (by omega)]) | (rw [if_neg (by omega)])), ⟨rfl, rfl, rfl, rfl, trivial⟩, hF⟩
 refine c_iff rfl (c_skip ?_)
 exact e_inv ⟨(v1), (by first | (rw [if_pos (by omega)]) | (rw [if_neg (by omega)])), ⟨rfl, rfl, rfl, rfl, trivial⟩, hF⟩
 clear hF; rintro σ w ⟨v2, hv2, hs, hF⟩
 refine Eg.slots hs ?_
 clear hs; intro σ
 refine e_seq (c_seq ?_)
 refine c_join (fun σ w => ∃ (v3 : Int), (v3 = if n = 4 then v2 - 240 else v2) ∧ AllEq σ [(0, .string (bs (s))), (1, .int .i64 ((p : Int))), (6, .int .i64 ((n : Int))), (7, .int .i64 (v3))] ∧ FR w0 [] [] w) ?_ ?_
 refine c_seq (c_region (o_val (x_move rfl) (o_val (v := .bool (decide (((n : Int) : Int) = (4 : Int)))) (x_eql rfl rfl) (o_nil (e_seq ?_)))))
 refine c_splitd (d := 46) (p := ((n : Int) : Int) = (4 : Int)) rfl (fun hc4 => ?_) (fun hc4 => ?_)
 refine c_ift rfl (c_region (o_val (x_move rfl) (o_val (v := .int .i64 ((v2 : Int) - 240)) (x_sub rfl rfl (wrap_id (by omega) (by omega))) (o_val (x_assign rfl) (o_nil ?_)))))
 exact e_inv ⟨((v2 : Int) - 240), (by first | (rw [if_pos (by omega)]) | (rw [if_neg (by omega)])), ⟨rfl, rfl, rfl, rfl, trivial⟩, hF⟩
 refine c_iff rfl (c_skip ?_)
 exact e_inv ⟨(v2), (by first | (rw [if_pos (by omega)]) | (rw [if_neg (by omega)])), ⟨rfl, rfl, rfl, rfl, trivial⟩, hF⟩
 clear hF; rintro σ w ⟨v3, hv3, hs, hF⟩
 refine Eg.slots hs ?_
 clear hs; intro σ
 refine e_seq (c_seq (c_seq (c_region (o_val (x_assign rfl) (o_nil (e_seq (c_block ?_)))))))
 have hv0 : v3 = V0 n (bZ s p) := by rw [hv3, hv2, hv1]; unfold V0; (repeat' split) <;> omega
 have hv00 : 0 ≤ v3 ∧ v3 ≤ 255 := by rw [hv0]; unfold V0; rcases wide_inv hb0 hw with ⟨hn, hb⟩ | ⟨hn, hb⟩ | ⟨hn, hb⟩ | ⟨hn, hb⟩ | ⟨hn, hb⟩ <;> subst hn <;> simp <;> omega
 have hm : (n : Int) ≤ (s.length : Int) - p := by omega
 have hn0 : ¬ n = 0 := by omega
 refine c_loop (fun μ σ w => ∃ (i : Nat), ∃ (v : Int), μ = n + 1 - i ∧ (1 ≤ i ∧ (i ≤ n ∨ i = 1)) ∧ ((i = 1 → v = v3) ∧ (i = 2 → v = 64 * v3 + bZ s (p + 1) - 128) ∧ (i = 3 → v = 64 * (64 * v3 + bZ s (p + 1) - 128) + bZ s (p + 2) - 128) ∧ (i = 4 → v = 64 * (64 * (64 * v3 + bZ s (p + 1) - 128) + bZ s (p + 2) - 128) + bZ s (p + 3) - 128)) ∧ ((2 ≤ i → 128 ≤ bZ s (p + 1) ∧ bZ s (p + 1) ≤ 191) ∧ (3 ≤ i → 128 ≤ bZ s (p + 2) ∧ bZ s (p + 2) ≤ 191) ∧ (4 ≤ i → 128 ≤ bZ s (p + 3) ∧ bZ s (p + 3) ≤ 191)) ∧ AllEq σ [(0, .string (bs (s))), (1, .int .i64 ((p : Int))), (6, .int .i64 ((n : Int))), (7, .int .i64 (v)), (8, .int .i64 ((i : Int)))] ∧ FR w0 [] [] w) _ ⟨1, v3, rfl, (by omega), (by omega), (by omega), ⟨rfl, rfl, rfl, rfl, rfl, trivial⟩, hF⟩ ?_
 clear hF; rintro μ σ w ⟨i, v, rfl, hi1, hv, hcb, hs, hF⟩
 refine Cg.slots hs ?_
 clear hs; intro σ
 have hvb := next_b hi1.1 (by omega : i ≤ 4) hv00 hv hcb (bZ_rng s (p + 1)) (bZ_rng s (p + 2)) (bZ_rng s (p + 3))
 refine c_seq (c_seq (c_region (o_val (x_move rfl) (o_val (x_move rfl) (o_val (v := .bool (decide (((i : Int) : Int) < ((n : Int) : Int)))) (x_lss rfl rfl) (o_nil (e_seq ?_)))))))
 refine c_splitd (d := 51) (p := ((i : Int) : Int) < ((n : Int) : Int)) rfl (fun hc5 => ?_) (fun hc5 => ?_)
 have hbi := bZ_rng s (p + i)
 refine c_ift rfl (c_skip (e_seq (c_seq (c_block (c_seq (c_region (o_val (x_move rfl) (o_val (x_move rfl) (o_val (x_move rfl) (o_val (v := .int .i64 (((p + i : Nat) : Int))) (x_add rfl rfl (wrap_to (by omega) (by omega) (by omega))) ?_))))))))))
 refine o_val (v := .int .u8 (bZ s (p + i))) (by rw [← bZ_at (show p + i < s.length by omega)]; exact x_index (p + i) Tryz.underlying9 rfl rfl (by omega)) ?_
 refine o_val (v := .int .i64 (bZ s (p + i))) (x_conv_int Tryz.underlying5 Tryz.underlying3 rfl (wrap_id (by omega) (by omega))) (o_val (x_assign rfl) (o_nil (e_seq (c_seq (c_seq (c_region (o_val (x_move rfl) (o_val (v := .bool (decide ((bZ s (p + i) : Int) < (128 : Int)))) (x_lss rfl rfl) (o_val (x_move rfl) ?_)))))))))
 refine o_splitd (d := 62) (p := (bZ s (p + i) : Int) < (128 : Int)) rfl (fun hg1 => ?_) (fun hg1 => ?_)
 refine o_off (o_off (o_val (x_pickt rfl rfl) (o_nil (e_seq (c_ift rfl (c_seq (c_region (o_val (x_assign rfl) (o_val (x_assign rfl) (o_nil (e_seq ?_)))))))))))
 refine c_ret (e_ret (post_ret (res_2 (v := .int .i32 (65533)) (x := .int .i64 (1)) rfl rfl rfl) ?_))
 exact ⟨by rw [next_stop hw hi1.1 (by omega) (.inl (by omega))]; rfl, hF.same⟩
 refine o_val (x_move rfl) (o_val (v := .bool (decide ((191 : Int) < (bZ s (p + i) : Int)))) (x_gtr rfl rfl) (o_val (x_pickf rfl rfl) (o_nil (e_seq ?_))))
 refine c_splitd (d := 65) (p := (191 : Int) < (bZ s (p + i) : Int)) rfl (fun hc6 => ?_) (fun hc6 => ?_)
 refine c_ift rfl (c_seq (c_region (o_val (x_assign rfl) (o_val (x_assign rfl) (o_nil (e_seq ?_))))))
 refine c_ret (e_ret (post_ret (res_2 (v := .int .i32 (65533)) (x := .int .i64 (1)) rfl rfl rfl) ?_))
 exact ⟨by rw [next_stop hw hi1.1 (by omega) (.inr (by omega))]; rfl, hF.same⟩
 refine c_iff rfl (c_skip (e_seq (c_region (o_val (x_move rfl) (o_val (v := .int .i64 (64 * v)) (x_mul rfl rfl (wrap_id (by omega) (by omega))) (o_val (x_move rfl) (o_val (v := .int .i64 (64 * v + bZ s (p + i))) (x_add rfl rfl (wrap_id (by omega) (by omega))) (o_val (v := .int .i64 (64 * v + bZ s (p + i) - 128)) (x_sub rfl rfl (wrap_id (by omega) (by omega))) (o_val (x_assign rfl) (o_nil (e_block (e_seq (c_region ?_)))))))))))))
 refine o_val (x_move rfl) (o_val (v := .int .i64 (((i + 1 : Nat) : Int))) (x_add rfl rfl (wrap_to (by omega) (by omega) (by omega))) (o_val (x_assign rfl) (o_nil ?_)))
 refine e_inv ⟨_, ?_, i + 1, 64 * v + bZ s (p + i) - 128, rfl, (by omega), (next_v hi1.1 (by omega) hv), (next_c_ hi1.1 (by omega) (by omega) hcb), ⟨rfl, rfl, rfl, rfl, rfl, trivial⟩, hF⟩
 omega
 refine c_iff rfl ?_
 refine c_exit (e_exit rfl ?_)
 refine e_seq (c_seq (c_seq (c_region (o_val (x_move rfl) (o_val (v := .bool (decide (((n : Int) : Int) = (3 : Int)))) (x_eql rfl rfl) (o_val (x_move rfl) ?_))))))
 refine o_splitd (d := 73) (p := ((n : Int) : Int) = (3 : Int)) rfl (fun hg2 => ?_) (fun hg2 => ?_)
 refine o_val (x_move rfl) (o_val (v := .bool (decide ((v : Int) < (2048 : Int)))) (x_lss rfl rfl) (o_val (x_pickt rfl rfl) (o_val (x_move rfl) ?_)))
 refine o_splitd (d := 77) (p := (v : Int) < (2048 : Int)) rfl (fun hg3 => ?_) (fun hg3 => ?_)
 refine o_off (o_off (o_off (o_off (o_off (o_off (o_val (x_pickt rfl rfl) (o_val (x_move rfl) (o_off (o_off (o_val (x_pickt rfl rfl) (o_val (x_move rfl) (o_off (o_off ?_)))))))))))))
 refine o_off (o_off (o_off (o_off (o_val (x_pickt rfl rfl) (o_nil (e_seq (c_ift rfl (c_seq (c_region (o_val (x_assign rfl) (o_val (x_assign rfl) (o_nil (e_seq ?_)))))))))))))
 refine c_ret (e_ret (post_ret (res_2 (v := .int .i32 (65533)) (x := .int .i64 (1)) rfl rfl rfl) ?_))
 have ha := next_all hw hn0 hm (by omega) hi1 hv0 hv hcb
 clear hv hcb
 obtain ⟨ha1, ha2, ha3⟩ := ha
 refine ⟨?_, hF.same⟩
 rw [ha3]
 first | (rw [if_pos (by omega)]; rfl) | (rw [if_neg (by omega)]; exact tuple_dec (by show v = ((v.toNat : Nat) : Int); omega) rfl)
 refine o_val (x_move rfl) (o_val (v := .bool (decide (((n : Int) : Int) = (4 : Int)))) (x_eql rfl rfl) (o_val (x_move rfl) ?_))
 refine o_splitd (d := 80) (p := ((n : Int) : Int) = (4 : Int)) rfl (fun hg4 => ?_) (fun hg4 => ?_)
 refine o_val (x_move rfl) (o_val (v := .bool (decide ((v : Int) < (65536 : Int)))) (x_lss rfl rfl) (o_val (x_pickt rfl rfl) (o_val (x_pickf rfl rfl) (o_val (x_move rfl) ?_))))
 refine o_splitd (d := 85) (p := (v : Int) < (65536 : Int)) rfl (fun hg5 => ?_) (fun hg5 => ?_)
 refine o_off (o_off (o_val (x_pickt rfl rfl) (o_val (x_move rfl) (o_off (o_off (o_off (o_off (o_off (o_off (o_val (x_pickt rfl rfl) (o_nil (e_seq (c_ift rfl ?_)))))))))))))
 refine c_seq (c_region (o_val (x_assign rfl) (o_val (x_assign rfl) (o_nil (e_seq ?_)))))
 refine c_ret (e_ret (post_ret (res_2 (v := .int .i32 (65533)) (x := .int .i64 (1)) rfl rfl rfl) ?_))
 have ha := next_all hw hn0 hm (by omega) hi1 hv0 hv hcb
 clear hv hcb
 obtain ⟨ha1, ha2, ha3⟩ := ha
 refine ⟨?_, hF.same⟩
 rw [ha3]
 first | (rw [if_pos (by omega)]; rfl) | (rw [if_neg (by omega)]; exact tuple_dec (by show v = ((v.toNat : Nat) : Int); omega) rfl)
 refine o_val (x_move rfl) (o_val (v := .bool (decide ((1114111 : Int) < (v : Int)))) (x_gtr rfl rfl) (o_val (x_pickf rfl rfl) (o_val (x_move rfl) ?_)))
 refine o_splitd (d := 89) (p := (1114111 : Int) < (v : Int)) rfl (fun hg6 => ?_) (fun hg6 => ?_)
 refine o_off (o_off (o_off (o_off (o_off (o_off (o_val (x_pickt rfl rfl) (o_nil (e_seq (c_ift rfl (c_seq (c_region (o_val (x_assign rfl) (o_val (x_assign rfl) ?_)))))))))))))
 refine o_nil (e_seq ?_)
 refine c_ret (e_ret (post_ret (res_2 (v := .int .i32 (65533)) (x := .int .i64 (1)) rfl rfl rfl) ?_))
 have ha := next_all hw hn0 hm (by omega) hi1 hv0 hv hcb
 clear hv hcb
 obtain ⟨ha1, ha2, ha3⟩ := ha
 refine ⟨?_, hF.same⟩
 rw [ha3]
 first | (rw [if_pos (by omega)]; rfl) | (rw [if_neg (by omega)]; exact tuple_dec (by show v = ((v.toNat : Nat) : Int); omega) rfl)
 refine o_val (x_move rfl) (o_val (v := .bool (decide ((55296 : Int) ≤ (v : Int)))) (x_geq rfl rfl) (o_val (x_move rfl) ?_))
 refine o_splitd (d := 92) (p := (55296 : Int) ≤ (v : Int)) rfl (fun hg7 => ?_) (fun hg7 => ?_)
 refine o_val (x_move rfl) (o_val (v := .bool (decide ((v : Int) < (57344 : Int)))) (x_lss rfl rfl) (o_val (x_pickt rfl rfl) (o_val (x_pickf rfl rfl) (o_nil (e_seq ?_)))))
 refine c_splitd (d := 96) (p := (v : Int) < (57344 : Int)) rfl (fun hc7 => ?_) (fun hc7 => ?_)
 refine c_ift rfl (c_seq (c_region (o_val (x_assign rfl) (o_val (x_assign rfl) (o_nil (e_seq ?_))))))
 refine c_ret (e_ret (post_ret (res_2 (v := .int .i32 (65533)) (x := .int .i64 (1)) rfl rfl rfl) ?_))
 have ha := next_all hw hn0 hm (by omega) hi1 hv0 hv hcb
 clear hv hcb
 obtain ⟨ha1, ha2, ha3⟩ := ha
 refine ⟨?_, hF.same⟩
 rw [ha3]
 first | (rw [if_pos (by omega)]; rfl) | (rw [if_neg (by omega)]; exact tuple_dec (by show v = ((v.toNat : Nat) : Int); omega) rfl)
 refine c_iff rfl (c_skip (e_seq (c_seq (c_region (o_val (x_move rfl) ?_)))))
 refine o_val (v := .int .i32 (v)) (x_conv_int Tryz.underlying3 Tryz.underlying21 rfl (by have ha := next_all hw hn0 hm (by omega) hi1 hv0 hv hcb; clear hv hcb; rw [IntKind.wrap_i32]; omega)) ?_
 refine o_val (x_move rfl) (o_val (x_assign rfl) (o_val (x_assign rfl) (o_nil (e_seq ?_))))
 refine c_ret (e_ret (post_ret (res_2 (v := .int .i32 (v)) (x := .int .i64 ((n : Int))) rfl rfl rfl) ?_))
 have ha := next_all hw hn0 hm (by omega) hi1 hv0 hv hcb
 clear hv hcb
 obtain ⟨ha1, ha2, ha3⟩ := ha
 refine ⟨?_, hF.same⟩
 rw [ha3]
 first | (rw [if_pos (by omega)]; rfl) | (rw [if_neg (by omega)]; exact tuple_dec (by show v = ((v.toNat : Nat) : Int); omega) rfl)
 refine o_off (o_off (o_val (x_pickf rfl rfl) (o_val (x_pickf rfl rfl) (o_nil (e_seq (c_iff rfl (c_skip (e_seq (c_seq (c_region (o_val (x_move rfl) ?_)))))))))))
 refine o_val (v := .int .i32 (v)) (x_conv_int Tryz.underlying3 Tryz.underlying21 rfl (by have ha := next_all hw hn0 hm (by omega) hi1 hv0 hv hcb; clear hv hcb; rw [IntKind.wrap_i32]; omega)) ?_
 refine o_val (x_move rfl) (o_val (x_assign rfl) (o_val (x_assign rfl) (o_nil (e_seq ?_))))
 refine c_ret (e_ret (post_ret (res_2 (v := .int .i32 (v)) (x := .int .i64 ((n : Int))) rfl rfl rfl) ?_))
 have ha := next_all hw hn0 hm (by omega) hi1 hv0 hv hcb
 clear hv hcb
 obtain ⟨ha1, ha2, ha3⟩ := ha
 refine ⟨?_, hF.same⟩
 rw [ha3]
 first | (rw [if_pos (by omega)]; rfl) | (rw [if_neg (by omega)]; exact tuple_dec (by show v = ((v.toNat : Nat) : Int); omega) rfl)
 refine o_off (o_off (o_val (x_pickf rfl rfl) (o_val (x_pickf rfl rfl) (o_val (x_move rfl) (o_val (x_move rfl) (o_val (v := .bool (decide ((1114111 : Int) < (v : Int)))) (x_gtr rfl rfl) (o_val (x_pickf rfl rfl) (o_val (x_move rfl) ?_))))))))
 refine o_splitd (d := 89) (p := (1114111 : Int) < (v : Int)) rfl (fun hg8 => ?_) (fun hg8 => ?_)
 refine o_off (o_off (o_off (o_off (o_off (o_off (o_val (x_pickt rfl rfl) (o_nil (e_seq (c_ift rfl (c_seq (c_region (o_val (x_assign rfl) (o_val (x_assign rfl) ?_)))))))))))))
 refine o_nil (e_seq ?_)
 refine c_ret (e_ret (post_ret (res_2 (v := .int .i32 (65533)) (x := .int .i64 (1)) rfl rfl rfl) ?_))
 have ha := next_all hw hn0 hm (by omega) hi1 hv0 hv hcb
 clear hv hcb
 obtain ⟨ha1, ha2, ha3⟩ := ha
 refine ⟨?_, hF.same⟩
 rw [ha3]
 first | (rw [if_pos (by omega)]; rfl) | (rw [if_neg (by omega)]; exact tuple_dec (by show v = ((v.toNat : Nat) : Int); omega) rfl)
 refine o_val (x_move rfl) (o_val (v := .bool (decide ((55296 : Int) ≤ (v : Int)))) (x_geq rfl rfl) (o_val (x_move rfl) ?_))
 refine o_splitd (d := 92) (p := (55296 : Int) ≤ (v : Int)) rfl (fun hg9 => ?_) (fun hg9 => ?_)
 refine o_val (x_move rfl) (o_val (v := .bool (decide ((v : Int) < (57344 : Int)))) (x_lss rfl rfl) (o_val (x_pickt rfl rfl) (o_val (x_pickf rfl rfl) (o_nil (e_seq ?_)))))
 refine c_splitd (d := 96) (p := (v : Int) < (57344 : Int)) rfl (fun hc7 => ?_) (fun hc7 => ?_)
 refine c_ift rfl (c_seq (c_region (o_val (x_assign rfl) (o_val (x_assign rfl) (o_nil (e_seq ?_))))))
 refine c_ret (e_ret (post_ret (res_2 (v := .int .i32 (65533)) (x := .int .i64 (1)) rfl rfl rfl) ?_))
 have ha := next_all hw hn0 hm (by omega) hi1 hv0 hv hcb
 clear hv hcb
 obtain ⟨ha1, ha2, ha3⟩ := ha
 refine ⟨?_, hF.same⟩
 rw [ha3]
 first | (rw [if_pos (by omega)]; rfl) | (rw [if_neg (by omega)]; exact tuple_dec (by show v = ((v.toNat : Nat) : Int); omega) rfl)
 refine c_iff rfl (c_skip (e_seq (c_seq (c_region (o_val (x_move rfl) ?_)))))
 refine o_val (v := .int .i32 (v)) (x_conv_int Tryz.underlying3 Tryz.underlying21 rfl (by have ha := next_all hw hn0 hm (by omega) hi1 hv0 hv hcb; clear hv hcb; rw [IntKind.wrap_i32]; omega)) ?_
 refine o_val (x_move rfl) (o_val (x_assign rfl) (o_val (x_assign rfl) (o_nil (e_seq ?_))))
 refine c_ret (e_ret (post_ret (res_2 (v := .int .i32 (v)) (x := .int .i64 ((n : Int))) rfl rfl rfl) ?_))
 have ha := next_all hw hn0 hm (by omega) hi1 hv0 hv hcb
 clear hv hcb
 obtain ⟨ha1, ha2, ha3⟩ := ha
 refine ⟨?_, hF.same⟩
 rw [ha3]
 first | (rw [if_pos (by omega)]; rfl) | (rw [if_neg (by omega)]; exact tuple_dec (by show v = ((v.toNat : Nat) : Int); omega) rfl)
 refine o_off (o_off (o_val (x_pickf rfl rfl) (o_val (x_pickf rfl rfl) (o_nil (e_seq (c_iff rfl (c_skip (e_seq (c_seq (c_region (o_val (x_move rfl) ?_)))))))))))
 refine o_val (v := .int .i32 (v)) (x_conv_int Tryz.underlying3 Tryz.underlying21 rfl (by have ha := next_all hw hn0 hm (by omega) hi1 hv0 hv hcb; clear hv hcb; rw [IntKind.wrap_i32]; omega)) ?_
 refine o_val (x_move rfl) (o_val (x_assign rfl) (o_val (x_assign rfl) (o_nil (e_seq ?_))))
 refine c_ret (e_ret (post_ret (res_2 (v := .int .i32 (v)) (x := .int .i64 ((n : Int))) rfl rfl rfl) ?_))
 have ha := next_all hw hn0 hm (by omega) hi1 hv0 hv hcb
 clear hv hcb
 obtain ⟨ha1, ha2, ha3⟩ := ha
 refine ⟨?_, hF.same⟩
 rw [ha3]
 first | (rw [if_pos (by omega)]; rfl) | (rw [if_neg (by omega)]; exact tuple_dec (by show v = ((v.toNat : Nat) : Int); omega) rfl)
 refine o_off (o_off (o_val (x_pickf rfl rfl) (o_val (x_move rfl) (o_val (x_move rfl) (o_val (v := .bool (decide (((n : Int) : Int) = (4 : Int)))) (x_eql rfl rfl) (o_val (x_move rfl) ?_))))))
 refine o_splitd (d := 80) (p := ((n : Int) : Int) = (4 : Int)) rfl (fun hg10 => ?_) (fun hg10 => ?_)
 refine o_val (x_move rfl) (o_val (v := .bool (decide ((v : Int) < (65536 : Int)))) (x_lss rfl rfl) (o_val (x_pickt rfl rfl) (o_val (x_pickf rfl rfl) (o_val (x_move rfl) ?_))))
 refine o_splitd (d := 85) (p := (v : Int) < (65536 : Int)) rfl (fun hg11 => ?_) (fun hg11 => ?_)
 refine o_off (o_off (o_val (x_pickt rfl rfl) (o_val (x_move rfl) (o_off (o_off (o_off (o_off (o_off (o_off (o_val (x_pickt rfl rfl) (o_nil (e_seq (c_ift rfl ?_)))))))))))))
 refine c_seq (c_region (o_val (x_assign rfl) (o_val (x_assign rfl) (o_nil (e_seq ?_)))))
 refine c_ret (e_ret (post_ret (res_2 (v := .int .i32 (65533)) (x := .int .i64 (1)) rfl rfl rfl) ?_))
 have ha := next_all hw hn0 hm (by omega) hi1 hv0 hv hcb
 clear hv hcb
 obtain ⟨ha1, ha2, ha3⟩ := ha
 refine ⟨?_, hF.same⟩
 rw [ha3]
 first | (rw [if_pos (by omega)]; rfl) | (rw [if_neg (by omega)]; exact tuple_dec (by show v = ((v.toNat : Nat) : Int); omega) rfl)
 refine o_val (x_move rfl) (o_val (v := .bool (decide ((1114111 : Int) < (v : Int)))) (x_gtr rfl rfl) (o_val (x_pickf rfl rfl) (o_val (x_move rfl) ?_)))
 refine o_splitd (d := 89) (p := (1114111 : Int) < (v : Int)) rfl (fun hg12 => ?_) (fun hg12 => ?_)
 refine o_off (o_off (o_off (o_off (o_off (o_off (o_val (x_pickt rfl rfl) (o_nil (e_seq (c_ift rfl (c_seq (c_region (o_val (x_assign rfl) (o_val (x_assign rfl) ?_)))))))))))))
 refine o_nil (e_seq ?_)
 refine c_ret (e_ret (post_ret (res_2 (v := .int .i32 (65533)) (x := .int .i64 (1)) rfl rfl rfl) ?_))
 have ha := next_all hw hn0 hm (by omega) hi1 hv0 hv hcb
 clear hv hcb
 obtain ⟨ha1, ha2, ha3⟩ := ha
 refine ⟨?_, hF.same⟩
 rw [ha3]
 first | (rw [if_pos (by omega)]; rfl) | (rw [if_neg (by omega)]; exact tuple_dec (by show v = ((v.toNat : Nat) : Int); omega) rfl)
 refine o_val (x_move rfl) (o_val (v := .bool (decide ((55296 : Int) ≤ (v : Int)))) (x_geq rfl rfl) (o_val (x_move rfl) ?_))
 refine o_splitd (d := 92) (p := (55296 : Int) ≤ (v : Int)) rfl (fun hg13 => ?_) (fun hg13 => ?_)
 refine o_val (x_move rfl) (o_val (v := .bool (decide ((v : Int) < (57344 : Int)))) (x_lss rfl rfl) (o_val (x_pickt rfl rfl) (o_val (x_pickf rfl rfl) (o_nil (e_seq ?_)))))
 refine c_splitd (d := 96) (p := (v : Int) < (57344 : Int)) rfl (fun hc7 => ?_) (fun hc7 => ?_)
 refine c_ift rfl (c_seq (c_region (o_val (x_assign rfl) (o_val (x_assign rfl) (o_nil (e_seq ?_))))))
 refine c_ret (e_ret (post_ret (res_2 (v := .int .i32 (65533)) (x := .int .i64 (1)) rfl rfl rfl) ?_))
 have ha := next_all hw hn0 hm (by omega) hi1 hv0 hv hcb
 clear hv hcb
 obtain ⟨ha1, ha2, ha3⟩ := ha
 refine ⟨?_, hF.same⟩
 rw [ha3]
 first | (rw [if_pos (by omega)]; rfl) | (rw [if_neg (by omega)]; exact tuple_dec (by show v = ((v.toNat : Nat) : Int); omega) rfl)
 refine c_iff rfl (c_skip (e_seq (c_seq (c_region (o_val (x_move rfl) ?_)))))
 refine o_val (v := .int .i32 (v)) (x_conv_int Tryz.underlying3 Tryz.underlying21 rfl (by have ha := next_all hw hn0 hm (by omega) hi1 hv0 hv hcb; clear hv hcb; rw [IntKind.wrap_i32]; omega)) ?_
 refine o_val (x_move rfl) (o_val (x_assign rfl) (o_val (x_assign rfl) (o_nil (e_seq ?_))))
 refine c_ret (e_ret (post_ret (res_2 (v := .int .i32 (v)) (x := .int .i64 ((n : Int))) rfl rfl rfl) ?_))
 have ha := next_all hw hn0 hm (by omega) hi1 hv0 hv hcb
 clear hv hcb
 obtain ⟨ha1, ha2, ha3⟩ := ha
 refine ⟨?_, hF.same⟩
 rw [ha3]
 first | (rw [if_pos (by omega)]; rfl) | (rw [if_neg (by omega)]; exact tuple_dec (by show v = ((v.toNat : Nat) : Int); omega) rfl)
 refine o_off (o_off (o_val (x_pickf rfl rfl) (o_val (x_pickf rfl rfl) (o_nil (e_seq (c_iff rfl (c_skip (e_seq (c_seq (c_region (o_val (x_move rfl) ?_)))))))))))
 refine o_val (v := .int .i32 (v)) (x_conv_int Tryz.underlying3 Tryz.underlying21 rfl (by have ha := next_all hw hn0 hm (by omega) hi1 hv0 hv hcb; clear hv hcb; rw [IntKind.wrap_i32]; omega)) ?_
 refine o_val (x_move rfl) (o_val (x_assign rfl) (o_val (x_assign rfl) (o_nil (e_seq ?_))))
 refine c_ret (e_ret (post_ret (res_2 (v := .int .i32 (v)) (x := .int .i64 ((n : Int))) rfl rfl rfl) ?_))
 have ha := next_all hw hn0 hm (by omega) hi1 hv0 hv hcb
 clear hv hcb
 obtain ⟨ha1, ha2, ha3⟩ := ha
 refine ⟨?_, hF.same⟩
 rw [ha3]
 first | (rw [if_pos (by omega)]; rfl) | (rw [if_neg (by omega)]; exact tuple_dec (by show v = ((v.toNat : Nat) : Int); omega) rfl)
 refine o_off (o_off (o_val (x_pickf rfl rfl) (o_val (x_pickf rfl rfl) (o_val (x_move rfl) (o_val (x_move rfl) (o_val (v := .bool (decide ((1114111 : Int) < (v : Int)))) (x_gtr rfl rfl) (o_val (x_pickf rfl rfl) (o_val (x_move rfl) ?_))))))))
 refine o_splitd (d := 89) (p := (1114111 : Int) < (v : Int)) rfl (fun hg14 => ?_) (fun hg14 => ?_)
 refine o_off (o_off (o_off (o_off (o_off (o_off (o_val (x_pickt rfl rfl) (o_nil (e_seq (c_ift rfl (c_seq (c_region (o_val (x_assign rfl) (o_val (x_assign rfl) ?_)))))))))))))
 refine o_nil (e_seq ?_)
 refine c_ret (e_ret (post_ret (res_2 (v := .int .i32 (65533)) (x := .int .i64 (1)) rfl rfl rfl) ?_))
 have ha := next_all hw hn0 hm (by omega) hi1 hv0 hv hcb
 clear hv hcb
 obtain ⟨ha1, ha2, ha3⟩ := ha
 refine ⟨?_, hF.same⟩
 rw [ha3]
 first | (rw [if_pos (by omega)]; rfl) | (rw [if_neg (by omega)]; exact tuple_dec (by show v = ((v.toNat : Nat) : Int); omega) rfl)
 refine o_val (x_move rfl) (o_val (v := .bool (decide ((55296 : Int) ≤ (v : Int)))) (x_geq rfl rfl) (o_val (x_move rfl) ?_))
 refine o_splitd (d := 92) (p := (55296 : Int) ≤ (v : Int)) rfl (fun hg15 => ?_) (fun hg15 => ?_)
 refine o_val (x_move rfl) (o_val (v := .bool (decide ((v : Int) < (57344 : Int)))) (x_lss rfl rfl) (o_val (x_pickt rfl rfl) (o_val (x_pickf rfl rfl) (o_nil (e_seq ?_)))))
 refine c_splitd (d := 96) (p := (v : Int) < (57344 : Int)) rfl (fun hc7 => ?_) (fun hc7 => ?_)
 refine c_ift rfl (c_seq (c_region (o_val (x_assign rfl) (o_val (x_assign rfl) (o_nil (e_seq ?_))))))
 refine c_ret (e_ret (post_ret (res_2 (v := .int .i32 (65533)) (x := .int .i64 (1)) rfl rfl rfl) ?_))
 have ha := next_all hw hn0 hm (by omega) hi1 hv0 hv hcb
 clear hv hcb
 obtain ⟨ha1, ha2, ha3⟩ := ha
 refine ⟨?_, hF.same⟩
 rw [ha3]
 first | (rw [if_pos (by omega)]; rfl) | (rw [if_neg (by omega)]; exact tuple_dec (by show v = ((v.toNat : Nat) : Int); omega) rfl)
 refine c_iff rfl (c_skip (e_seq (c_seq (c_region (o_val (x_move rfl) ?_)))))
 refine o_val (v := .int .i32 (v)) (x_conv_int Tryz.underlying3 Tryz.underlying21 rfl (by have ha := next_all hw hn0 hm (by omega) hi1 hv0 hv hcb; clear hv hcb; rw [IntKind.wrap_i32]; omega)) ?_
 refine o_val (x_move rfl) (o_val (x_assign rfl) (o_val (x_assign rfl) (o_nil (e_seq ?_))))
 refine c_ret (e_ret (post_ret (res_2 (v := .int .i32 (v)) (x := .int .i64 ((n : Int))) rfl rfl rfl) ?_))
 have ha := next_all hw hn0 hm (by omega) hi1 hv0 hv hcb
 clear hv hcb
 obtain ⟨ha1, ha2, ha3⟩ := ha
 refine ⟨?_, hF.same⟩
 rw [ha3]
 first | (rw [if_pos (by omega)]; rfl) | (rw [if_neg (by omega)]; exact tuple_dec (by show v = ((v.toNat : Nat) : Int); omega) rfl)
 refine o_off (o_off (o_val (x_pickf rfl rfl) (o_val (x_pickf rfl rfl) (o_nil (e_seq (c_iff rfl (c_skip (e_seq (c_seq (c_region (o_val (x_move rfl) ?_)))))))))))
 refine o_val (v := .int .i32 (v)) (x_conv_int Tryz.underlying3 Tryz.underlying21 rfl (by have ha := next_all hw hn0 hm (by omega) hi1 hv0 hv hcb; clear hv hcb; rw [IntKind.wrap_i32]; omega)) ?_
 refine o_val (x_move rfl) (o_val (x_assign rfl) (o_val (x_assign rfl) (o_nil (e_seq ?_))))
 refine c_ret (e_ret (post_ret (res_2 (v := .int .i32 (v)) (x := .int .i64 ((n : Int))) rfl rfl rfl) ?_))
 have ha := next_all hw hn0 hm (by omega) hi1 hv0 hv hcb
 clear hv hcb
 obtain ⟨ha1, ha2, ha3⟩ := ha
 refine ⟨?_, hF.same⟩
 rw [ha3]
 first | (rw [if_pos (by omega)]; rfl) | (rw [if_neg (by omega)]; exact tuple_dec (by show v = ((v.toNat : Nat) : Int); omega) rfl)
def goodB (s : Str) (p : Nat) : Bool := !(decide ((Utf8.decode (bs s) p).1 = 65533) && decide ((Utf8.decode (bs s) p).2 = 1))
set_option maxHeartbeats 1000000 in
set_option maxRecDepth 10000 in
theorem good_c (s : Str) (p : Nat) (hp : p < s.length) (hl : s.length ≤ 140737488355328) (w0 : World) : Calls Tryz.prog 114 #[.string (bs s), .int .i64 (p : Int)] w0 (Ret fun v w' => v = .bool (goodB s p) ∧ Same [] w0 w') := by
 refine calls_start Tryz.func114 rfl Tryz.ntmps114 (Nat.le_of_ble_eq_true rfl) (args_2 _ _) ?_
 have hF := FR.start w0 []
 refine c_seq (c_region (o_val (x_assign rfl) (o_nil (e_seq (c_seq (c_region (o_val (x_move rfl) (o_val (x_move rfl) ?_))))))))
 refine o_call (next_c s p (by omega) hl _) (x_call2 en_115 rfl rfl rfl) ?_
 rintro _ w ⟨rfl, hE⟩
 replace hF := hF.ext hE
 clear hE
 refine o_val (x_move rfl) (o_val (x_extract rfl rfl) (o_val (x_extract rfl rfl) (o_val (x_assign rfl) (o_val (x_assign rfl) (o_nil (e_seq (c_seq (c_region (o_val (x_move rfl) ?_)))))))))
 refine o_val (v := .bool true) (run_true (x_gtr rfl rfl) (by have := decode_pos s p; omega)) ?_
 refine o_val (x_move rfl) (o_val (x_move rfl) (o_val (v := .bool (decide ((((Utf8.decode (bs s) p).1 : Int) : Int) = (65533 : Int)))) (x_eql rfl rfl) (o_val (x_move rfl) ?_)))
 refine o_splitd (d := 18) (p := (((Utf8.decode (bs s) p).1 : Int) : Int) = (65533 : Int)) rfl (fun hg0 => ?_) (fun hg0 => ?_)
 refine o_val (x_move rfl) (o_val (v := .bool (decide ((((Utf8.decode (bs s) p).2 : Int) : Int) = (1 : Int)))) (x_eql rfl rfl) (o_val (x_pickt rfl rfl) (o_val (v := .bool (decide (¬ ((((Utf8.decode (bs s) p).2 : Int) : Int) = (1 : Int))))) (x_notd rfl) (o_val (x_pickt rfl rfl) (o_val (x_assign rfl) (o_nil (e_seq ?_)))))))
 refine c_ret (e_ret (post_ret (res_1 (v := .bool (decide (¬ ((((Utf8.decode (bs s) p).2 : Int) : Int) = (1 : Int))))) rfl rfl) ?_))
 refine ⟨congrArg Value.bool ?_, hF.same⟩
 unfold goodB
 have e1 : decide ((((Utf8.decode (bs s) p).1 : Nat) : Int) = 65533) = decide ((Utf8.decode (bs s) p).1 = 65533) := decide_eq_decide.2 (by omega)
 have e2 : decide ((((Utf8.decode (bs s) p).2 : Nat) : Int) = 1) = decide ((Utf8.decode (bs s) p).2 = 1) := decide_eq_decide.2 (by omega)
 · first | (rw [← e1, ← e2]; simp_all; done) | (rw [← e1]; simp_all; done) | (simp_all; omega)
 refine o_off (o_off (o_val (x_pickf rfl rfl) (o_val (v := .bool true) (x_not (b := false) rfl) (o_val (x_pickt rfl rfl) (o_val (x_assign rfl) (o_nil (e_seq ?_)))))))
 refine c_ret (e_ret (post_ret (res_1 (v := .bool true) rfl rfl) ?_))
 refine ⟨congrArg Value.bool ?_, hF.same⟩
 unfold goodB
 have e1 : decide ((((Utf8.decode (bs s) p).1 : Nat) : Int) = 65533) = decide ((Utf8.decode (bs s) p).1 = 65533) := decide_eq_decide.2 (by omega)
 have e2 : decide ((((Utf8.decode (bs s) p).2 : Nat) : Int) = 1) = decide ((Utf8.decode (bs s) p).2 = 1) := decide_eq_decide.2 (by omega)
 · first | (rw [← e1, ← e2]; simp_all; done) | (rw [← e1]; simp_all; done) | (simp_all; omega)
theorem valid_at {s : Str} {q : Nat} (h : q < s.length) : Lib.validD (s.drop q) = if goodB s q = false then false else Lib.validD (s.drop (q + (Utf8.decode (bs s) q).2)) := by
  have hne : s.drop q ≠ [] := by intro e; have := congrArg List.length e; simp at this; omega
  rw [Lib.validD_step _ hne, decode_drop, List.drop_drop]
  unfold goodB
  by_cases h1 : (Utf8.decode (bs s) q).1 = 65533 <;> by_cases h2 : (Utf8.decode (bs s) q).2 = 1 <;> simp [h1, h2]
set_option maxHeartbeats 1000000 in
set_option maxRecDepth 10000 in
theorem rvalid_c (s : Str) (hl : s.length ≤ 140737488355328) (w0 : World) : Calls Tryz.prog 88 #[.string (bs s)] w0 (Ret fun v w' => ∃ n, v = .tuple #[.int .i64 n, .bool (Lib.validD s)] ∧ Same [] w0 w') := by
 refine calls_start Tryz.func88 rfl Tryz.ntmps88 (Nat.le_of_ble_eq_true rfl) (args_1 _) ?_
 have hF := FR.start w0 []
 refine c_seq (c_region (o_val (x_assign rfl) (o_val (x_assign rfl) (o_nil (e_seq (c_seq (c_region (o_val (x_assign rfl) (o_nil (e_seq (c_seq (c_block ?_))))))))))))
 refine c_loop (fun μ σ w => ∃ (q : Nat), μ = s.length - q ∧ (q ≤ s.length) ∧ (Lib.validD s = Lib.validD (s.drop q)) ∧ AllEq σ [(0, .string (bs (s))), (4, .int .i64 ((q : Int)))] ∧ FR w0 [] [] w) _ ⟨0, rfl, (Nat.zero_le _), (by rw [List.drop_zero]), ⟨rfl, rfl, trivial⟩, hF⟩ ?_
 clear hF; rintro μ σ w ⟨q, rfl, hq, hv, hs, hF⟩
 refine Cg.slots hs ?_
 clear hs; intro σ
 refine c_seq (c_seq (c_region (o_val (x_move rfl) (o_val (x_move rfl) (o_val (v := .int .i64 ((((s) : Str).length : Int))) (x_len_string Tryz.underlying9 rfl) (o_val (v := .bool (decide (((q : Int) : Int) < ((((s) : Str).length : Int) : Int)))) (x_lss rfl rfl) (o_nil (e_seq ?_))))))))
 refine c_splitd (d := 11) (p := ((q : Int) : Int) < ((((s) : Str).length : Int) : Int)) rfl (fun hc0 => ?_) (fun hc0 => ?_)
 refine c_ift rfl (c_skip (e_seq (c_block (c_seq (c_region (o_val (x_move rfl) (o_val (x_move rfl) ?_)))))))
 refine o_call (good_c s q (by omega) hl _) (x_call2 en_114 rfl rfl rfl) ?_
 rintro _ w ⟨rfl, hE⟩
 replace hF := hF.ext hE
 clear hE
 refine o_val (x_assign rfl) (o_nil (e_seq (c_seq (c_seq (c_region (o_val (x_move rfl) (o_val (v := .bool (!(goodB s q))) (x_not rfl) (o_nil (e_seq ?_)))))))))
 refine c_split (d := 16) (b := !(goodB s q)) rfl (fun hc1 => ?_) (fun hc1 => ?_)
 refine c_ift rfl (c_seq (c_region (o_val (x_move rfl) (o_val (x_assign rfl) (o_val (x_assign rfl) (o_nil (e_seq ?_)))))))
 refine c_ret (e_ret (post_ret (res_2 (v := .int .i64 ((q : Int))) (x := .bool false) rfl rfl rfl) ?_))
 exact ⟨_, by rw [hv, valid_at (by omega), if_pos (by simp_all)], hF.same⟩
 refine c_iff rfl (c_skip (e_seq (c_seq (c_region (o_val (x_move rfl) (o_val (x_move rfl) ?_))))))
 refine o_call (next_c s q (by omega) hl _) (x_call2 en_115 rfl rfl rfl) ?_
 rintro _ w ⟨rfl, hE⟩
 replace hF := hF.ext hE
 clear hE
 refine o_val (x_move rfl) (o_val (x_extract rfl rfl) (o_val (x_extract rfl rfl) (o_val (x_assign rfl) (o_val (x_assign rfl) (o_nil (e_seq (c_region (o_val (x_move rfl) (o_val (x_move rfl) ?_)))))))))
 refine o_val (v := .int .i64 (((q + (Utf8.decode (bs s) q).2 : Nat) : Int))) (x_add rfl rfl (by have := decode_end s q (by omega); exact wrap_to (by omega) (by omega) (by omega))) ?_
 refine o_val (x_assign rfl) (o_nil (e_block ?_))
 refine e_inv ⟨_, ?_, q + (Utf8.decode (bs s) q).2, rfl, (decode_end s q (by omega)), (by rw [hv, valid_at (by omega), if_neg (by simp_all)]), ⟨rfl, rfl, trivial⟩, hF⟩
 have := decode_pos s q; have := decode_end s q (by omega); omega
 refine c_iff rfl ?_
 refine c_exit (e_exit rfl ?_)
 refine e_seq (c_seq (c_region (o_val (x_move rfl) (o_val (v := .int .i64 ((((s) : Str).length : Int))) (x_len_string Tryz.underlying9 rfl) (o_val (x_assign rfl) (o_val (x_assign rfl) (o_nil (e_seq ?_))))))))
 refine c_ret (e_ret (post_ret (res_2 (v := .int .i64 ((((s) : Str).length : Int))) (x := .bool true) rfl rfl rfl) ?_))
 exact ⟨_, by rw [hv, List.drop_eq_nil_of_le (by omega)]; rfl, hF.same⟩
set_option maxHeartbeats 1000000 in
set_option maxRecDepth 10000 in
theorem utf_c (s : Str) (hl : s.length ≤ 140737488355328) (w0 : World) : Calls Tryz.prog 86 #[.string (bs s)] w0 (Ret fun v w' => v = .bool (Lib.validD s) ∧ Same [] w0 w') := by
 refine calls_start Tryz.func86 rfl Tryz.ntmps86 (Nat.le_of_ble_eq_true rfl) (args_1 _) ?_
 have hF := FR.start w0 []
 refine c_seq (c_region (o_val (x_assign rfl) (o_nil (e_seq (c_seq (c_region (o_val (x_move rfl) ?_)))))))
 refine o_call (rvalid_c s hl _) (x_call1 en_88 rfl rfl) ?_
 rintro _ w ⟨nn, rfl, hE⟩
 replace hF := hF.ext hE
 clear hE
 refine o_val (x_move rfl) (o_val (x_extract rfl rfl) (o_val (x_extract rfl rfl) (o_val (x_assign rfl) (o_val (x_assign rfl) (o_nil (e_seq (c_seq (c_region (o_val (x_move rfl) (o_val (x_assign rfl) (o_nil (e_seq ?_))))))))))))
 refine c_ret (e_ret (post_ret (res_1 (v := .bool (Lib.validD s)) rfl rfl) ?_))
 exact ⟨rfl, hF.same⟩
end Go.Scarf
namespace Go.Scarf
open Go.RowKit Go.Proofs
theorem res_6 {P : Program} {fn : Func} {n : Nat} {s : Nat → Value} {w : World} {t1 t2 t3 t4 t5 t6 : Nat} {v1 v2 v3 v4 v5 v6 : Value} (h : fn.results = #[.tmp t1, .tmp t2, .tmp t3, .tmp t4, .tmp t5, .tmp t6]) (h1 : ev n s (.tmp t1) = v1) (h2 : ev n s (.tmp t2) = v2) (h3 : ev n s (.tmp t3) = v3) (h4 : ev n s (.tmp t4) = v4) (h5 : ev n s (.tmp t5) = v5) (h6 : ev n s (.tmp t6) = v6) :
    (results fn (mkA n s).tmps).run P w = .ok (.tuple #[v1, v2, v3, v4, v5, v6]) w := by
  have : (results fn (mkA n s).tmps).run P w = .ok (.tuple #[(mkA n s).tmps.getD t1 undef, (mkA n s).tmps.getD t2 undef, (mkA n s).tmps.getD t3 undef, (mkA n s).tmps.getD t4 undef, (mkA n s).tmps.getD t5 undef, (mkA n s).tmps.getD t6 undef]) w := by simp [results, h]
  rw [this, mkA_getD, mkA_getD, mkA_getD, mkA_getD, mkA_getD, mkA_getD, h1, h2, h3, h4, h5, h6]
theorem all_end {s : Str} {j : Nat} (hj : s.length ≤ j) (h : (s.take j).all isDig = true) : decide ((0 : Int) < ((s : Str).length : Int)) = digs s := by
  rw [List.take_of_length_le hj] at h
  rw [len_pos, digs, h, Bool.true_and]
theorem digs_no {s : Str} {j : Nat} (hj : j < s.length) (h : isDig s[j] = false) : digs s = false := by rw [digs, not_all_of hj h]; rfl
theorem dig_of {c : UInt8} (h1 : ¬ ((c.toNat : Nat) : Int) < 48) (h2 : ¬ (57 : Int) < ((c.toNat : Nat) : Int)) : isDig c = true := by
  unfold isDig; simp only [Bool.and_eq_true, decide_eq_true_eq]; omega
theorem dig_not {c : UInt8} (h : ((c.toNat : Nat) : Int) < 48 ∨ (57 : Int) < ((c.toNat : Nat) : Int)) : isDig c = false := by
  unfold isDig; simp only [Bool.and_eq_false_iff, decide_eq_false_iff_not]; omega
set_option maxHeartbeats 1000000 in
set_option maxRecDepth 10000 in
theorem rdigits_c (s : Str) (hl : s.length ≤ 140737488355328) (w0 : World) : Calls Tryz.prog 144 #[.string (bs s)] w0 (Ret fun v w' => v = .bool (digs s) ∧ Same [] w0 w') := by
 refine calls_start Tryz.func144 rfl Tryz.ntmps144 (Nat.le_of_ble_eq_true rfl) (args_1 _) ?_
 have hF := FR.start w0 []
 refine c_seq (c_region (o_val (x_assign rfl) (o_nil (e_seq (c_seq (c_seq (c_region (o_val (x_assign rfl) (o_nil (e_seq (c_block ?_)))))))))))
 refine c_loop (fun μ σ w => ∃ (j : Nat), μ = s.length - j ∧ (j ≤ s.length) ∧ ((s.take j).all isDig = true) ∧ AllEq σ [(0, .string (bs (s))), (3, .int .i64 ((j : Int)))] ∧ FR w0 [] [] w) _ ⟨0, rfl, (Nat.zero_le _), (by simp), ⟨rfl, rfl, trivial⟩, hF⟩ ?_
 clear hF; rintro μ σ w ⟨j, rfl, hj, ha, hs, hF⟩
 refine Cg.slots hs ?_
 clear hs; intro σ
 refine c_seq (c_seq (c_region (o_val (x_move rfl) (o_val (x_move rfl) (o_val (v := .int .i64 ((((s) : Str).length : Int))) (x_len_string Tryz.underlying9 rfl) (o_val (v := .bool (decide (((j : Int) : Int) < ((((s) : Str).length : Int) : Int)))) (x_lss rfl rfl) (o_nil (e_seq ?_))))))))
 refine c_splitd (d := 7) (p := ((j : Int) : Int) < ((((s) : Str).length : Int) : Int)) rfl (fun hc0 => ?_) (fun hc0 => ?_)
 refine c_ift rfl (c_skip (e_seq (c_seq (c_block (c_seq (c_region (o_val (x_move rfl) (o_val (x_move rfl) (o_val (v := .int .u8 ((((s : Str)[j]'(by omega)).toNat : Int))) (x_index (j) Tryz.underlying9 rfl rfl (by omega)) (o_val (v := .bool (decide (((((s : Str)[j]'(by omega)).toNat : Int) : Int) < (48 : Int)))) (x_lss rfl rfl) (o_val (x_move rfl) ?_)))))))))))
 refine o_splitd (d := 14) (p := ((((s : Str)[j]'(by omega)).toNat : Int) : Int) < (48 : Int)) rfl (fun hg0 => ?_) (fun hg0 => ?_)
 refine o_off (o_off (o_off (o_off (o_val (x_pickt rfl rfl) (o_nil (e_seq (c_ift rfl (c_seq (c_region (o_val (x_assign rfl) (o_nil (e_seq ?_))))))))))))
 refine c_ret (e_ret (post_ret (res_1 (v := .bool false) rfl rfl) ?_))
 exact ⟨congrArg Value.bool (digs_no (j := j) (by omega) (dig_not (.inl (by assumption)))).symm, hF.same⟩
 refine o_val (x_move rfl) (o_val (x_move rfl) (o_val (v := .int .u8 ((((s : Str)[j]'(by omega)).toNat : Int))) (x_index (j) Tryz.underlying9 rfl rfl (by omega)) (o_val (v := .bool (decide ((57 : Int) < ((((s : Str)[j]'(by omega)).toNat : Int) : Int)))) (x_gtr rfl rfl) (o_val (x_pickf rfl rfl) (o_nil (e_seq ?_))))))
 refine c_splitd (d := 19) (p := (57 : Int) < ((((s : Str)[j]'(by omega)).toNat : Int) : Int)) rfl (fun hc1 => ?_) (fun hc1 => ?_)
 refine c_ift rfl (c_seq (c_region (o_val (x_assign rfl) (o_nil (e_seq ?_)))))
 refine c_ret (e_ret (post_ret (res_1 (v := .bool false) rfl rfl) ?_))
 exact ⟨congrArg Value.bool (digs_no (j := j) (by omega) (dig_not (.inr (by assumption)))).symm, hF.same⟩
 refine c_iff rfl (c_skip (e_block (e_seq (c_region (o_val (x_move rfl) (o_val (v := .int .i64 (((j + 1 : Nat) : Int))) (x_add rfl rfl (wrap_to (by omega) (by omega) (by omega))) (o_val (x_assign rfl) (o_nil ?_))))))))
 refine e_inv ⟨_, ?_, j + 1, rfl, (by omega), (all_take_succ (by omega) ha (dig_of (by assumption) (by assumption))), ⟨rfl, rfl, trivial⟩, hF⟩
 omega
 refine c_iff rfl ?_
 refine c_exit (e_exit rfl ?_)
 refine e_seq (c_seq (c_region (o_val (x_move rfl) (o_val (v := .int .i64 ((((s) : Str).length : Int))) (x_len_string Tryz.underlying9 rfl) (o_val (v := .bool (decide ((0 : Int) < ((((s) : Str).length : Int) : Int)))) (x_gtr rfl rfl) (o_val (x_assign rfl) (o_nil (e_seq ?_))))))))
 refine c_ret (e_ret (post_ret (res_1 (v := .bool (decide ((0 : Int) < ((((s) : Str).length : Int) : Int)))) rfl rfl) ?_))
 exact ⟨congrArg Value.bool (all_end (by omega) ha), hF.same⟩
set_option maxHeartbeats 1000000 in
set_option maxRecDepth 10000 in
theorem nought_c (x : Num) (w0 : World) : Calls Tryz.prog 142 #[numV x] w0 (Ret fun v w' => v = .bool (decide (x = Num.zero)) ∧ Same [] w0 w') := by
 refine calls_start Tryz.func142 rfl Tryz.ntmps142 (Nat.le_of_ble_eq_true rfl) (args_1 _) ?_
 have hF := FR.start w0 []
 refine c_seq (c_region ?_)
 refine o_box (v := .agg #[.bool (x.neg), .string (bs (x.digits)), .int .i64 (x.exp)]) (cs := #[.bool (x.neg), .string (bs (x.digits)), .int .i64 (x.exp)]) hF rfl rfl ?_
 clear hF; rintro b1 w hb1 hF -
 refine o_val (x_assign rfl) (o_nil (e_seq (c_seq (c_region (o_val (v := .agg #[.bool (x.neg), .string (bs (x.digits)), .int .i64 (x.exp)]) (x_loadS (l := [.bool (x.neg), .string (bs (x.digits)), .int .i64 (x.exp)]) Tryz.isAgg63 Tryz.sizeOf63 rfl rfl (hF.cellsAll 0 rfl)) ?_)))))
 refine o_val (w' := w) (v := .agg #[.bool false, .string (bs ([])), .int .i64 (0)]) (by kernel_rfl) ?_
 refine o_val (v := .bool (decide (x = Num.zero))) (x_eqlN (a := x) (b := Num.zero) rfl rfl) (o_val (x_assign rfl) (o_nil (e_seq ?_)))
 refine c_ret (e_ret (post_ret (res_1 (v := .bool (decide (x = Num.zero))) rfl rfl) ?_))
 exact ⟨rfl, hF.same⟩
set_option maxHeartbeats 1000000 in
set_option maxRecDepth 10000 in
theorem rright_c (x : Num) (hl : x.digits.length ≤ 140737488355328) (w0 : World) : Calls Tryz.prog 113 #[numV x] w0 (Ret fun v w' => v = .bool (rightN x) ∧ Same [] w0 w') := by
 refine calls_start Tryz.func113 rfl Tryz.ntmps113 (Nat.le_of_ble_eq_true rfl) (args_1 _) ?_
 have hF := FR.start w0 []
 refine c_seq (c_region ?_)
 refine o_box (v := .agg #[.bool (x.neg), .string (bs (x.digits)), .int .i64 (x.exp)]) (cs := #[.bool (x.neg), .string (bs (x.digits)), .int .i64 (x.exp)]) hF rfl rfl ?_
 clear hF; rintro b1 w hb1 hF -
 refine o_val (x_assign rfl) (o_nil (e_seq (c_seq (c_seq (c_region (o_val (v := .agg #[.bool (x.neg), .string (bs (x.digits)), .int .i64 (x.exp)]) (x_loadS (l := [.bool (x.neg), .string (bs (x.digits)), .int .i64 (x.exp)]) Tryz.isAgg63 Tryz.sizeOf63 rfl rfl (hF.cellsAll 0 rfl)) ?_))))))
 refine o_call (nought_c x _) (x_call1 en_142 rfl rfl) ?_
 rintro _ w ⟨rfl, hE⟩
 replace hF := hF.ext hE
 clear hE
 refine o_nil (e_seq ?_)
 refine c_splitd (d := 6) (p := x = Num.zero) rfl (fun hc0 => ?_) (fun hc0 => ?_)
 refine c_ift rfl (c_seq (c_region (o_val (x_assign rfl) (o_nil (e_seq ?_)))))
 refine c_ret (e_ret (post_ret (res_1 (v := .bool true) rfl rfl) ?_))
 exact ⟨by rw [rightN_zero hc0], hF.same⟩
 refine c_iff rfl (c_skip (e_seq (c_seq (c_region (o_val (v := .pointer (some ⟨b1, 1, none⟩)) (x_fieldAddrO fa_63_1 rfl) (o_val (v := .string (bs (x.digits))) (x_load Tryz.isAgg9 rfl (hF.cell 0 rfl rfl)) ?_))))))
 refine o_call (rdigits_c (x.digits) (by omega) _) (x_call1 en_144 rfl rfl) ?_
 rintro _ w ⟨rfl, hE⟩
 replace hF := hF.ext hE
 clear hE
 refine o_val (x_assign rfl) (o_nil (e_seq (c_seq (c_region (o_val (v := .pointer (some ⟨b1, 1, none⟩)) (x_fieldAddrO fa_63_1 rfl) (o_val (v := .string (bs (x.digits))) (x_load Tryz.isAgg9 rfl (hF.cell 0 rfl rfl)) (o_val (v := .int .i64 ((((x.digits) : Str).length : Int))) (x_len_string Tryz.underlying9 rfl) (o_val (x_assign rfl) (o_nil (e_seq (c_seq (c_region (o_val (x_move rfl) ?_)))))))))))))
 refine o_val (x_move rfl) ?_
 refine o_split (d := 14) (b := digs (x.digits)) rfl (fun hg0 => ?_) (fun hg0 => ?_)
 refine o_val (x_move rfl) (o_val (v := .bool (decide (((((x.digits) : Str).length : Int) : Int) ≤ (1000 : Int)))) (x_leq rfl rfl) (o_val (x_pickt rfl rfl) (o_val (x_move rfl) ?_)))
 refine o_splitd (d := 18) (p := ((((x.digits) : Str).length : Int) : Int) ≤ (1000 : Int)) rfl (fun hg1 => ?_) (fun hg1 => ?_)
 have hpos : 0 < x.digits.length := List.length_pos_iff.2 (digs_ne (by assumption))
 refine o_val (v := .pointer (some ⟨b1, 1, none⟩)) (x_fieldAddrO fa_63_1 rfl) (o_val (v := .string (bs (x.digits))) (x_load Tryz.isAgg9 rfl (hF.cell 0 rfl rfl)) (o_val (v := .int .u8 ((((x.digits : Str)[0]'(hpos)).toNat : Int))) (x_index (0) Tryz.underlying9 rfl rfl (hpos)) (o_val (v := .bool (decide (((((x.digits : Str)[0]'(hpos)).toNat : Int) : Int) ≠ (48 : Int)))) (x_neq rfl rfl) (o_val (x_pickt rfl rfl) (o_val (x_move rfl) ?_)))))
 refine o_splitd (d := 24) (p := ((((x.digits : Str)[0]'(hpos)).toNat : Int) : Int) ≠ (48 : Int)) rfl (fun hg2 => ?_) (fun hg2 => ?_)
 refine o_val (v := .pointer (some ⟨b1, 1, none⟩)) (x_fieldAddrO fa_63_1 rfl) (o_val (v := .string (bs (x.digits))) (x_load Tryz.isAgg9 rfl (hF.cell 0 rfl rfl)) (o_val (x_move rfl) (o_val (v := .int .i64 (((x.digits.length - 1 : Nat) : Int))) (x_sub rfl rfl (wrap_to (by omega) (by omega) (by omega))) (o_val (v := .int .u8 ((((x.digits : Str)[x.digits.length - 1]'(by omega)).toNat : Int))) (x_index (x.digits.length - 1) Tryz.underlying9 rfl rfl (by omega)) (o_val (v := .bool (decide (((((x.digits : Str)[x.digits.length - 1]'(by omega)).toNat : Int) : Int) ≠ (48 : Int)))) (x_neq rfl rfl) (o_val (x_pickt rfl rfl) (o_val (x_move rfl) ?_)))))))
 refine o_splitd (d := 32) (p := ((((x.digits : Str)[x.digits.length - 1]'(by omega)).toNat : Int) : Int) ≠ (48 : Int)) rfl (fun hg3 => ?_) (fun hg3 => ?_)
 refine o_val (v := .pointer (some ⟨b1, 2, none⟩)) (x_fieldAddrO fa_63_2 rfl) (o_val (v := .int .i64 (x.exp)) (x_load Tryz.isAgg3 rfl (hF.cell 0 rfl rfl)) (o_val (v := .bool (decide (((-1000000) : Int) ≤ (x.exp : Int)))) (x_geq rfl rfl) (o_val (x_pickt rfl rfl) (o_val (x_move rfl) ?_))))
 refine o_splitd (d := 37) (p := ((-1000000) : Int) ≤ (x.exp : Int)) rfl (fun hg4 => ?_) (fun hg4 => ?_)
 refine o_val (v := .pointer (some ⟨b1, 2, none⟩)) (x_fieldAddrO fa_63_2 rfl) (o_val (v := .int .i64 (x.exp)) (x_load Tryz.isAgg3 rfl (hF.cell 0 rfl rfl)) (o_val (v := .bool (decide ((x.exp : Int) ≤ (1000000 : Int)))) (x_leq rfl rfl) (o_val (x_pickt rfl rfl) (o_val (x_assign rfl) (o_nil (e_seq ?_))))))
 refine c_ret (e_ret (post_ret (res_1 (v := .bool (decide ((x.exp : Int) ≤ (1000000 : Int)))) rfl rfl) ?_))
 exact ⟨by rw [rightN_end hc0 (by rw [(by assumption : digs x.digits = true)]; rfl) (by omega) hpos (by assumption) (by omega) (by assumption), decide_eq_true (show (-1000000 : Int) ≤ x.exp by omega), Bool.true_and], hF.same⟩
 refine o_off (o_off (o_off (o_val (x_pickf rfl rfl) (o_val (x_assign rfl) (o_nil (e_seq ?_))))))
 refine c_ret (e_ret (post_ret (res_1 (v := .bool false) rfl rfl) ?_))
 exact ⟨by rw [rightN_end hc0 (by rw [(by assumption : digs x.digits = true)]; rfl) (by omega) hpos (by assumption) (by omega) (by assumption), decide_eq_false (show ¬ (-1000000 : Int) ≤ x.exp by omega), Bool.false_and], hF.same⟩
 refine o_off (o_off (o_off (o_val (x_pickf rfl rfl) (o_val (x_move rfl) (o_off (o_off (o_off (o_val (x_pickf rfl rfl) (o_val (x_assign rfl) (o_nil (e_seq ?_)))))))))))
 refine c_ret (e_ret (post_ret (res_1 (v := .bool false) rfl rfl) ?_))
 exact ⟨by rw [rightN_bad3 hc0 (by omega) (by omega)], hF.same⟩
 refine o_off (o_off (o_off (o_off (o_off (o_off (o_val (x_pickf rfl rfl) (o_val (x_move rfl) (o_off (o_off (o_off (o_val (x_pickf rfl rfl) (o_val (x_move rfl) (o_off ?_)))))))))))))
 refine o_off (o_off (o_val (x_pickf rfl rfl) (o_val (x_assign rfl) (o_nil (e_seq ?_)))))
 refine c_ret (e_ret (post_ret (res_1 (v := .bool false) rfl rfl) ?_))
 exact ⟨by rw [rightN_bad2 hc0 hpos (by omega)], hF.same⟩
 refine o_off (o_off (o_off (o_off (o_val (x_pickf rfl rfl) (o_val (x_move rfl) (o_off (o_off (o_off (o_off (o_off (o_off (o_val (x_pickf rfl rfl) (o_val (x_move rfl) ?_)))))))))))))
 refine o_off (o_off (o_off (o_val (x_pickf rfl rfl) (o_val (x_move rfl) (o_off (o_off (o_off (o_val (x_pickf rfl rfl) (o_val (x_assign rfl) (o_nil (e_seq ?_)))))))))))
 refine c_ret (e_ret (post_ret (res_1 (v := .bool false) rfl rfl) ?_))
 exact ⟨by rw [rightN_bad1 hc0 (by omega)], hF.same⟩
 refine o_off (o_off (o_val (x_pickf rfl rfl) (o_val (x_move rfl) (o_off (o_off (o_off (o_off (o_val (x_pickf rfl rfl) (o_val (x_move rfl) (o_off (o_off (o_off (o_off ?_)))))))))))))
 refine o_off (o_off (o_val (x_pickf rfl rfl) (o_val (x_move rfl) (o_off (o_off (o_off (o_val (x_pickf rfl rfl) (o_val (x_move rfl) (o_off (o_off (o_off (o_val (x_pickf rfl rfl) (o_val (x_assign rfl) ?_)))))))))))))
 refine o_nil (e_seq ?_)
 refine c_ret (e_ret (post_ret (res_1 (v := .bool false) rfl rfl) ?_))
 exact ⟨by rw [rightN_bad0 hc0 (by rw [(by assumption : digs x.digits = false)]; rfl)], hF.same⟩
theorem dig_slice : ∀ m : Nat, m < 10 → ((([48, 49, 50, 51, 52, 53, 54, 55, 56, 57] : Str).take (m + 1)).drop m) = [UInt8.ofNat (48 + m)] := by decide
def DecC (n : Int) : Prop := ∀ w0 : World, Calls Tryz.prog 143 #[.int .i64 n] w0 (Ret fun v w' => v = .string (bs (Lib.itoa n)) ∧ Same [] w0 w')
theorem dec_ge {m : Nat} (h : ¬ m < 10) : Lib.decDigits m = Lib.decDigits (m / 10) ++ [UInt8.ofNat (48 + m % 10)] := by rw [Lib.decDigits, dif_neg h]
theorem neg_tdiv_ (m : Nat) : (-(m : Int)).tdiv 10 = -((m / 10 : Nat) : Int) := by rw [Int.neg_tdiv]; rfl
theorem neg_tmod_ (m : Nat) : (-(m : Int)).tmod 10 = -((m % 10 : Nat) : Int) := by rw [Int.neg_tmod]; rfl
set_option maxHeartbeats 1000000 in
set_option maxRecDepth 10000 in
theorem dec_pos (m : Nat) (hm : (m : Int) ≤ 9223372036854775807) (ih : ∀ q : Nat, q < m → DecC (q : Int)) : DecC (m : Int) := by
 intro w0
 refine calls_start Tryz.func143 rfl Tryz.ntmps143 (Nat.le_of_ble_eq_true rfl) (args_1 _) ?_
 have hF := FR.start w0 []
 refine c_seq (c_region (o_val (x_assign rfl) (o_nil (e_seq (c_seq (c_region (o_val (x_assign rfl) (o_nil (e_seq (c_seq (c_seq (c_region (o_val (x_move rfl) ?_)))))))))))))
 refine o_val (v := .bool true) (run_true (x_geq rfl rfl) (by omega)) (o_val (x_move rfl) (o_val (x_move rfl) (o_val (v := .bool (decide (((m : Int) : Int) < (10 : Int)))) (x_lss rfl rfl) (o_val (x_pickt rfl rfl) (o_nil (e_seq ?_))))))
 refine c_splitd (d := 9) (p := ((m : Int) : Int) < (10 : Int)) rfl (fun hc0 => ?_) (fun hc0 => ?_)
 refine c_ift rfl (c_seq (c_region (o_val (x_move rfl) (o_val (x_move rfl) (o_val (x_move rfl) (o_val (v := .int .i64 (((m + 1 : Nat) : Int))) (x_add rfl rfl (wrap_to (by omega) (by omega) (by omega))) ?_))))))
 refine o_val (v := .string (bs ((([48, 49, 50, 51, 52, 53, 54, 55, 56, 57] : Str).take (m + 1)).drop (m)))) (x_slice2 (m) (m + 1) Tryz.underlying9 rfl rfl rfl (by first | (simp; omega) | omega) (by first | (simp; omega) | omega)) ?_
 refine o_val (x_assign rfl) (o_nil (e_seq ?_))
 refine c_ret (e_ret (post_ret (res_1 (v := .string (bs ((([48, 49, 50, 51, 52, 53, 54, 55, 56, 57] : Str).take (m + 1)).drop (m)))) rfl rfl) ?_))
 exact ⟨by rw [dig_slice m (by omega), Lib.itoa_nonneg, Lib.decDigits_one (by omega)], hF.same⟩
 refine c_iff rfl (c_skip (e_seq (c_seq (c_seq (c_region (o_val (x_move rfl) (o_val (v := .bool true) (run_true (x_gtr rfl rfl) (by omega)) (o_nil (e_seq (c_ift rfl (c_seq ?_)))))))))))
 refine c_drawF [] (.free 0 (.free 1 (.free 3 (.free 4 (.free 5 (.free 6 (.free 7 (.free 8 (.free 9 (.act 2 (.free 10 (.free 11 .nil)))))))))))) (by kernel_rfl) hF (by kernel_rfl) (by kernel_rfl) ?_
 clear hF; rintro w hF -
 refine ⟨fun wq => FR w0 [] [] wq, hF, ?_⟩
 refine f_free rfl (v := .int .i64 ((m : Int))) (fun w hC => x_move rfl) (f_free rfl (v := .int .i64 (((m / 10 : Nat) : Int))) (fun w hC => x_quo rfl rfl (by decide) (wrap_to rfl (by omega) (by omega))) (f_free rfl (v := .string (bs ([48, 49, 50, 51, 52, 53, 54, 55, 56, 57]))) (fun w hC => x_move rfl) (f_free rfl (v := .int .i64 ((m : Int))) (fun w hC => x_move rfl) (f_free rfl (v := .int .i64 (((m % 10 : Nat) : Int))) (fun w hC => x_rem rfl rfl (by decide) (rfl)) (f_free rfl (v := .int .i64 ((m : Int))) (fun w hC => x_move rfl) (f_free rfl (v := .int .i64 (((m % 10 : Nat) : Int))) (fun w hC => x_rem rfl rfl (by decide) (rfl)) (f_free rfl (v := .int .i64 (((m % 10 + 1 : Nat) : Int))) (fun w hC => x_add rfl rfl (wrap_to (by omega) (by omega) (by omega))) ?_)))))))
 refine f_free rfl (v := .string (bs ((([48, 49, 50, 51, 52, 53, 54, 55, 56, 57] : Str).take (m % 10 + 1)).drop (m % 10)))) (fun w hC => x_slice2 (m % 10) (m % 10 + 1) Tryz.underlying9 rfl rfl rfl (by first | (simp; omega) | omega) (by first | (simp; omega) | omega)) ?_
 refine f_call rfl (ih (m / 10) (by omega) _) (x_call1 en_143 rfl rfl) ?_
 rintro _ w ⟨rfl, hE⟩
 replace hF := hF.ext hE
 clear hE
 refine ⟨hF, ?_⟩
 refine f_free rfl (v := .string (bs ((Lib.itoa ((m / 10 : Nat) : Int)) ++ ((([48, 49, 50, 51, 52, 53, 54, 55, 56, 57] : Str).take (m % 10 + 1)).drop (m % 10))))) (fun w hC => x_cat rfl rfl (by have := Lib.itoa_length_le ((m / 10 : Nat) : Int) (by omega) (by omega); rw [dig_slice _ (by omega)]; exact Nat.le_trans (Nat.add_le_add_right this 1) (by decide))) ?_
 refine f_free rfl (v := .string (bs ((Lib.itoa ((m / 10 : Nat) : Int)) ++ ((([48, 49, 50, 51, 52, 53, 54, 55, 56, 57] : Str).take (m % 10 + 1)).drop (m % 10))))) (fun w hC => x_assign rfl) (d_nil (e_seq ?_))
 refine c_ret (e_ret (post_ret (res_1 (v := .string (bs ((Lib.itoa ((m / 10 : Nat) : Int)) ++ ((([48, 49, 50, 51, 52, 53, 54, 55, 56, 57] : Str).take (m % 10 + 1)).drop (m % 10))))) rfl rfl) ?_))
 exact ⟨by rw [dig_slice _ (by omega), Lib.itoa_nonneg, Lib.itoa_nonneg, dec_ge (m := m) (by omega)], hF.same⟩
set_option maxHeartbeats 1000000 in
set_option maxRecDepth 10000 in
theorem dec_neg (m : Nat) (h1 : 1 ≤ m) (hm : (m : Int) ≤ 9223372036854775808) (ih : ∀ q : Nat, q < m → 1 ≤ q → DecC (-(q : Int))) : DecC (-(m : Int)) := by
 intro w0
 refine calls_start Tryz.func143 rfl Tryz.ntmps143 (Nat.le_of_ble_eq_true rfl) (args_1 _) ?_
 have hF := FR.start w0 []
 refine c_seq (c_region (o_val (x_assign rfl) (o_nil (e_seq (c_seq (c_region (o_val (x_assign rfl) (o_nil (e_seq (c_seq (c_seq (c_region (o_val (x_move rfl) ?_)))))))))))))
 refine o_val (v := .bool false) (run_false (x_geq rfl rfl) (by omega)) (o_val (x_move rfl) (o_off (o_off (o_val (x_pickf rfl rfl) (o_nil (e_seq (c_iff rfl (c_skip (e_seq (c_seq (c_seq (c_region (o_val (x_move rfl) ?_)))))))))))))
 refine o_val (v := .bool false) (run_false (x_gtr rfl rfl) (by omega)) (o_nil (e_seq (c_iff rfl (c_skip (e_seq (c_seq (c_seq (c_region (o_val (x_move rfl) (o_val (v := .bool (decide (((-10) : Int) < (-(m : Int) : Int)))) (x_gtr rfl rfl) (o_nil (e_seq ?_))))))))))))
 refine c_splitd (d := 29) (p := ((-10) : Int) < (-(m : Int) : Int)) rfl (fun hc2 => ?_) (fun hc2 => ?_)
 refine c_ift rfl (c_seq (c_region (o_val (x_move rfl) (o_val (x_move rfl) (o_val (v := .int .i64 ((m : Int))) (x_neg rfl (wrap_to (by omega) (by omega) (by omega))) (o_val (x_move rfl) (o_val (v := .int .i64 ((m : Int))) (x_neg rfl (wrap_to (by omega) (by omega) (by omega))) (o_val (v := .int .i64 (((m + 1 : Nat) : Int))) (x_add rfl rfl (wrap_to (by omega) (by omega) (by omega))) ?_))))))))
 refine o_val (v := .string (bs ((([48, 49, 50, 51, 52, 53, 54, 55, 56, 57] : Str).take (m + 1)).drop (m)))) (x_slice2 (m) (m + 1) Tryz.underlying9 rfl rfl rfl (by first | (simp; omega) | omega) (by first | (simp; omega) | omega)) ?_
 refine o_val (v := .string (bs (([45]) ++ ((([48, 49, 50, 51, 52, 53, 54, 55, 56, 57] : Str).take (m + 1)).drop (m))))) (x_cat rfl rfl (by rw [dig_slice _ (by omega)]; simp)) ?_
 refine o_val (x_assign rfl) (o_nil (e_seq ?_))
 refine c_ret (e_ret (post_ret (res_1 (v := .string (bs (([45]) ++ ((([48, 49, 50, 51, 52, 53, 54, 55, 56, 57] : Str).take (m + 1)).drop (m))))) rfl rfl) ?_))
 exact ⟨by rw [dig_slice m (by omega), Lib.itoa_neg m (by omega), Lib.decDigits_one (by omega)]; rfl, hF.same⟩
 refine c_iff rfl (c_skip (e_seq (c_seq ?_)))
 refine c_drawF [] (.free 0 (.free 1 (.free 3 (.free 4 (.free 5 (.free 6 (.free 7 (.free 8 (.free 9 (.free 10 (.free 11 (.act 2 (.free 12 (.free 13 .nil)))))))))))))) (by kernel_rfl) hF (by kernel_rfl) (by kernel_rfl) ?_
 clear hF; rintro w hF -
 refine ⟨fun wq => FR w0 [] [] wq, hF, ?_⟩
 refine f_free rfl (v := .int .i64 (-(m : Int))) (fun w hC => x_move rfl) (f_free rfl (v := .int .i64 (-((m / 10 : Nat) : Int))) (fun w hC => x_quo rfl rfl (by decide) (wrap_to (neg_tdiv_ m) (by omega) (by omega))) (f_free rfl (v := .string (bs ([48, 49, 50, 51, 52, 53, 54, 55, 56, 57]))) (fun w hC => x_move rfl) (f_free rfl (v := .int .i64 (-(m : Int))) (fun w hC => x_move rfl) (f_free rfl (v := .int .i64 (-((m % 10 : Nat) : Int))) (fun w hC => x_rem rfl rfl (by decide) (neg_tmod_ m)) (f_free rfl (v := .int .i64 (((m % 10 : Nat) : Int))) (fun w hC => x_neg rfl (wrap_to (by omega) (by omega) (by omega))) (f_free rfl (v := .int .i64 (-(m : Int))) (fun w hC => x_move rfl) (f_free rfl (v := .int .i64 (-((m % 10 : Nat) : Int))) (fun w hC => x_rem rfl rfl (by decide) (neg_tmod_ m)) (f_free rfl (v := .int .i64 (((m % 10 : Nat) : Int))) (fun w hC => x_neg rfl (wrap_to (by omega) (by omega) (by omega))) (f_free rfl (v := .int .i64 (((m % 10 + 1 : Nat) : Int))) (fun w hC => x_add rfl rfl (wrap_to (by omega) (by omega) (by omega))) ?_)))))))))
 refine f_free rfl (v := .string (bs ((([48, 49, 50, 51, 52, 53, 54, 55, 56, 57] : Str).take (m % 10 + 1)).drop (m % 10)))) (fun w hC => x_slice2 (m % 10) (m % 10 + 1) Tryz.underlying9 rfl rfl rfl (by first | (simp; omega) | omega) (by first | (simp; omega) | omega)) ?_
 refine f_call rfl (ih (m / 10) (by omega) (by omega) _) (x_call1 en_143 rfl rfl) ?_
 rintro _ w ⟨rfl, hE⟩
 replace hF := hF.ext hE
 clear hE
 refine ⟨hF, ?_⟩
 refine f_free rfl (v := .string (bs ((Lib.itoa (-((m / 10 : Nat) : Int))) ++ ((([48, 49, 50, 51, 52, 53, 54, 55, 56, 57] : Str).take (m % 10 + 1)).drop (m % 10))))) (fun w hC => x_cat rfl rfl (by have := Lib.itoa_length_le (-((m / 10 : Nat) : Int)) (by omega) (by omega); rw [dig_slice _ (by omega)]; exact Nat.le_trans (Nat.add_le_add_right this 1) (by decide))) ?_
 refine f_free rfl (v := .string (bs ((Lib.itoa (-((m / 10 : Nat) : Int))) ++ ((([48, 49, 50, 51, 52, 53, 54, 55, 56, 57] : Str).take (m % 10 + 1)).drop (m % 10))))) (fun w hC => x_assign rfl) (d_nil (e_seq ?_))
 refine c_ret (e_ret (post_ret (res_1 (v := .string (bs ((Lib.itoa (-((m / 10 : Nat) : Int))) ++ ((([48, 49, 50, 51, 52, 53, 54, 55, 56, 57] : Str).take (m % 10 + 1)).drop (m % 10))))) rfl rfl) ?_))
 exact ⟨by rw [dig_slice _ (by omega), Lib.itoa_neg m (by omega), Lib.itoa_neg (m / 10) (by omega), dec_ge (m := m) (by omega)]; rfl, hF.same⟩
theorem dec_c (n : Int) (h1 : -9223372036854775808 ≤ n) (h2 : n ≤ 9223372036854775807) : DecC n := by
  have hp : ∀ m : Nat, (m : Int) ≤ 9223372036854775807 → DecC (m : Int) := fun m => by
    induction m using Nat.strongRecOn with
    | ind m ih => exact fun hm => dec_pos m hm fun q hq => ih q hq (by omega)
  have hn : ∀ m : Nat, 1 ≤ m → (m : Int) ≤ 9223372036854775808 → DecC (-(m : Int)) := fun m => by
    induction m using Nat.strongRecOn with
    | ind m ih => exact fun h1 hm => dec_neg m h1 hm fun q hq hq1 => ih q hq hq1 (by omega)
  rcases Int.lt_or_le n 0 with h | h
  · have := hn n.natAbs (by omega) (by omega)
    rwa [show -((n.natAbs : Nat) : Int) = n by omega] at this
  · have := hp n.toNat (by omega)
    rwa [show ((n.toNat : Nat) : Int) = n by omega] at this
theorem right_some {x : Num} (h : rightN x = true) (h0 : ¬ x = Num.zero) : x.digits ≠ [] := by
  unfold rightN at h
  simp only [Bool.or_eq_true, Bool.and_eq_true, decide_eq_true_eq] at h
  rcases h with h | h
  · exact absurd h h0
  · exact digs_ne h.1.1.1.1.1
set_option maxHeartbeats 1000000 in
set_option maxRecDepth 10000 in
theorem rtext_c (x : Num) (hl : x.digits.length ≤ 140737488355328) (w0 : World) : Calls Tryz.prog 112 #[numV x] w0 (Ret fun v w' => v = .string (bs (textN x)) ∧ Same [] w0 w') := by
 refine calls_start Tryz.func112 rfl Tryz.ntmps112 (Nat.le_of_ble_eq_true rfl) (args_1 _) ?_
 have hF := FR.start w0 []
 refine c_seq (c_region ?_)
 refine o_box (v := .agg #[.bool (x.neg), .string (bs (x.digits)), .int .i64 (x.exp)]) (cs := #[.bool (x.neg), .string (bs (x.digits)), .int .i64 (x.exp)]) hF rfl rfl ?_
 clear hF; rintro b1 w hb1 hF -
 refine o_val (x_assign rfl) (o_nil (e_seq (c_seq (c_region (o_val (v := .agg #[.bool (x.neg), .string (bs (x.digits)), .int .i64 (x.exp)]) (x_loadS (l := [.bool (x.neg), .string (bs (x.digits)), .int .i64 (x.exp)]) Tryz.isAgg63 Tryz.sizeOf63 rfl rfl (hF.cellsAll 0 rfl)) ?_)))))
 refine o_call (rright_c x hl _) (x_call1 en_113 rfl rfl) ?_
 rintro _ w ⟨rfl, hE⟩
 replace hF := hF.ext hE
 clear hE
 refine o_val (x_assign rfl) (o_nil (e_seq (c_seq (c_seq (c_region (o_val (x_move rfl) (o_val (v := .bool (!(rightN x))) (x_not rfl) (o_nil (e_seq ?_)))))))))
 refine c_split (d := 8) (b := !(rightN x)) rfl (fun hc0 => ?_) (fun hc0 => ?_)
 refine c_ift rfl (c_seq (c_region (o_val (x_assign rfl) (o_nil (e_seq ?_)))))
 refine c_ret (e_ret (post_ret (res_1 (v := .string (bs ([]))) rfl rfl) ?_))
 exact ⟨by rw [textN, if_pos (by simp_all)], hF.same⟩
 refine c_iff rfl (c_skip (e_seq (c_seq (c_seq (c_region (o_val (v := .agg #[.bool (x.neg), .string (bs (x.digits)), .int .i64 (x.exp)]) (x_loadS (l := [.bool (x.neg), .string (bs (x.digits)), .int .i64 (x.exp)]) Tryz.isAgg63 Tryz.sizeOf63 rfl rfl (hF.cellsAll 0 rfl)) ?_))))))
 refine o_call (nought_c x _) (x_call1 en_142 rfl rfl) ?_
 rintro _ w ⟨rfl, hE⟩
 replace hF := hF.ext hE
 clear hE
 refine o_nil (e_seq ?_)
 refine c_splitd (d := 10) (p := x = Num.zero) rfl (fun hc1 => ?_) (fun hc1 => ?_)
 refine c_ift rfl (c_seq (c_region (o_val (x_assign rfl) (o_nil (e_seq ?_)))))
 refine c_ret (e_ret (post_ret (res_1 (v := .string (bs ([48]))) rfl rfl) ?_))
 have hz : x = Num.zero := (by assumption)
 exact ⟨(by subst hz; rfl), hF.same⟩
 refine c_iff rfl (c_skip (e_seq (c_seq (c_region (o_val (v := .pointer (some ⟨b1, 1, none⟩)) (x_fieldAddrO fa_63_1 rfl) (o_val (v := .string (bs (x.digits))) (x_load Tryz.isAgg9 rfl (hF.cell 0 rfl rfl)) (o_val (x_assign rfl) (o_nil (e_seq (c_seq (c_seq (c_region (o_val (v := .pointer (some ⟨b1, 0, none⟩)) (x_fieldAddrO fa_63_0 rfl) ?_)))))))))))))
 refine o_val (v := .bool (x.neg)) (x_load Tryz.isAgg4 rfl (hF.cell 0 rfl rfl)) (o_nil (e_seq ?_))
 refine c_split (d := 14) (b := x.neg) rfl (fun hc2 => ?_) (fun hc2 => ?_)
 refine c_ift rfl (c_region (o_val (x_move rfl) ?_))
 refine o_val (v := .string (bs (([45]) ++ (x.digits)))) (x_cat rfl rfl (by simp; omega)) ?_
 refine o_val (x_assign rfl) (o_nil (e_seq (c_seq (c_seq (c_region (o_val (v := .pointer (some ⟨b1, 2, none⟩)) (x_fieldAddrO fa_63_2 rfl) (o_val (v := .int .i64 (x.exp)) (x_load Tryz.isAgg3 rfl (hF.cell 0 rfl rfl)) (o_val (v := .bool (decide ((x.exp : Int) ≠ (0 : Int)))) (x_neq rfl rfl) (o_nil (e_seq ?_))))))))))
 refine c_splitd (d := 19) (p := (x.exp : Int) ≠ (0 : Int)) rfl (fun hc3 => ?_) (fun hc3 => ?_)
 refine c_ift rfl (c_region (o_val (x_move rfl) ?_))
 refine o_val (v := .string (bs ((([45]) ++ (x.digits)) ++ ([101])))) (x_cat rfl rfl (by simp; omega)) ?_
 refine o_val (v := .pointer (some ⟨b1, 2, none⟩)) (x_fieldAddrO fa_63_2 rfl) (o_val (v := .int .i64 (x.exp)) (x_load Tryz.isAgg3 rfl (hF.cell 0 rfl rfl)) ?_)
 refine o_call (dec_c x.exp (by have hr := rightN_len (x := x) (by simp_all); omega) (by have hr := rightN_len (x := x) (by simp_all); omega) _) (x_call1 en_143 rfl rfl) ?_
 rintro _ w ⟨rfl, hE⟩
 replace hF := hF.ext hE
 clear hE
 refine o_val (v := .string (bs (((([45]) ++ (x.digits)) ++ ([101])) ++ (Lib.itoa x.exp)))) (x_cat rfl rfl (by have hr := rightN_len (x := x) (by simp_all); have := Lib.itoa_length_le x.exp (by omega) (by omega); simp; omega)) ?_
 refine o_val (x_assign rfl) (o_nil (e_seq (c_seq (c_region (o_val (x_move rfl) (o_val (x_assign rfl) (o_nil (e_seq ?_))))))))
 refine c_ret (e_ret (post_ret (res_1 (v := .string (bs (((([45]) ++ (x.digits)) ++ ([101])) ++ (Lib.itoa x.exp)))) rfl rfl) ?_))
 refine ⟨congrArg (fun y => Value.string (bs y)) ?_, hF.same⟩
 have hne := right_some (x := x) (by simp_all) (by assumption)
 rw [textN, if_neg (by simp_all), if_neg hne]
 simp_all
 refine c_iff rfl (c_skip (e_seq (c_seq (c_region (o_val (x_move rfl) (o_val (x_assign rfl) (o_nil (e_seq ?_))))))))
 refine c_ret (e_ret (post_ret (res_1 (v := .string (bs (([45]) ++ (x.digits)))) rfl rfl) ?_))
 refine ⟨congrArg (fun y => Value.string (bs y)) ?_, hF.same⟩
 have hne := right_some (x := x) (by simp_all) (by assumption)
 rw [textN, if_neg (by simp_all), if_neg hne]
 simp_all
 refine c_iff rfl (c_skip (e_seq (c_seq (c_seq (c_region (o_val (v := .pointer (some ⟨b1, 2, none⟩)) (x_fieldAddrO fa_63_2 rfl) (o_val (v := .int .i64 (x.exp)) (x_load Tryz.isAgg3 rfl (hF.cell 0 rfl rfl)) (o_val (v := .bool (decide ((x.exp : Int) ≠ (0 : Int)))) (x_neq rfl rfl) (o_nil (e_seq ?_))))))))))
 refine c_splitd (d := 19) (p := (x.exp : Int) ≠ (0 : Int)) rfl (fun hc3 => ?_) (fun hc3 => ?_)
 refine c_ift rfl (c_region (o_val (x_move rfl) ?_))
 refine o_val (v := .string (bs ((x.digits) ++ ([101])))) (x_cat rfl rfl (by simp; omega)) ?_
 refine o_val (v := .pointer (some ⟨b1, 2, none⟩)) (x_fieldAddrO fa_63_2 rfl) (o_val (v := .int .i64 (x.exp)) (x_load Tryz.isAgg3 rfl (hF.cell 0 rfl rfl)) ?_)
 refine o_call (dec_c x.exp (by have hr := rightN_len (x := x) (by simp_all); omega) (by have hr := rightN_len (x := x) (by simp_all); omega) _) (x_call1 en_143 rfl rfl) ?_
 rintro _ w ⟨rfl, hE⟩
 replace hF := hF.ext hE
 clear hE
 refine o_val (v := .string (bs (((x.digits) ++ ([101])) ++ (Lib.itoa x.exp)))) (x_cat rfl rfl (by have hr := rightN_len (x := x) (by simp_all); have := Lib.itoa_length_le x.exp (by omega) (by omega); simp; omega)) ?_
 refine o_val (x_assign rfl) (o_nil (e_seq (c_seq (c_region (o_val (x_move rfl) (o_val (x_assign rfl) (o_nil (e_seq ?_))))))))
 refine c_ret (e_ret (post_ret (res_1 (v := .string (bs (((x.digits) ++ ([101])) ++ (Lib.itoa x.exp)))) rfl rfl) ?_))
 refine ⟨congrArg (fun y => Value.string (bs y)) ?_, hF.same⟩
 have hne := right_some (x := x) (by simp_all) (by assumption)
 rw [textN, if_neg (by simp_all), if_neg hne]
 simp_all
 refine c_iff rfl (c_skip (e_seq (c_seq (c_region (o_val (x_move rfl) (o_val (x_assign rfl) (o_nil (e_seq ?_))))))))
 refine c_ret (e_ret (post_ret (res_1 (v := .string (bs (x.digits))) rfl rfl) ?_))
 refine ⟨congrArg (fun y => Value.string (bs y)) ?_, hF.same⟩
 have hne := right_some (x := x) (by simp_all) (by assumption)
 rw [textN, if_neg (by simp_all), if_neg hne]
 simp_all
end Go.Scarf
namespace Go.Scarf
open Go.RowKit Go.Proofs
def headI (s : Str) (k : Int) : Bool := decide ((0 : Int) < (s.length : Int)) && decide (bZ s 0 = k)
theorem headI_t {s : Str} {k : Int} (h : (0 : Int) < (s.length : Int)) (e : bZ s 0 = k) : headI s k = true := by rw [headI, decide_eq_true h, decide_eq_true e]; rfl
theorem headI_f0 {s : Str} {k : Int} (h : ¬ (0 : Int) < (s.length : Int)) : headI s k = false := by rw [headI, decide_eq_false h]; rfl
theorem headI_f1 {s : Str} {k : Int} (e : ¬ bZ s 0 = k) : headI s k = false := by rw [headI, decide_eq_false e, Bool.and_false]
theorem headI_d {s : Str} {k : Int} (h : (0 : Int) < (s.length : Int)) : headI s k = decide (bZ s 0 = k) := by rw [headI, decide_eq_true h, Bool.true_and]
theorem headI_is (s : Str) (c : UInt8) : headI s (c.toNat : Int) = Lib.hasPrefix s [c] := by
  cases s with
  | nil => rfl
  | cons a s =>
    have h0 : bZ (a :: s) 0 = (a.toNat : Int) := (bZ_at (s := a :: s) (p := 0) (by simp)).symm
    rw [headI, h0, decide_eq_true (by simp), Bool.true_and]
    by_cases h : a = c
    · subst h; simp [Lib.hasPrefix]
    · have : ¬ ((a.toNat : Int) = (c.toNat : Int)) := fun e => h (UInt8.toNat.inj (by omega))
      have h2 : (c == a) = false := by simpa using fun e => h e.symm
      rw [decide_eq_false this]
      simp [Lib.hasPrefix, List.isPrefixOf, h2]
theorem cut_end {at_ s : Str} {j : Nat} (hj : j ≤ s.length) (hno : ∀ c ∈ s.take j, at_.contains c = false) (h : ∀ h : j < s.length, at_.contains s[j] = true) : cutAny at_ s = (s.take j, s.drop (j + 1), decide (j < s.length)) := by
  by_cases hl : j < s.length
  · rw [cutAny_at hl hno (h hl), decide_eq_true hl]
  · rw [List.take_of_length_le (by omega)] at hno ⊢
    rw [cutAny_no hno, List.drop_eq_nil_of_le (by omega), decide_eq_false hl]
theorem eE_in {c : UInt8} (h : ((c.toNat : Nat) : Int) = 101 ∨ ((c.toNat : Nat) : Int) = 69) : ([101, 69] : Str).contains c = true := by
  rcases h with h | h
  · rw [(u8_eq (n := 101) (by omega)).1 h]; decide
  · rw [(u8_eq (n := 69) (by omega)).1 h]; decide
theorem eE_out {c : UInt8} (h1 : ¬ ((c.toNat : Nat) : Int) = 101) (h2 : ¬ ((c.toNat : Nat) : Int) = 69) : ([101, 69] : Str).contains c = false := by
  rw [Bool.eq_false_iff]
  intro h
  simp only [List.contains_cons, List.contains_nil, Bool.or_false, Bool.or_eq_true, beq_iff_eq] at h
  rcases h with rfl | rfl
  · exact h1 rfl
  · exact h2 rfl
theorem dot_in {c : UInt8} (h : ((c.toNat : Nat) : Int) = 46) : ([46] : Str).contains c = true := by rw [(u8_eq (n := 46) (by omega)).1 h]; decide
theorem dot_out {c : UInt8} (h1 : ¬ ((c.toNat : Nat) : Int) = 46) : ([46] : Str).contains c = false := by
  rw [Bool.eq_false_iff]
  intro h
  simp only [List.contains_cons, List.contains_nil, Bool.or_false, beq_iff_eq] at h
  subst h
  exact h1 rfl
def expR (f : Bool) (Z : Str) : Str := if f = true then (if headI Z 45 = true ∨ headI Z 43 = true then Z.drop 1 else Z) else [48]
theorem expR_45 {Z : Str} (h : headI Z 45 = true) : expR true Z = Z.drop 1 := by rw [expR, if_pos rfl, if_pos (.inl h)]
theorem expR_43 {Z : Str} (h : headI Z 43 = true) : expR true Z = Z.drop 1 := by rw [expR, if_pos rfl, if_pos (.inr h)]
theorem expR_no {Z : Str} (h : headI Z 45 = false) (h2 : headI Z 43 = false) : expR true Z = Z := by rw [expR, if_pos rfl, if_neg (by rw [h, h2]; decide)]
def okR (W R E : Str) : Bool := digs W && (digs R && (digs E && (decide (W = [48]) || decide (¬ bZ W 0 = 48))))
structure Parts (s : Str) (neg : Bool) (whole rest : Str) (minus : Bool) (exp : Str) (ok : Bool) : Prop where
  h : ∃ (s1 W Z R1 : Str) (f g : Bool), neg = headI s 45 ∧ s1 = (if headI s 45 = true then s.drop 1 else s) ∧ cutAny [101, 69] s1 = ((cutAny [101, 69] s1).1, Z, f) ∧ cutAny [46] (cutAny [101, 69] s1).1 = (W, R1, g) ∧
    whole = W ∧ rest = (if g = true then R1 else []) ∧ minus = (f && headI Z 45) ∧ exp = expR f Z ∧ ok = okR W (if g = true then R1 else [48]) (expR f Z)
set_option maxHeartbeats 4000000 in
set_option maxRecDepth 10000 in
theorem parts_c (s : Str) (hl : s.length ≤ 140737488355328) (w0 : World) : Calls Tryz.prog 141 #[.string (bs s)] w0 (Ret fun v w' => ∃ neg whole rest minus exp ok, v = .tuple #[.bool neg, .string (bs whole), .string (bs rest), .bool minus, .string (bs exp), .bool ok] ∧ Parts s neg whole rest minus exp ok ∧ Same [] w0 w') := by
 refine calls_start Tryz.func141 rfl Tryz.ntmps141 (Nat.le_of_ble_eq_true rfl) (args_1 _) ?_
 have hF := FR.start w0 []
 refine c_seq (c_region (o_val (x_assign rfl) (o_val (x_assign rfl) (o_val (x_assign rfl) (o_val (x_assign rfl) (o_val (x_assign rfl) (o_val (x_assign rfl) (o_nil (e_seq (c_seq (c_region (o_val (x_move rfl) (o_val (v := .int .i64 ((((s) : Str).length : Int))) (x_len_string Tryz.underlying9 rfl) ?_)))))))))))))
 refine o_val (v := .bool (decide ((0 : Int) < ((((s) : Str).length : Int) : Int)))) (x_gtr rfl rfl) (o_val (x_move rfl) ?_)
 refine o_splitd (d := 18) (p := (0 : Int) < ((((s) : Str).length : Int) : Int)) rfl (fun hg0 => ?_) (fun hg0 => ?_)
 refine o_val (x_move rfl) ?_
 refine o_val (v := .int .u8 (bZ (s) 0)) (by rw [← bZ_at (s := s) (p := 0) (by omega)]; exact x_index 0 Tryz.underlying9 rfl rfl (by omega)) ?_
 refine o_val (v := .bool (decide ((bZ (s) 0 : Int) = (45 : Int)))) (x_eql rfl rfl) (o_val (x_pickt rfl rfl) (o_val (x_assign rfl) (o_nil (e_seq (c_seq ?_)))))
 refine c_join (fun σ w => ∃ (ng : Bool), ∃ (s1 : Str), (ng = headI s 45) ∧ (s1 = if headI s 45 = true then s.drop 1 else s) ∧ AllEq σ [(0, .string (bs (s1))), (8, .bool (ng))] ∧ FR w0 [] [] w) ?_ ?_
 refine c_seq (c_region (o_val (x_move rfl) (o_nil (e_seq ?_))))
 refine c_splitd (d := 23) (p := (bZ (s) 0 : Int) = (45 : Int)) rfl (fun hc0 => ?_) (fun hc0 => ?_)
 refine c_ift rfl (c_region (o_val (x_move rfl) (o_val (v := .string (bs ((s : Str).drop (1)))) (x_sliceL (1) Tryz.underlying9 rfl rfl (by omega)) (o_val (x_assign rfl) (o_nil ?_)))))
 · exact e_inv ⟨(decide ((bZ (s) 0 : Int) = (45 : Int))), ((s : Str).drop (1)), (by first | exact (headI_d (by omega)).symm | exact (headI_f0 (by omega)).symm), (by first | (rw [if_pos (headI_t (by omega) (by omega))]; done) | (rw [if_neg (by rw [headI_f0 (by omega)]; decide)]; done) | (rw [if_neg (by rw [headI_f1 (by omega)]; decide)]; done)), ⟨rfl, rfl, trivial⟩, hF⟩
 refine c_iff rfl (c_skip ?_)
 · exact e_inv ⟨(decide ((bZ (s) 0 : Int) = (45 : Int))), (s), (by first | exact (headI_d (by omega)).symm | exact (headI_f0 (by omega)).symm), (by first | (rw [if_pos (headI_t (by omega) (by omega))]; done) | (rw [if_neg (by rw [headI_f0 (by omega)]; decide)]; done) | (rw [if_neg (by rw [headI_f1 (by omega)]; decide)]; done)), ⟨rfl, rfl, trivial⟩, hF⟩
 clear hF; rintro σ w ⟨ng, s1, hng, hs1, hs, hF⟩
 refine Eg.slots hs ?_
 clear hs; intro σ
 have hl1 : s1.length ≤ 140737488355328 := by rw [hs1]; split <;> (try simp) <;> omega
 refine e_seq (c_seq (c_region (o_val (x_assign rfl) (o_nil (e_seq (c_seq ?_))))))
 refine c_join (fun σ w => ∃ (k : Nat), (k ≤ s1.length) ∧ (cutAny [101, 69] s1 = (s1.take k, s1.drop (k + 1), decide (k < s1.length))) ∧ AllEq σ [(0, .string (bs (s1))), (8, .bool (ng)), (9, .int .i64 ((k : Int)))] ∧ FR w0 [] [] w) ?_ ?_
 refine c_block ?_
 refine c_loop (fun μ σ w => ∃ (j : Nat), μ = s1.length - j ∧ (j ≤ s1.length) ∧ (∀ c ∈ s1.take j, ([101, 69] : Str).contains c = false) ∧ AllEq σ [(0, .string (bs (s1))), (8, .bool (ng)), (9, .int .i64 ((j : Int)))] ∧ FR w0 [] [] w) _ ⟨0, rfl, (Nat.zero_le _), (by simp), ⟨rfl, rfl, rfl, trivial⟩, hF⟩ ?_
 clear hF; rintro μ σ w ⟨j, rfl, hj, hno, hs, hF⟩
 refine Cg.slots hs ?_
 clear hs; intro σ
 refine c_seq (c_seq (c_region (o_val (x_move rfl) (o_val (x_move rfl) (o_val (v := .int .i64 ((((s1) : Str).length : Int))) (x_len_string Tryz.underlying9 rfl) (o_val (v := .bool (decide (((j : Int) : Int) < ((((s1) : Str).length : Int) : Int)))) (x_lss rfl rfl) (o_val (x_move rfl) ?_)))))))
 refine o_splitd (d := 30) (p := ((j : Int) : Int) < ((((s1) : Str).length : Int) : Int)) rfl (fun hg1 => ?_) (fun hg1 => ?_)
 refine o_val (x_move rfl) (o_val (x_move rfl) (o_val (v := .int .u8 ((((s1 : Str)[j]'(by omega)).toNat : Int))) (x_index (j) Tryz.underlying9 rfl rfl (by omega)) (o_val (v := .bool (decide (((((s1 : Str)[j]'(by omega)).toNat : Int) : Int) ≠ (101 : Int)))) (x_neq rfl rfl) (o_val (x_pickt rfl rfl) (o_val (x_move rfl) ?_)))))
 refine o_splitd (d := 36) (p := ((((s1 : Str)[j]'(by omega)).toNat : Int) : Int) ≠ (101 : Int)) rfl (fun hg2 => ?_) (fun hg2 => ?_)
 refine o_val (x_move rfl) (o_val (x_move rfl) (o_val (v := .int .u8 ((((s1 : Str)[j]'(by omega)).toNat : Int))) (x_index (j) Tryz.underlying9 rfl rfl (by omega)) (o_val (v := .bool (decide (((((s1 : Str)[j]'(by omega)).toNat : Int) : Int) ≠ (69 : Int)))) (x_neq rfl rfl) (o_val (x_pickt rfl rfl) (o_nil (e_seq ?_))))))
 refine c_splitd (d := 41) (p := ((((s1 : Str)[j]'(by omega)).toNat : Int) : Int) ≠ (69 : Int)) rfl (fun hc1 => ?_) (fun hc1 => ?_)
 refine c_ift rfl (c_skip (e_seq (c_block (c_region (o_val (x_move rfl) (o_val (v := .int .i64 (((j + 1 : Nat) : Int))) (x_add rfl rfl (wrap_to (by omega) (by omega) (by omega))) (o_val (x_assign rfl) (o_nil (e_block ?_)))))))))
 refine e_inv ⟨_, ?_, j + 1, rfl, (by omega), (take_no (by omega) hno (eE_out (by omega) (by omega))), ⟨rfl, rfl, rfl, trivial⟩, hF⟩
 omega
 refine c_iff rfl ?_
 refine c_exit (e_exit rfl ?_)
 exact e_inv ⟨(j), (by omega), (cut_end (by omega) hno (fun h => eE_in (by omega))), ⟨rfl, rfl, rfl, trivial⟩, hF⟩
 refine o_off (o_off (o_off (o_off (o_val (x_pickf rfl rfl) (o_nil (e_seq (c_iff rfl ?_)))))))
 refine c_exit (e_exit rfl ?_)
 exact e_inv ⟨(j), (by omega), (cut_end (by omega) hno (fun h => eE_in (by omega))), ⟨rfl, rfl, rfl, trivial⟩, hF⟩
 refine o_off (o_off (o_off (o_off (o_val (x_pickf rfl rfl) (o_val (x_move rfl) (o_off (o_off (o_off (o_off (o_val (x_pickf rfl rfl) (o_nil (e_seq (c_iff rfl ?_)))))))))))))
 refine c_exit (e_exit rfl ?_)
 exact e_inv ⟨(j), (by omega), (cut_end (by omega) hno (fun h => eE_in (by omega))), ⟨rfl, rfl, rfl, trivial⟩, hF⟩
 clear hF; rintro σ w ⟨k, hk, hcut, hs, hF⟩
 refine Eg.slots hs ?_
 clear hs; intro σ
 refine e_seq (c_seq (c_region (o_val (x_assign rfl) (o_nil (e_seq (c_seq (c_region (o_val (x_assign rfl) (o_nil (e_seq ?_))))))))))
 have hZl : ((((s1 : Str).drop (k + 1)) : Str).length : Int) = (s1.length - (k + 1) : Nat) := by simp
 refine c_seq ?_
 refine c_join (fun σ w => ∃ (ex : Str), ∃ (mi : Bool), (ex = expR (decide (k < s1.length)) ((s1 : Str).drop (k + 1))) ∧ (mi = (decide (k < s1.length) && headI ((s1 : Str).drop (k + 1)) 45)) ∧ AllEq σ [(0, .string (bs (s1))), (8, .bool (ng)), (9, .int .i64 ((k : Int))), (10, .string (bs (ex))), (11, .bool (mi))] ∧ FR w0 [] [] w) ?_ ?_
 refine c_seq (c_region (o_val (x_move rfl) (o_val (x_move rfl) (o_val (v := .int .i64 ((((s1) : Str).length : Int))) (x_len_string Tryz.underlying9 rfl) (o_val (v := .bool (decide (((k : Int) : Int) < ((((s1) : Str).length : Int) : Int)))) (x_lss rfl rfl) (o_nil (e_seq ?_)))))))
 refine c_splitd (d := 47) (p := ((k : Int) : Int) < ((((s1) : Str).length : Int) : Int)) rfl (fun hc2 => ?_) (fun hc2 => ?_)
 refine c_ift rfl (c_seq (c_region (o_val (x_move rfl) (o_val (x_move rfl) (o_val (v := .int .i64 (((k + 1 : Nat) : Int))) (x_add rfl rfl (wrap_to (by omega) (by omega) (by omega))) (o_val (v := .string (bs ((s1 : Str).drop (k + 1)))) (x_sliceL (k + 1) Tryz.underlying9 rfl rfl (by omega)) (o_val (x_assign rfl) (o_nil (e_seq (c_seq (c_region (o_val (x_move rfl) (o_val (v := .int .i64 (((((s1 : Str).drop (k + 1)) : Str).length : Int))) (x_len_string Tryz.underlying9 rfl) ?_)))))))))))))
 refine o_val (v := .bool (decide ((0 : Int) < (((((s1 : Str).drop (k + 1)) : Str).length : Int) : Int)))) (x_gtr rfl rfl) (o_val (x_move rfl) ?_)
 refine o_splitd (d := 55) (p := (0 : Int) < (((((s1 : Str).drop (k + 1)) : Str).length : Int) : Int)) rfl (fun hg3 => ?_) (fun hg3 => ?_)
 refine o_val (x_move rfl) ?_
 refine o_val (v := .int .u8 (bZ (((s1 : Str).drop (k + 1))) 0)) (by rw [← bZ_at (s := ((s1 : Str).drop (k + 1))) (p := 0) (by omega)]; exact x_index 0 Tryz.underlying9 rfl rfl (by omega)) ?_
 refine o_val (v := .bool (decide ((bZ (((s1 : Str).drop (k + 1))) 0 : Int) = (45 : Int)))) (x_eql rfl rfl) (o_val (x_pickt rfl rfl) (o_val (x_assign rfl) (o_nil (e_seq (c_seq (c_region (o_val (x_move rfl) (o_val (x_move rfl) ?_))))))))
 refine o_splitd (d := 61) (p := (bZ (((s1 : Str).drop (k + 1))) 0 : Int) = (45 : Int)) rfl (fun hg4 => ?_) (fun hg4 => ?_)
 refine o_off (o_off (o_off (o_off (o_off (o_off (o_off (o_off (o_val (x_pickt rfl rfl) (o_nil (e_seq (c_ift rfl (c_region (o_val (x_move rfl) ?_)))))))))))))
 refine o_val (v := .string (bs (((s1 : Str).drop (k + 1) : Str).drop (1)))) (x_sliceL (1) Tryz.underlying9 rfl rfl (by omega)) (o_val (x_assign rfl) (o_nil ?_))
 exact e_inv ⟨(((s1 : Str).drop (k + 1) : Str).drop (1)), (decide ((bZ (((s1 : Str).drop (k + 1))) 0 : Int) = (45 : Int))), (by first | (rw [decide_eq_true (show k < s1.length by omega)]; first | exact (expR_45 (headI_t (by omega) (by omega))).symm | exact (expR_43 (headI_t (by omega) (by omega))).symm | exact (expR_no (by first | exact headI_f0 (by omega) | exact headI_f1 (by omega)) (by first | exact headI_f0 (by omega) | exact headI_f1 (by omega))).symm) | (rw [decide_eq_false (show ¬ k < s1.length by omega)]; rfl)), (by first | (rw [decide_eq_true (show k < s1.length by omega), Bool.true_and]; first | exact (headI_d (by omega)).symm | exact (headI_f0 (by omega)).symm) | (rw [decide_eq_false (show ¬ k < s1.length by omega)]; rfl)), ⟨rfl, rfl, rfl, rfl, rfl, trivial⟩, hF⟩
 refine o_val (x_move rfl) (o_val (v := .int .i64 (((((s1 : Str).drop (k + 1)) : Str).length : Int))) (x_len_string Tryz.underlying9 rfl) (o_val (v := .bool (decide ((0 : Int) < (((((s1 : Str).drop (k + 1)) : Str).length : Int) : Int)))) (x_gtr rfl rfl) (o_val (x_move rfl) ?_)))
 refine o_splitd (d := 65) (p := (0 : Int) < (((((s1 : Str).drop (k + 1)) : Str).length : Int) : Int)) rfl (fun hg5 => ?_) (fun hg5 => ?_)
 refine o_val (x_move rfl) ?_
 refine o_val (v := .int .u8 (bZ (((s1 : Str).drop (k + 1))) 0)) (by rw [← bZ_at (s := ((s1 : Str).drop (k + 1))) (p := 0) (by omega)]; exact x_index 0 Tryz.underlying9 rfl rfl (by omega)) ?_
 refine o_val (v := .bool (decide ((bZ (((s1 : Str).drop (k + 1))) 0 : Int) = (43 : Int)))) (x_eql rfl rfl) (o_val (x_pickt rfl rfl) (o_val (x_pickf rfl rfl) (o_nil (e_seq ?_))))
 refine c_splitd (d := 70) (p := (bZ (((s1 : Str).drop (k + 1))) 0 : Int) = (43 : Int)) rfl (fun hc3 => ?_) (fun hc3 => ?_)
 refine c_ift rfl (c_region (o_val (x_move rfl) (o_val (v := .string (bs (((s1 : Str).drop (k + 1) : Str).drop (1)))) (x_sliceL (1) Tryz.underlying9 rfl rfl (by omega)) (o_val (x_assign rfl) (o_nil ?_)))))
 exact e_inv ⟨(((s1 : Str).drop (k + 1) : Str).drop (1)), (decide ((bZ (((s1 : Str).drop (k + 1))) 0 : Int) = (45 : Int))), (by first | (rw [decide_eq_true (show k < s1.length by omega)]; first | exact (expR_45 (headI_t (by omega) (by omega))).symm | exact (expR_43 (headI_t (by omega) (by omega))).symm | exact (expR_no (by first | exact headI_f0 (by omega) | exact headI_f1 (by omega)) (by first | exact headI_f0 (by omega) | exact headI_f1 (by omega))).symm) | (rw [decide_eq_false (show ¬ k < s1.length by omega)]; rfl)), (by first | (rw [decide_eq_true (show k < s1.length by omega), Bool.true_and]; first | exact (headI_d (by omega)).symm | exact (headI_f0 (by omega)).symm) | (rw [decide_eq_false (show ¬ k < s1.length by omega)]; rfl)), ⟨rfl, rfl, rfl, rfl, rfl, trivial⟩, hF⟩
 refine c_iff rfl (c_skip ?_)
 exact e_inv ⟨((s1 : Str).drop (k + 1)), (decide ((bZ (((s1 : Str).drop (k + 1))) 0 : Int) = (45 : Int))), (by first | (rw [decide_eq_true (show k < s1.length by omega)]; first | exact (expR_45 (headI_t (by omega) (by omega))).symm | exact (expR_43 (headI_t (by omega) (by omega))).symm | exact (expR_no (by first | exact headI_f0 (by omega) | exact headI_f1 (by omega)) (by first | exact headI_f0 (by omega) | exact headI_f1 (by omega))).symm) | (rw [decide_eq_false (show ¬ k < s1.length by omega)]; rfl)), (by first | (rw [decide_eq_true (show k < s1.length by omega), Bool.true_and]; first | exact (headI_d (by omega)).symm | exact (headI_f0 (by omega)).symm) | (rw [decide_eq_false (show ¬ k < s1.length by omega)]; rfl)), ⟨rfl, rfl, rfl, rfl, rfl, trivial⟩, hF⟩
 refine o_off (o_off (o_off (o_val (x_pickf rfl rfl) (o_val (x_pickf rfl rfl) (o_nil (e_seq (c_iff rfl (c_skip ?_))))))))
 exact e_inv ⟨((s1 : Str).drop (k + 1)), (decide ((bZ (((s1 : Str).drop (k + 1))) 0 : Int) = (45 : Int))), (by first | (rw [decide_eq_true (show k < s1.length by omega)]; first | exact (expR_45 (headI_t (by omega) (by omega))).symm | exact (expR_43 (headI_t (by omega) (by omega))).symm | exact (expR_no (by first | exact headI_f0 (by omega) | exact headI_f1 (by omega)) (by first | exact headI_f0 (by omega) | exact headI_f1 (by omega))).symm) | (rw [decide_eq_false (show ¬ k < s1.length by omega)]; rfl)), (by first | (rw [decide_eq_true (show k < s1.length by omega), Bool.true_and]; first | exact (headI_d (by omega)).symm | exact (headI_f0 (by omega)).symm) | (rw [decide_eq_false (show ¬ k < s1.length by omega)]; rfl)), ⟨rfl, rfl, rfl, rfl, rfl, trivial⟩, hF⟩
 refine o_off (o_off (o_off (o_val (x_pickf rfl rfl) (o_val (x_assign rfl) (o_nil (e_seq (c_seq (c_region (o_val (x_move rfl) (o_val (x_move rfl) (o_val (x_move rfl) (o_val (v := .int .i64 (((((s1 : Str).drop (k + 1)) : Str).length : Int))) (x_len_string Tryz.underlying9 rfl) (o_val (v := .bool (decide ((0 : Int) < (((((s1 : Str).drop (k + 1)) : Str).length : Int) : Int)))) (x_gtr rfl rfl) ?_)))))))))))))
 refine o_val (x_move rfl) ?_
 refine o_splitd (d := 65) (p := (0 : Int) < (((((s1 : Str).drop (k + 1)) : Str).length : Int) : Int)) rfl (fun hg6 => ?_) (fun hg6 => ?_)
 refine o_val (x_move rfl) ?_
 refine o_val (v := .int .u8 (bZ (((s1 : Str).drop (k + 1))) 0)) (by rw [← bZ_at (s := ((s1 : Str).drop (k + 1))) (p := 0) (by omega)]; exact x_index 0 Tryz.underlying9 rfl rfl (by omega)) ?_
 refine o_val (v := .bool (decide ((bZ (((s1 : Str).drop (k + 1))) 0 : Int) = (43 : Int)))) (x_eql rfl rfl) (o_val (x_pickt rfl rfl) (o_val (x_pickf rfl rfl) (o_nil (e_seq ?_))))
 refine c_splitd (d := 70) (p := (bZ (((s1 : Str).drop (k + 1))) 0 : Int) = (43 : Int)) rfl (fun hc3 => ?_) (fun hc3 => ?_)
 refine c_ift rfl (c_region (o_val (x_move rfl) (o_val (v := .string (bs (((s1 : Str).drop (k + 1) : Str).drop (1)))) (x_sliceL (1) Tryz.underlying9 rfl rfl (by omega)) (o_val (x_assign rfl) (o_nil ?_)))))
 exact e_inv ⟨(((s1 : Str).drop (k + 1) : Str).drop (1)), (false), (by first | (rw [decide_eq_true (show k < s1.length by omega)]; first | exact (expR_45 (headI_t (by omega) (by omega))).symm | exact (expR_43 (headI_t (by omega) (by omega))).symm | exact (expR_no (by first | exact headI_f0 (by omega) | exact headI_f1 (by omega)) (by first | exact headI_f0 (by omega) | exact headI_f1 (by omega))).symm) | (rw [decide_eq_false (show ¬ k < s1.length by omega)]; rfl)), (by first | (rw [decide_eq_true (show k < s1.length by omega), Bool.true_and]; first | exact (headI_d (by omega)).symm | exact (headI_f0 (by omega)).symm) | (rw [decide_eq_false (show ¬ k < s1.length by omega)]; rfl)), ⟨rfl, rfl, rfl, rfl, rfl, trivial⟩, hF⟩
 refine c_iff rfl (c_skip ?_)
 exact e_inv ⟨((s1 : Str).drop (k + 1)), (false), (by first | (rw [decide_eq_true (show k < s1.length by omega)]; first | exact (expR_45 (headI_t (by omega) (by omega))).symm | exact (expR_43 (headI_t (by omega) (by omega))).symm | exact (expR_no (by first | exact headI_f0 (by omega) | exact headI_f1 (by omega)) (by first | exact headI_f0 (by omega) | exact headI_f1 (by omega))).symm) | (rw [decide_eq_false (show ¬ k < s1.length by omega)]; rfl)), (by first | (rw [decide_eq_true (show k < s1.length by omega), Bool.true_and]; first | exact (headI_d (by omega)).symm | exact (headI_f0 (by omega)).symm) | (rw [decide_eq_false (show ¬ k < s1.length by omega)]; rfl)), ⟨rfl, rfl, rfl, rfl, rfl, trivial⟩, hF⟩
 refine o_off (o_off (o_off (o_val (x_pickf rfl rfl) (o_val (x_pickf rfl rfl) (o_nil (e_seq (c_iff rfl (c_skip ?_))))))))
 exact e_inv ⟨((s1 : Str).drop (k + 1)), (false), (by first | (rw [decide_eq_true (show k < s1.length by omega)]; first | exact (expR_45 (headI_t (by omega) (by omega))).symm | exact (expR_43 (headI_t (by omega) (by omega))).symm | exact (expR_no (by first | exact headI_f0 (by omega) | exact headI_f1 (by omega)) (by first | exact headI_f0 (by omega) | exact headI_f1 (by omega))).symm) | (rw [decide_eq_false (show ¬ k < s1.length by omega)]; rfl)), (by first | (rw [decide_eq_true (show k < s1.length by omega), Bool.true_and]; first | exact (headI_d (by omega)).symm | exact (headI_f0 (by omega)).symm) | (rw [decide_eq_false (show ¬ k < s1.length by omega)]; rfl)), ⟨rfl, rfl, rfl, rfl, rfl, trivial⟩, hF⟩
 refine c_iff rfl (c_skip ?_)
 exact e_inv ⟨([48]), (false), (by first | (rw [decide_eq_true (show k < s1.length by omega)]; first | exact (expR_45 (headI_t (by omega) (by omega))).symm | exact (expR_43 (headI_t (by omega) (by omega))).symm | exact (expR_no (by first | exact headI_f0 (by omega) | exact headI_f1 (by omega)) (by first | exact headI_f0 (by omega) | exact headI_f1 (by omega))).symm) | (rw [decide_eq_false (show ¬ k < s1.length by omega)]; rfl)), (by first | (rw [decide_eq_true (show k < s1.length by omega), Bool.true_and]; first | exact (headI_d (by omega)).symm | exact (headI_f0 (by omega)).symm) | (rw [decide_eq_false (show ¬ k < s1.length by omega)]; rfl)), ⟨rfl, rfl, rfl, rfl, rfl, trivial⟩, hF⟩
 clear hF; rintro σ w ⟨ex, mi, hex, hmi, hs, hF⟩
 refine Eg.slots hs ?_
 clear hs; intro σ
 have hex2 : ex.length ≤ 140737488355328 := by rw [hex]; unfold expR; (repeat' split) <;> (try simp) <;> omega
 have hlt : (s1.take k).length ≤ 140737488355328 := by simp; omega
 refine e_seq (c_seq (c_region (o_val (x_move rfl) (o_val (x_move rfl) (o_val (v := .string (bs ((s1 : Str).take (k)))) (x_sliceH (k) Tryz.underlying9 rfl rfl (by omega)) (o_val (x_assign rfl) (o_nil (e_seq (c_seq (c_region (o_val (x_assign rfl) (o_nil (e_seq ?_)))))))))))))
 refine c_seq ?_
 refine c_join (fun σ w => ∃ (q : Nat), (q ≤ ((s1 : Str).take k).length) ∧ (cutAny [46] ((s1 : Str).take k) = ((((s1 : Str).take k).take q), (((s1 : Str).take k).drop (q + 1)), decide (q < ((s1 : Str).take k).length))) ∧ AllEq σ [(0, .string (bs ((s1 : Str).take (k)))), (8, .bool (ng)), (9, .int .i64 ((q : Int))), (10, .string (bs (ex))), (11, .bool (mi))] ∧ FR w0 [] [] w) ?_ ?_
 refine c_block ?_
 refine c_loop (fun μ σ w => ∃ (j : Nat), μ = ((s1 : Str).take k).length - j ∧ (j ≤ ((s1 : Str).take k).length) ∧ (∀ c ∈ ((s1 : Str).take k).take j, ([46] : Str).contains c = false) ∧ AllEq σ [(0, .string (bs ((s1 : Str).take (k)))), (8, .bool (ng)), (9, .int .i64 ((j : Int))), (10, .string (bs (ex))), (11, .bool (mi))] ∧ FR w0 [] [] w) _ ⟨0, rfl, (Nat.zero_le _), (by simp), ⟨rfl, rfl, rfl, rfl, rfl, trivial⟩, hF⟩ ?_
 clear hF; rintro μ σ w ⟨j, rfl, hj, hno, hs, hF⟩
 refine Cg.slots hs ?_
 clear hs; intro σ
 refine c_seq (c_seq (c_region (o_val (x_move rfl) (o_val (x_move rfl) (o_val (v := .int .i64 (((((s1 : Str).take (k)) : Str).length : Int))) (x_len_string Tryz.underlying9 rfl) (o_val (v := .bool (decide (((j : Int) : Int) < (((((s1 : Str).take (k)) : Str).length : Int) : Int)))) (x_lss rfl rfl) (o_val (x_move rfl) ?_)))))))
 refine o_splitd (d := 80) (p := ((j : Int) : Int) < (((((s1 : Str).take (k)) : Str).length : Int) : Int)) rfl (fun hg7 => ?_) (fun hg7 => ?_)
 refine o_val (x_move rfl) (o_val (x_move rfl) (o_val (v := .int .u8 (((((s1 : Str).take (k) : Str)[j]'(by omega)).toNat : Int))) (x_index (j) Tryz.underlying9 rfl rfl (by omega)) (o_val (v := .bool (decide ((((((s1 : Str).take (k) : Str)[j]'(by omega)).toNat : Int) : Int) ≠ (46 : Int)))) (x_neq rfl rfl) (o_val (x_pickt rfl rfl) (o_nil (e_seq ?_))))))
 refine c_splitd (d := 85) (p := (((((s1 : Str).take (k) : Str)[j]'(by omega)).toNat : Int) : Int) ≠ (46 : Int)) rfl (fun hc4 => ?_) (fun hc4 => ?_)
 refine c_ift rfl (c_skip (e_seq (c_block (c_region (o_val (x_move rfl) (o_val (v := .int .i64 (((j + 1 : Nat) : Int))) (x_add rfl rfl (wrap_to (by omega) (by omega) (by omega))) (o_val (x_assign rfl) (o_nil (e_block ?_)))))))))
 refine e_inv ⟨_, ?_, j + 1, rfl, (by omega), (take_no (by omega) hno (dot_out (by omega))), ⟨rfl, rfl, rfl, rfl, rfl, trivial⟩, hF⟩
 omega
 refine c_iff rfl ?_
 refine c_exit (e_exit rfl ?_)
 exact e_inv ⟨(j), (by omega), (cut_end (by omega) hno (fun h => dot_in (by omega))), ⟨rfl, rfl, rfl, rfl, rfl, trivial⟩, hF⟩
 refine o_off (o_off (o_off (o_off (o_val (x_pickf rfl rfl) (o_nil (e_seq (c_iff rfl ?_)))))))
 refine c_exit (e_exit rfl ?_)
 exact e_inv ⟨(j), (by omega), (cut_end (by omega) hno (fun h => dot_in (by omega))), ⟨rfl, rfl, rfl, rfl, rfl, trivial⟩, hF⟩
 clear hF; rintro σ w ⟨q, hq, hcut2, hs, hF⟩
 refine Eg.slots hs ?_
 clear hs; intro σ
 refine e_seq (c_seq (c_region (o_val (x_move rfl) (o_val (x_move rfl) (o_val (v := .string (bs (((s1 : Str).take (k) : Str).take (q)))) (x_sliceH (q) Tryz.underlying9 rfl rfl (by omega)) (o_val (x_assign rfl) (o_nil (e_seq (c_seq (c_region (o_val (x_assign rfl) (o_nil (e_seq ?_)))))))))))))
 refine c_seq ?_
 refine c_join (fun σ w => ∃ (re : Str), (re = if decide (q < ((s1 : Str).take k).length) = true then (((s1 : Str).take k).drop (q + 1)) else [48]) ∧ AllEq σ [(0, .string (bs ((s1 : Str).take (k)))), (8, .bool (ng)), (9, .int .i64 ((q : Int))), (10, .string (bs (ex))), (11, .bool (mi)), (12, .string (bs (((s1 : Str).take (k) : Str).take (q)))), (13, .string (bs (re)))] ∧ FR w0 [] [] w) ?_ ?_
 refine c_seq (c_region (o_val (x_move rfl) (o_val (x_move rfl) (o_val (v := .int .i64 (((((s1 : Str).take (k)) : Str).length : Int))) (x_len_string Tryz.underlying9 rfl) (o_val (v := .bool (decide (((q : Int) : Int) < (((((s1 : Str).take (k)) : Str).length : Int) : Int)))) (x_lss rfl rfl) (o_nil (e_seq ?_)))))))
 refine c_splitd (d := 94) (p := ((q : Int) : Int) < (((((s1 : Str).take (k)) : Str).length : Int) : Int)) rfl (fun hc5 => ?_) (fun hc5 => ?_)
 refine c_ift rfl (c_region (o_val (x_move rfl) (o_val (x_move rfl) (o_val (v := .int .i64 (((q + 1 : Nat) : Int))) (x_add rfl rfl (wrap_to (by omega) (by omega) (by omega))) (o_val (v := .string (bs (((s1 : Str).take (k) : Str).drop (q + 1)))) (x_sliceL (q + 1) Tryz.underlying9 rfl rfl (by omega)) (o_val (x_assign rfl) (o_nil ?_)))))))
 · exact e_inv ⟨(((s1 : Str).take (k) : Str).drop (q + 1)), (by first | (rw [if_pos (decide_eq_true (show q < ((s1 : Str).take k).length by omega))]; done) | (rw [if_neg (by rw [decide_eq_false (show ¬ q < ((s1 : Str).take k).length by omega)]; decide)]; done)), ⟨rfl, rfl, rfl, rfl, rfl, rfl, rfl, trivial⟩, hF⟩
 refine c_iff rfl (c_skip ?_)
 · exact e_inv ⟨([48]), (by first | (rw [if_pos (decide_eq_true (show q < ((s1 : Str).take k).length by omega))]; done) | (rw [if_neg (by rw [decide_eq_false (show ¬ q < ((s1 : Str).take k).length by omega)]; decide)]; done)), ⟨rfl, rfl, rfl, rfl, rfl, rfl, rfl, trivial⟩, hF⟩
 clear hF; rintro σ w ⟨re, hre, hs, hF⟩
 refine Eg.slots hs ?_
 clear hs; intro σ
 have hre2 : re.length ≤ 140737488355328 := by rw [hre]; split <;> (try simp) <;> omega
 refine e_seq (c_seq (c_region (o_val (x_move rfl) ?_)))
 refine o_call (rdigits_c (((s1 : Str).take (k) : Str).take (q)) (by have := hlt; first | omega | (simp only [List.length_take, List.length_drop] at *; omega)) _) (x_call1 en_144 rfl rfl) ?_
 rintro _ w ⟨rfl, hE⟩
 replace hF := hF.ext hE
 clear hE
 refine o_val (x_move rfl) ?_
 refine o_split (d := 101) (b := digs (((s1 : Str).take (k) : Str).take (q))) rfl (fun hg8 => ?_) (fun hg8 => ?_)
 refine o_val (x_move rfl) ?_
 refine o_call (rdigits_c (re) hre2 _) (x_call1 en_144 rfl rfl) ?_
 rintro _ w ⟨rfl, hE⟩
 replace hF := hF.ext hE
 clear hE
 refine o_val (x_pickt rfl rfl) (o_val (x_move rfl) ?_)
 refine o_split (d := 105) (b := digs (re)) rfl (fun hg9 => ?_) (fun hg9 => ?_)
 refine o_val (x_move rfl) ?_
 refine o_call (rdigits_c (ex) hex2 _) (x_call1 en_144 rfl rfl) ?_
 rintro _ w ⟨rfl, hE⟩
 replace hF := hF.ext hE
 clear hE
 refine o_val (x_pickt rfl rfl) (o_val (x_move rfl) ?_)
 refine o_split (d := 109) (b := digs (ex)) rfl (fun hg10 => ?_) (fun hg10 => ?_)
 refine o_val (x_move rfl) (o_val (v := .bool (decide ((((s1 : Str).take (k) : Str).take (q) : Str) = [48]))) (x_eqls rfl rfl) (o_val (x_move rfl) ?_))
 refine o_splitd (d := 112) (p := (((s1 : Str).take (k) : Str).take (q) : Str) = [48]) rfl (fun hg11 => ?_) (fun hg11 => ?_)
 refine o_off (o_off (o_off (o_val (x_pickt rfl rfl) (o_val (x_pickt rfl rfl) (o_val (x_assign rfl) (o_nil (e_seq (c_seq (c_seq (c_region (o_val (x_move rfl) (o_val (x_move rfl) (o_val (v := .int .i64 (((((s1 : Str).take (k)) : Str).length : Int))) (x_len_string Tryz.underlying9 rfl) ?_)))))))))))))
 refine o_val (v := .bool (decide (((q : Int) : Int) = (((((s1 : Str).take (k)) : Str).length : Int) : Int)))) (x_eql rfl rfl) (o_nil (e_seq ?_))
 refine c_splitd (d := 121) (p := ((q : Int) : Int) = (((((s1 : Str).take (k)) : Str).length : Int) : Int)) rfl (fun hc6 => ?_) (fun hc6 => ?_)
 refine c_ift rfl (c_region (o_val (x_assign rfl) (o_nil (e_seq (c_seq (c_region (o_val (x_move rfl) (o_val (x_move rfl) (o_val (x_move rfl) (o_val (x_move rfl) (o_val (x_move rfl) (o_val (x_move rfl) (o_val (x_assign rfl) ?_)))))))))))))
 refine o_val (x_assign rfl) (o_val (x_assign rfl) (o_val (x_assign rfl) (o_val (x_assign rfl) (o_val (x_assign rfl) (o_nil (e_seq ?_))))))
 refine c_ret (e_ret (post_ret (res_6 (v1 := .bool (ng)) (v2 := .string (bs (((s1 : Str).take (k) : Str).take (q)))) (v3 := .string (bs ([]))) (v4 := .bool (mi)) (v5 := .string (bs (ex))) (v6 := .bool true) rfl rfl rfl rfl rfl rfl rfl) ?_))
 refine ⟨_, _, _, _, _, _, rfl, ⟨s1, (((s1 : Str).take k).take q), ((s1 : Str).drop (k + 1)), (((s1 : Str).take k).drop (q + 1)), _, _, hng, hs1, by rw [hcut], by rw [hcut]; exact hcut2, rfl, ?_, hmi, hex, ?_⟩, hF.same⟩
 · first | (rw [if_neg (by rw [decide_eq_false (show ¬ q < ((s1 : Str).take k).length by omega)]; decide)]; done) | (rw [if_pos (decide_eq_true (show q < ((s1 : Str).take k).length by omega))] at hre ⊢; exact hre)
 rw [← hre, ← hex]; unfold okR; simp_all
 refine c_iff rfl (c_skip (e_seq (c_seq (c_region (o_val (x_move rfl) (o_val (x_move rfl) (o_val (x_move rfl) (o_val (x_move rfl) (o_val (x_move rfl) (o_val (x_move rfl) (o_val (x_assign rfl) (o_val (x_assign rfl) (o_val (x_assign rfl) ?_)))))))))))))
 refine o_val (x_assign rfl) (o_val (x_assign rfl) (o_val (x_assign rfl) (o_nil (e_seq ?_))))
 refine c_ret (e_ret (post_ret (res_6 (v1 := .bool (ng)) (v2 := .string (bs (((s1 : Str).take (k) : Str).take (q)))) (v3 := .string (bs (re))) (v4 := .bool (mi)) (v5 := .string (bs (ex))) (v6 := .bool true) rfl rfl rfl rfl rfl rfl rfl) ?_))
 refine ⟨_, _, _, _, _, _, rfl, ⟨s1, (((s1 : Str).take k).take q), ((s1 : Str).drop (k + 1)), (((s1 : Str).take k).drop (q + 1)), _, _, hng, hs1, by rw [hcut], by rw [hcut]; exact hcut2, rfl, ?_, hmi, hex, ?_⟩, hF.same⟩
 · first | (rw [if_neg (by rw [decide_eq_false (show ¬ q < ((s1 : Str).take k).length by omega)]; decide)]; done) | (rw [if_pos (decide_eq_true (show q < ((s1 : Str).take k).length by omega))] at hre ⊢; exact hre)
 rw [← hre, ← hex]; unfold okR; simp_all
 refine o_val (x_move rfl) ?_
 refine o_val (v := .int .u8 (bZ ((((s1 : Str).take k).take q)) 0)) (by rw [← bZ_at (s := (((s1 : Str).take k).take q)) (p := 0) (List.length_pos_iff.2 (digs_ne (by assumption)))]; exact x_index 0 Tryz.underlying9 rfl rfl (List.length_pos_iff.2 (digs_ne (by assumption)))) ?_
 refine o_val (v := .bool (decide ((bZ ((((s1 : Str).take k).take q)) 0 : Int) ≠ (48 : Int)))) (x_neq rfl rfl) (o_val (x_pickf rfl rfl) (o_val (x_pickt rfl rfl) (o_val (x_assign rfl) (o_nil (e_seq (c_seq (c_seq (c_region (o_val (x_move rfl) (o_val (x_move rfl) (o_val (v := .int .i64 (((((s1 : Str).take (k)) : Str).length : Int))) (x_len_string Tryz.underlying9 rfl) (o_val (v := .bool (decide (((q : Int) : Int) = (((((s1 : Str).take (k)) : Str).length : Int) : Int)))) (x_eql rfl rfl) (o_nil ?_)))))))))))))
 refine e_seq ?_
 refine c_splitd (d := 121) (p := ((q : Int) : Int) = (((((s1 : Str).take (k)) : Str).length : Int) : Int)) rfl (fun hc6 => ?_) (fun hc6 => ?_)
 refine c_ift rfl (c_region (o_val (x_assign rfl) (o_nil (e_seq (c_seq (c_region (o_val (x_move rfl) (o_val (x_move rfl) (o_val (x_move rfl) (o_val (x_move rfl) (o_val (x_move rfl) (o_val (x_move rfl) (o_val (x_assign rfl) ?_)))))))))))))
 refine o_val (x_assign rfl) (o_val (x_assign rfl) (o_val (x_assign rfl) (o_val (x_assign rfl) (o_val (x_assign rfl) (o_nil (e_seq ?_))))))
 refine c_ret (e_ret (post_ret (res_6 (v1 := .bool (ng)) (v2 := .string (bs (((s1 : Str).take (k) : Str).take (q)))) (v3 := .string (bs ([]))) (v4 := .bool (mi)) (v5 := .string (bs (ex))) (v6 := .bool (decide ((bZ ((((s1 : Str).take k).take q)) 0 : Int) ≠ (48 : Int)))) rfl rfl rfl rfl rfl rfl rfl) ?_))
 refine ⟨_, _, _, _, _, _, rfl, ⟨s1, (((s1 : Str).take k).take q), ((s1 : Str).drop (k + 1)), (((s1 : Str).take k).drop (q + 1)), _, _, hng, hs1, by rw [hcut], by rw [hcut]; exact hcut2, rfl, ?_, hmi, hex, ?_⟩, hF.same⟩
 · first | (rw [if_neg (by rw [decide_eq_false (show ¬ q < ((s1 : Str).take k).length by omega)]; decide)]; done) | (rw [if_pos (decide_eq_true (show q < ((s1 : Str).take k).length by omega))] at hre ⊢; exact hre)
 rw [← hre, ← hex]; unfold okR; simp_all
 refine c_iff rfl (c_skip (e_seq (c_seq (c_region (o_val (x_move rfl) (o_val (x_move rfl) (o_val (x_move rfl) (o_val (x_move rfl) (o_val (x_move rfl) (o_val (x_move rfl) (o_val (x_assign rfl) (o_val (x_assign rfl) (o_val (x_assign rfl) ?_)))))))))))))
 refine o_val (x_assign rfl) (o_val (x_assign rfl) (o_val (x_assign rfl) (o_nil (e_seq ?_))))
 refine c_ret (e_ret (post_ret (res_6 (v1 := .bool (ng)) (v2 := .string (bs (((s1 : Str).take (k) : Str).take (q)))) (v3 := .string (bs (re))) (v4 := .bool (mi)) (v5 := .string (bs (ex))) (v6 := .bool (decide ((bZ ((((s1 : Str).take k).take q)) 0 : Int) ≠ (48 : Int)))) rfl rfl rfl rfl rfl rfl rfl) ?_))
 refine ⟨_, _, _, _, _, _, rfl, ⟨s1, (((s1 : Str).take k).take q), ((s1 : Str).drop (k + 1)), (((s1 : Str).take k).drop (q + 1)), _, _, hng, hs1, by rw [hcut], by rw [hcut]; exact hcut2, rfl, ?_, hmi, hex, ?_⟩, hF.same⟩
 · first | (rw [if_neg (by rw [decide_eq_false (show ¬ q < ((s1 : Str).take k).length by omega)]; decide)]; done) | (rw [if_pos (decide_eq_true (show q < ((s1 : Str).take k).length by omega))] at hre ⊢; exact hre)
 rw [← hre, ← hex]; unfold okR; simp_all
 refine o_off (o_off (o_off (o_off (o_off (o_off (o_off (o_val (x_pickf rfl rfl) (o_val (x_assign rfl) (o_nil (e_seq (c_seq (c_seq (c_region ?_)))))))))))))
 refine o_val (x_move rfl) (o_val (x_move rfl) (o_val (v := .int .i64 (((((s1 : Str).take (k)) : Str).length : Int))) (x_len_string Tryz.underlying9 rfl) (o_val (v := .bool (decide (((q : Int) : Int) = (((((s1 : Str).take (k)) : Str).length : Int) : Int)))) (x_eql rfl rfl) (o_nil (e_seq ?_)))))
 refine c_splitd (d := 121) (p := ((q : Int) : Int) = (((((s1 : Str).take (k)) : Str).length : Int) : Int)) rfl (fun hc6 => ?_) (fun hc6 => ?_)
 refine c_ift rfl (c_region (o_val (x_assign rfl) (o_nil (e_seq (c_seq (c_region (o_val (x_move rfl) (o_val (x_move rfl) (o_val (x_move rfl) (o_val (x_move rfl) (o_val (x_move rfl) (o_val (x_move rfl) (o_val (x_assign rfl) ?_)))))))))))))
 refine o_val (x_assign rfl) (o_val (x_assign rfl) (o_val (x_assign rfl) (o_val (x_assign rfl) (o_val (x_assign rfl) (o_nil (e_seq ?_))))))
 refine c_ret (e_ret (post_ret (res_6 (v1 := .bool (ng)) (v2 := .string (bs (((s1 : Str).take (k) : Str).take (q)))) (v3 := .string (bs ([]))) (v4 := .bool (mi)) (v5 := .string (bs (ex))) (v6 := .bool false) rfl rfl rfl rfl rfl rfl rfl) ?_))
 refine ⟨_, _, _, _, _, _, rfl, ⟨s1, (((s1 : Str).take k).take q), ((s1 : Str).drop (k + 1)), (((s1 : Str).take k).drop (q + 1)), _, _, hng, hs1, by rw [hcut], by rw [hcut]; exact hcut2, rfl, ?_, hmi, hex, ?_⟩, hF.same⟩
 · first | (rw [if_neg (by rw [decide_eq_false (show ¬ q < ((s1 : Str).take k).length by omega)]; decide)]; done) | (rw [if_pos (decide_eq_true (show q < ((s1 : Str).take k).length by omega))] at hre ⊢; exact hre)
 rw [← hre, ← hex]; unfold okR; simp_all
 refine c_iff rfl (c_skip (e_seq (c_seq (c_region (o_val (x_move rfl) (o_val (x_move rfl) (o_val (x_move rfl) (o_val (x_move rfl) (o_val (x_move rfl) (o_val (x_move rfl) (o_val (x_assign rfl) (o_val (x_assign rfl) (o_val (x_assign rfl) ?_)))))))))))))
 refine o_val (x_assign rfl) (o_val (x_assign rfl) (o_val (x_assign rfl) (o_nil (e_seq ?_))))
 refine c_ret (e_ret (post_ret (res_6 (v1 := .bool (ng)) (v2 := .string (bs (((s1 : Str).take (k) : Str).take (q)))) (v3 := .string (bs (re))) (v4 := .bool (mi)) (v5 := .string (bs (ex))) (v6 := .bool false) rfl rfl rfl rfl rfl rfl rfl) ?_))
 refine ⟨_, _, _, _, _, _, rfl, ⟨s1, (((s1 : Str).take k).take q), ((s1 : Str).drop (k + 1)), (((s1 : Str).take k).drop (q + 1)), _, _, hng, hs1, by rw [hcut], by rw [hcut]; exact hcut2, rfl, ?_, hmi, hex, ?_⟩, hF.same⟩
 · first | (rw [if_neg (by rw [decide_eq_false (show ¬ q < ((s1 : Str).take k).length by omega)]; decide)]; done) | (rw [if_pos (decide_eq_true (show q < ((s1 : Str).take k).length by omega))] at hre ⊢; exact hre)
 rw [← hre, ← hex]; unfold okR; simp_all
 refine o_off (o_off (o_val (x_pickf rfl rfl) (o_val (x_move rfl) (o_off (o_off (o_off (o_off (o_off (o_off (o_off (o_val (x_pickf rfl rfl) (o_val (x_assign rfl) (o_nil ?_)))))))))))))
 refine e_seq (c_seq (c_seq (c_region (o_val (x_move rfl) (o_val (x_move rfl) (o_val (v := .int .i64 (((((s1 : Str).take (k)) : Str).length : Int))) (x_len_string Tryz.underlying9 rfl) (o_val (v := .bool (decide (((q : Int) : Int) = (((((s1 : Str).take (k)) : Str).length : Int) : Int)))) (x_eql rfl rfl) (o_nil (e_seq ?_)))))))))
 refine c_splitd (d := 121) (p := ((q : Int) : Int) = (((((s1 : Str).take (k)) : Str).length : Int) : Int)) rfl (fun hc6 => ?_) (fun hc6 => ?_)
 refine c_ift rfl (c_region (o_val (x_assign rfl) (o_nil (e_seq (c_seq (c_region (o_val (x_move rfl) (o_val (x_move rfl) (o_val (x_move rfl) (o_val (x_move rfl) (o_val (x_move rfl) (o_val (x_move rfl) (o_val (x_assign rfl) ?_)))))))))))))
 refine o_val (x_assign rfl) (o_val (x_assign rfl) (o_val (x_assign rfl) (o_val (x_assign rfl) (o_val (x_assign rfl) (o_nil (e_seq ?_))))))
 refine c_ret (e_ret (post_ret (res_6 (v1 := .bool (ng)) (v2 := .string (bs (((s1 : Str).take (k) : Str).take (q)))) (v3 := .string (bs ([]))) (v4 := .bool (mi)) (v5 := .string (bs (ex))) (v6 := .bool false) rfl rfl rfl rfl rfl rfl rfl) ?_))
 refine ⟨_, _, _, _, _, _, rfl, ⟨s1, (((s1 : Str).take k).take q), ((s1 : Str).drop (k + 1)), (((s1 : Str).take k).drop (q + 1)), _, _, hng, hs1, by rw [hcut], by rw [hcut]; exact hcut2, rfl, ?_, hmi, hex, ?_⟩, hF.same⟩
 · first | (rw [if_neg (by rw [decide_eq_false (show ¬ q < ((s1 : Str).take k).length by omega)]; decide)]; done) | (rw [if_pos (decide_eq_true (show q < ((s1 : Str).take k).length by omega))] at hre ⊢; exact hre)
 rw [← hre, ← hex]; unfold okR; simp_all
 refine c_iff rfl (c_skip (e_seq (c_seq (c_region (o_val (x_move rfl) (o_val (x_move rfl) (o_val (x_move rfl) (o_val (x_move rfl) (o_val (x_move rfl) (o_val (x_move rfl) (o_val (x_assign rfl) (o_val (x_assign rfl) (o_val (x_assign rfl) ?_)))))))))))))
 refine o_val (x_assign rfl) (o_val (x_assign rfl) (o_val (x_assign rfl) (o_nil (e_seq ?_))))
 refine c_ret (e_ret (post_ret (res_6 (v1 := .bool (ng)) (v2 := .string (bs (((s1 : Str).take (k) : Str).take (q)))) (v3 := .string (bs (re))) (v4 := .bool (mi)) (v5 := .string (bs (ex))) (v6 := .bool false) rfl rfl rfl rfl rfl rfl rfl) ?_))
 refine ⟨_, _, _, _, _, _, rfl, ⟨s1, (((s1 : Str).take k).take q), ((s1 : Str).drop (k + 1)), (((s1 : Str).take k).drop (q + 1)), _, _, hng, hs1, by rw [hcut], by rw [hcut]; exact hcut2, rfl, ?_, hmi, hex, ?_⟩, hF.same⟩
 · first | (rw [if_neg (by rw [decide_eq_false (show ¬ q < ((s1 : Str).take k).length by omega)]; decide)]; done) | (rw [if_pos (decide_eq_true (show q < ((s1 : Str).take k).length by omega))] at hre ⊢; exact hre)
 rw [← hre, ← hex]; unfold okR; simp_all
 refine o_off (o_off (o_val (x_pickf rfl rfl) (o_val (x_move rfl) (o_off (o_off (o_val (x_pickf rfl rfl) (o_val (x_move rfl) (o_off (o_off (o_off (o_off (o_off (o_off ?_)))))))))))))
 refine o_off (o_val (x_pickf rfl rfl) (o_val (x_assign rfl) (o_nil (e_seq (c_seq (c_seq (c_region (o_val (x_move rfl) (o_val (x_move rfl) (o_val (v := .int .i64 (((((s1 : Str).take (k)) : Str).length : Int))) (x_len_string Tryz.underlying9 rfl) (o_val (v := .bool (decide (((q : Int) : Int) = (((((s1 : Str).take (k)) : Str).length : Int) : Int)))) (x_eql rfl rfl) (o_nil (e_seq ?_)))))))))))))
 refine c_splitd (d := 121) (p := ((q : Int) : Int) = (((((s1 : Str).take (k)) : Str).length : Int) : Int)) rfl (fun hc6 => ?_) (fun hc6 => ?_)
 refine c_ift rfl (c_region (o_val (x_assign rfl) (o_nil (e_seq (c_seq (c_region (o_val (x_move rfl) (o_val (x_move rfl) (o_val (x_move rfl) (o_val (x_move rfl) (o_val (x_move rfl) (o_val (x_move rfl) (o_val (x_assign rfl) ?_)))))))))))))
 refine o_val (x_assign rfl) (o_val (x_assign rfl) (o_val (x_assign rfl) (o_val (x_assign rfl) (o_val (x_assign rfl) (o_nil (e_seq ?_))))))
 refine c_ret (e_ret (post_ret (res_6 (v1 := .bool (ng)) (v2 := .string (bs (((s1 : Str).take (k) : Str).take (q)))) (v3 := .string (bs ([]))) (v4 := .bool (mi)) (v5 := .string (bs (ex))) (v6 := .bool false) rfl rfl rfl rfl rfl rfl rfl) ?_))
 refine ⟨_, _, _, _, _, _, rfl, ⟨s1, (((s1 : Str).take k).take q), ((s1 : Str).drop (k + 1)), (((s1 : Str).take k).drop (q + 1)), _, _, hng, hs1, by rw [hcut], by rw [hcut]; exact hcut2, rfl, ?_, hmi, hex, ?_⟩, hF.same⟩
 · first | (rw [if_neg (by rw [decide_eq_false (show ¬ q < ((s1 : Str).take k).length by omega)]; decide)]; done) | (rw [if_pos (decide_eq_true (show q < ((s1 : Str).take k).length by omega))] at hre ⊢; exact hre)
 rw [← hre, ← hex]; unfold okR; simp_all
 refine c_iff rfl (c_skip (e_seq (c_seq (c_region (o_val (x_move rfl) (o_val (x_move rfl) (o_val (x_move rfl) (o_val (x_move rfl) (o_val (x_move rfl) (o_val (x_move rfl) (o_val (x_assign rfl) (o_val (x_assign rfl) (o_val (x_assign rfl) ?_)))))))))))))
 refine o_val (x_assign rfl) (o_val (x_assign rfl) (o_val (x_assign rfl) (o_nil (e_seq ?_))))
 refine c_ret (e_ret (post_ret (res_6 (v1 := .bool (ng)) (v2 := .string (bs (((s1 : Str).take (k) : Str).take (q)))) (v3 := .string (bs (re))) (v4 := .bool (mi)) (v5 := .string (bs (ex))) (v6 := .bool false) rfl rfl rfl rfl rfl rfl rfl) ?_))
 refine ⟨_, _, _, _, _, _, rfl, ⟨s1, (((s1 : Str).take k).take q), ((s1 : Str).drop (k + 1)), (((s1 : Str).take k).drop (q + 1)), _, _, hng, hs1, by rw [hcut], by rw [hcut]; exact hcut2, rfl, ?_, hmi, hex, ?_⟩, hF.same⟩
 · first | (rw [if_neg (by rw [decide_eq_false (show ¬ q < ((s1 : Str).take k).length by omega)]; decide)]; done) | (rw [if_pos (decide_eq_true (show q < ((s1 : Str).take k).length by omega))] at hre ⊢; exact hre)
 rw [← hre, ← hex]; unfold okR; simp_all
 refine o_off (o_off (o_off (o_val (x_pickf rfl rfl) (o_val (x_assign rfl) (o_nil (e_seq (c_seq ?_)))))))
 refine c_join (fun σ w => ∃ (ng : Bool), ∃ (s1 : Str), (ng = headI s 45) ∧ (s1 = if headI s 45 = true then s.drop 1 else s) ∧ AllEq σ [(0, .string (bs (s1))), (8, .bool (ng))] ∧ FR w0 [] [] w) ?_ ?_
 refine c_seq (c_region (o_val (x_move rfl) (o_nil (e_seq (c_iff rfl (c_skip ?_))))))
 · exact e_inv ⟨(false), (s), (by first | exact (headI_d (by omega)).symm | exact (headI_f0 (by omega)).symm), (by first | (rw [if_pos (headI_t (by omega) (by omega))]; done) | (rw [if_neg (by rw [headI_f0 (by omega)]; decide)]; done) | (rw [if_neg (by rw [headI_f1 (by omega)]; decide)]; done)), ⟨rfl, rfl, trivial⟩, hF⟩
 clear hF; rintro σ w ⟨ng, s1, hng, hs1, hs, hF⟩
 refine Eg.slots hs ?_
 clear hs; intro σ
 have hl1 : s1.length ≤ 140737488355328 := by rw [hs1]; split <;> (try simp) <;> omega
 refine e_seq (c_seq (c_region (o_val (x_assign rfl) (o_nil (e_seq (c_seq ?_))))))
 refine c_join (fun σ w => ∃ (k : Nat), (k ≤ s1.length) ∧ (cutAny [101, 69] s1 = (s1.take k, s1.drop (k + 1), decide (k < s1.length))) ∧ AllEq σ [(0, .string (bs (s1))), (8, .bool (ng)), (9, .int .i64 ((k : Int)))] ∧ FR w0 [] [] w) ?_ ?_
 refine c_block ?_
 refine c_loop (fun μ σ w => ∃ (j : Nat), μ = s1.length - j ∧ (j ≤ s1.length) ∧ (∀ c ∈ s1.take j, ([101, 69] : Str).contains c = false) ∧ AllEq σ [(0, .string (bs (s1))), (8, .bool (ng)), (9, .int .i64 ((j : Int)))] ∧ FR w0 [] [] w) _ ⟨0, rfl, (Nat.zero_le _), (by simp), ⟨rfl, rfl, rfl, trivial⟩, hF⟩ ?_
 clear hF; rintro μ σ w ⟨j, rfl, hj, hno, hs, hF⟩
 refine Cg.slots hs ?_
 clear hs; intro σ
 refine c_seq (c_seq (c_region (o_val (x_move rfl) (o_val (x_move rfl) (o_val (v := .int .i64 ((((s1) : Str).length : Int))) (x_len_string Tryz.underlying9 rfl) (o_val (v := .bool (decide (((j : Int) : Int) < ((((s1) : Str).length : Int) : Int)))) (x_lss rfl rfl) (o_val (x_move rfl) ?_)))))))
 refine o_splitd (d := 30) (p := ((j : Int) : Int) < ((((s1) : Str).length : Int) : Int)) rfl (fun hg12 => ?_) (fun hg12 => ?_)
 refine o_val (x_move rfl) (o_val (x_move rfl) (o_val (v := .int .u8 ((((s1 : Str)[j]'(by omega)).toNat : Int))) (x_index (j) Tryz.underlying9 rfl rfl (by omega)) (o_val (v := .bool (decide (((((s1 : Str)[j]'(by omega)).toNat : Int) : Int) ≠ (101 : Int)))) (x_neq rfl rfl) (o_val (x_pickt rfl rfl) (o_val (x_move rfl) ?_)))))
 refine o_splitd (d := 36) (p := ((((s1 : Str)[j]'(by omega)).toNat : Int) : Int) ≠ (101 : Int)) rfl (fun hg13 => ?_) (fun hg13 => ?_)
 refine o_val (x_move rfl) (o_val (x_move rfl) (o_val (v := .int .u8 ((((s1 : Str)[j]'(by omega)).toNat : Int))) (x_index (j) Tryz.underlying9 rfl rfl (by omega)) (o_val (v := .bool (decide (((((s1 : Str)[j]'(by omega)).toNat : Int) : Int) ≠ (69 : Int)))) (x_neq rfl rfl) (o_val (x_pickt rfl rfl) (o_nil (e_seq ?_))))))
 refine c_splitd (d := 41) (p := ((((s1 : Str)[j]'(by omega)).toNat : Int) : Int) ≠ (69 : Int)) rfl (fun hc1 => ?_) (fun hc1 => ?_)
 refine c_ift rfl (c_skip (e_seq (c_block (c_region (o_val (x_move rfl) (o_val (v := .int .i64 (((j + 1 : Nat) : Int))) (x_add rfl rfl (wrap_to (by omega) (by omega) (by omega))) (o_val (x_assign rfl) (o_nil (e_block ?_)))))))))
 refine e_inv ⟨_, ?_, j + 1, rfl, (by omega), (take_no (by omega) hno (eE_out (by omega) (by omega))), ⟨rfl, rfl, rfl, trivial⟩, hF⟩
 omega
 refine c_iff rfl ?_
 refine c_exit (e_exit rfl ?_)
 exact e_inv ⟨(j), (by omega), (cut_end (by omega) hno (fun h => eE_in (by omega))), ⟨rfl, rfl, rfl, trivial⟩, hF⟩
 refine o_off (o_off (o_off (o_off (o_val (x_pickf rfl rfl) (o_nil (e_seq (c_iff rfl ?_)))))))
 refine c_exit (e_exit rfl ?_)
 exact e_inv ⟨(j), (by omega), (cut_end (by omega) hno (fun h => eE_in (by omega))), ⟨rfl, rfl, rfl, trivial⟩, hF⟩
 refine o_off (o_off (o_off (o_off (o_val (x_pickf rfl rfl) (o_val (x_move rfl) (o_off (o_off (o_off (o_off (o_val (x_pickf rfl rfl) (o_nil (e_seq (c_iff rfl ?_)))))))))))))
 refine c_exit (e_exit rfl ?_)
 exact e_inv ⟨(j), (by omega), (cut_end (by omega) hno (fun h => eE_in (by omega))), ⟨rfl, rfl, rfl, trivial⟩, hF⟩
 clear hF; rintro σ w ⟨k, hk, hcut, hs, hF⟩
 refine Eg.slots hs ?_
 clear hs; intro σ
 refine e_seq (c_seq (c_region (o_val (x_assign rfl) (o_nil (e_seq (c_seq (c_region (o_val (x_assign rfl) (o_nil (e_seq ?_))))))))))
 have hZl : ((((s1 : Str).drop (k + 1)) : Str).length : Int) = (s1.length - (k + 1) : Nat) := by simp
 refine c_seq ?_
 refine c_join (fun σ w => ∃ (ex : Str), ∃ (mi : Bool), (ex = expR (decide (k < s1.length)) ((s1 : Str).drop (k + 1))) ∧ (mi = (decide (k < s1.length) && headI ((s1 : Str).drop (k + 1)) 45)) ∧ AllEq σ [(0, .string (bs (s1))), (8, .bool (ng)), (9, .int .i64 ((k : Int))), (10, .string (bs (ex))), (11, .bool (mi))] ∧ FR w0 [] [] w) ?_ ?_
 refine c_seq (c_region (o_val (x_move rfl) (o_val (x_move rfl) (o_val (v := .int .i64 ((((s1) : Str).length : Int))) (x_len_string Tryz.underlying9 rfl) (o_val (v := .bool (decide (((k : Int) : Int) < ((((s1) : Str).length : Int) : Int)))) (x_lss rfl rfl) (o_nil (e_seq ?_)))))))
 refine c_splitd (d := 47) (p := ((k : Int) : Int) < ((((s1) : Str).length : Int) : Int)) rfl (fun hc2 => ?_) (fun hc2 => ?_)
 refine c_ift rfl (c_seq (c_region (o_val (x_move rfl) (o_val (x_move rfl) (o_val (v := .int .i64 (((k + 1 : Nat) : Int))) (x_add rfl rfl (wrap_to (by omega) (by omega) (by omega))) (o_val (v := .string (bs ((s1 : Str).drop (k + 1)))) (x_sliceL (k + 1) Tryz.underlying9 rfl rfl (by omega)) (o_val (x_assign rfl) (o_nil (e_seq (c_seq (c_region (o_val (x_move rfl) (o_val (v := .int .i64 (((((s1 : Str).drop (k + 1)) : Str).length : Int))) (x_len_string Tryz.underlying9 rfl) ?_)))))))))))))
 refine o_val (v := .bool (decide ((0 : Int) < (((((s1 : Str).drop (k + 1)) : Str).length : Int) : Int)))) (x_gtr rfl rfl) (o_val (x_move rfl) ?_)
 refine o_splitd (d := 55) (p := (0 : Int) < (((((s1 : Str).drop (k + 1)) : Str).length : Int) : Int)) rfl (fun hg14 => ?_) (fun hg14 => ?_)
 refine o_val (x_move rfl) ?_
 refine o_val (v := .int .u8 (bZ (((s1 : Str).drop (k + 1))) 0)) (by rw [← bZ_at (s := ((s1 : Str).drop (k + 1))) (p := 0) (by omega)]; exact x_index 0 Tryz.underlying9 rfl rfl (by omega)) ?_
 refine o_val (v := .bool (decide ((bZ (((s1 : Str).drop (k + 1))) 0 : Int) = (45 : Int)))) (x_eql rfl rfl) (o_val (x_pickt rfl rfl) (o_val (x_assign rfl) (o_nil (e_seq (c_seq (c_region (o_val (x_move rfl) (o_val (x_move rfl) ?_))))))))
 refine o_splitd (d := 61) (p := (bZ (((s1 : Str).drop (k + 1))) 0 : Int) = (45 : Int)) rfl (fun hg15 => ?_) (fun hg15 => ?_)
 refine o_off (o_off (o_off (o_off (o_off (o_off (o_off (o_off (o_val (x_pickt rfl rfl) (o_nil (e_seq (c_ift rfl (c_region (o_val (x_move rfl) ?_)))))))))))))
 refine o_val (v := .string (bs (((s1 : Str).drop (k + 1) : Str).drop (1)))) (x_sliceL (1) Tryz.underlying9 rfl rfl (by omega)) (o_val (x_assign rfl) (o_nil ?_))
 exact e_inv ⟨(((s1 : Str).drop (k + 1) : Str).drop (1)), (decide ((bZ (((s1 : Str).drop (k + 1))) 0 : Int) = (45 : Int))), (by first | (rw [decide_eq_true (show k < s1.length by omega)]; first | exact (expR_45 (headI_t (by omega) (by omega))).symm | exact (expR_43 (headI_t (by omega) (by omega))).symm | exact (expR_no (by first | exact headI_f0 (by omega) | exact headI_f1 (by omega)) (by first | exact headI_f0 (by omega) | exact headI_f1 (by omega))).symm) | (rw [decide_eq_false (show ¬ k < s1.length by omega)]; rfl)), (by first | (rw [decide_eq_true (show k < s1.length by omega), Bool.true_and]; first | exact (headI_d (by omega)).symm | exact (headI_f0 (by omega)).symm) | (rw [decide_eq_false (show ¬ k < s1.length by omega)]; rfl)), ⟨rfl, rfl, rfl, rfl, rfl, trivial⟩, hF⟩
 refine o_val (x_move rfl) (o_val (v := .int .i64 (((((s1 : Str).drop (k + 1)) : Str).length : Int))) (x_len_string Tryz.underlying9 rfl) (o_val (v := .bool (decide ((0 : Int) < (((((s1 : Str).drop (k + 1)) : Str).length : Int) : Int)))) (x_gtr rfl rfl) (o_val (x_move rfl) ?_)))
 refine o_splitd (d := 65) (p := (0 : Int) < (((((s1 : Str).drop (k + 1)) : Str).length : Int) : Int)) rfl (fun hg16 => ?_) (fun hg16 => ?_)
 refine o_val (x_move rfl) ?_
 refine o_val (v := .int .u8 (bZ (((s1 : Str).drop (k + 1))) 0)) (by rw [← bZ_at (s := ((s1 : Str).drop (k + 1))) (p := 0) (by omega)]; exact x_index 0 Tryz.underlying9 rfl rfl (by omega)) ?_
 refine o_val (v := .bool (decide ((bZ (((s1 : Str).drop (k + 1))) 0 : Int) = (43 : Int)))) (x_eql rfl rfl) (o_val (x_pickt rfl rfl) (o_val (x_pickf rfl rfl) (o_nil (e_seq ?_))))
 refine c_splitd (d := 70) (p := (bZ (((s1 : Str).drop (k + 1))) 0 : Int) = (43 : Int)) rfl (fun hc3 => ?_) (fun hc3 => ?_)
 refine c_ift rfl (c_region (o_val (x_move rfl) (o_val (v := .string (bs (((s1 : Str).drop (k + 1) : Str).drop (1)))) (x_sliceL (1) Tryz.underlying9 rfl rfl (by omega)) (o_val (x_assign rfl) (o_nil ?_)))))
 exact e_inv ⟨(((s1 : Str).drop (k + 1) : Str).drop (1)), (decide ((bZ (((s1 : Str).drop (k + 1))) 0 : Int) = (45 : Int))), (by first | (rw [decide_eq_true (show k < s1.length by omega)]; first | exact (expR_45 (headI_t (by omega) (by omega))).symm | exact (expR_43 (headI_t (by omega) (by omega))).symm | exact (expR_no (by first | exact headI_f0 (by omega) | exact headI_f1 (by omega)) (by first | exact headI_f0 (by omega) | exact headI_f1 (by omega))).symm) | (rw [decide_eq_false (show ¬ k < s1.length by omega)]; rfl)), (by first | (rw [decide_eq_true (show k < s1.length by omega), Bool.true_and]; first | exact (headI_d (by omega)).symm | exact (headI_f0 (by omega)).symm) | (rw [decide_eq_false (show ¬ k < s1.length by omega)]; rfl)), ⟨rfl, rfl, rfl, rfl, rfl, trivial⟩, hF⟩
 refine c_iff rfl (c_skip ?_)
 exact e_inv ⟨((s1 : Str).drop (k + 1)), (decide ((bZ (((s1 : Str).drop (k + 1))) 0 : Int) = (45 : Int))), (by first | (rw [decide_eq_true (show k < s1.length by omega)]; first | exact (expR_45 (headI_t (by omega) (by omega))).symm | exact (expR_43 (headI_t (by omega) (by omega))).symm | exact (expR_no (by first | exact headI_f0 (by omega) | exact headI_f1 (by omega)) (by first | exact headI_f0 (by omega) | exact headI_f1 (by omega))).symm) | (rw [decide_eq_false (show ¬ k < s1.length by omega)]; rfl)), (by first | (rw [decide_eq_true (show k < s1.length by omega), Bool.true_and]; first | exact (headI_d (by omega)).symm | exact (headI_f0 (by omega)).symm) | (rw [decide_eq_false (show ¬ k < s1.length by omega)]; rfl)), ⟨rfl, rfl, rfl, rfl, rfl, trivial⟩, hF⟩
 refine o_off (o_off (o_off (o_val (x_pickf rfl rfl) (o_val (x_pickf rfl rfl) (o_nil (e_seq (c_iff rfl (c_skip ?_))))))))
 exact e_inv ⟨((s1 : Str).drop (k + 1)), (decide ((bZ (((s1 : Str).drop (k + 1))) 0 : Int) = (45 : Int))), (by first | (rw [decide_eq_true (show k < s1.length by omega)]; first | exact (expR_45 (headI_t (by omega) (by omega))).symm | exact (expR_43 (headI_t (by omega) (by omega))).symm | exact (expR_no (by first | exact headI_f0 (by omega) | exact headI_f1 (by omega)) (by first | exact headI_f0 (by omega) | exact headI_f1 (by omega))).symm) | (rw [decide_eq_false (show ¬ k < s1.length by omega)]; rfl)), (by first | (rw [decide_eq_true (show k < s1.length by omega), Bool.true_and]; first | exact (headI_d (by omega)).symm | exact (headI_f0 (by omega)).symm) | (rw [decide_eq_false (show ¬ k < s1.length by omega)]; rfl)), ⟨rfl, rfl, rfl, rfl, rfl, trivial⟩, hF⟩
 refine o_off (o_off (o_off (o_val (x_pickf rfl rfl) (o_val (x_assign rfl) (o_nil (e_seq (c_seq (c_region (o_val (x_move rfl) (o_val (x_move rfl) (o_val (x_move rfl) (o_val (v := .int .i64 (((((s1 : Str).drop (k + 1)) : Str).length : Int))) (x_len_string Tryz.underlying9 rfl) (o_val (v := .bool (decide ((0 : Int) < (((((s1 : Str).drop (k + 1)) : Str).length : Int) : Int)))) (x_gtr rfl rfl) ?_)))))))))))))
 refine o_val (x_move rfl) ?_
 refine o_splitd (d := 65) (p := (0 : Int) < (((((s1 : Str).drop (k + 1)) : Str).length : Int) : Int)) rfl (fun hg17 => ?_) (fun hg17 => ?_)
 refine o_val (x_move rfl) ?_
 refine o_val (v := .int .u8 (bZ (((s1 : Str).drop (k + 1))) 0)) (by rw [← bZ_at (s := ((s1 : Str).drop (k + 1))) (p := 0) (by omega)]; exact x_index 0 Tryz.underlying9 rfl rfl (by omega)) ?_
 refine o_val (v := .bool (decide ((bZ (((s1 : Str).drop (k + 1))) 0 : Int) = (43 : Int)))) (x_eql rfl rfl) (o_val (x_pickt rfl rfl) (o_val (x_pickf rfl rfl) (o_nil (e_seq ?_))))
 refine c_splitd (d := 70) (p := (bZ (((s1 : Str).drop (k + 1))) 0 : Int) = (43 : Int)) rfl (fun hc3 => ?_) (fun hc3 => ?_)
 refine c_ift rfl (c_region (o_val (x_move rfl) (o_val (v := .string (bs (((s1 : Str).drop (k + 1) : Str).drop (1)))) (x_sliceL (1) Tryz.underlying9 rfl rfl (by omega)) (o_val (x_assign rfl) (o_nil ?_)))))
 exact e_inv ⟨(((s1 : Str).drop (k + 1) : Str).drop (1)), (false), (by first | (rw [decide_eq_true (show k < s1.length by omega)]; first | exact (expR_45 (headI_t (by omega) (by omega))).symm | exact (expR_43 (headI_t (by omega) (by omega))).symm | exact (expR_no (by first | exact headI_f0 (by omega) | exact headI_f1 (by omega)) (by first | exact headI_f0 (by omega) | exact headI_f1 (by omega))).symm) | (rw [decide_eq_false (show ¬ k < s1.length by omega)]; rfl)), (by first | (rw [decide_eq_true (show k < s1.length by omega), Bool.true_and]; first | exact (headI_d (by omega)).symm | exact (headI_f0 (by omega)).symm) | (rw [decide_eq_false (show ¬ k < s1.length by omega)]; rfl)), ⟨rfl, rfl, rfl, rfl, rfl, trivial⟩, hF⟩
 refine c_iff rfl (c_skip ?_)
 exact e_inv ⟨((s1 : Str).drop (k + 1)), (false), (by first | (rw [decide_eq_true (show k < s1.length by omega)]; first | exact (expR_45 (headI_t (by omega) (by omega))).symm | exact (expR_43 (headI_t (by omega) (by omega))).symm | exact (expR_no (by first | exact headI_f0 (by omega) | exact headI_f1 (by omega)) (by first | exact headI_f0 (by omega) | exact headI_f1 (by omega))).symm) | (rw [decide_eq_false (show ¬ k < s1.length by omega)]; rfl)), (by first | (rw [decide_eq_true (show k < s1.length by omega), Bool.true_and]; first | exact (headI_d (by omega)).symm | exact (headI_f0 (by omega)).symm) | (rw [decide_eq_false (show ¬ k < s1.length by omega)]; rfl)), ⟨rfl, rfl, rfl, rfl, rfl, trivial⟩, hF⟩
 refine o_off (o_off (o_off (o_val (x_pickf rfl rfl) (o_val (x_pickf rfl rfl) (o_nil (e_seq (c_iff rfl (c_skip ?_))))))))
 exact e_inv ⟨((s1 : Str).drop (k + 1)), (false), (by first | (rw [decide_eq_true (show k < s1.length by omega)]; first | exact (expR_45 (headI_t (by omega) (by omega))).symm | exact (expR_43 (headI_t (by omega) (by omega))).symm | exact (expR_no (by first | exact headI_f0 (by omega) | exact headI_f1 (by omega)) (by first | exact headI_f0 (by omega) | exact headI_f1 (by omega))).symm) | (rw [decide_eq_false (show ¬ k < s1.length by omega)]; rfl)), (by first | (rw [decide_eq_true (show k < s1.length by omega), Bool.true_and]; first | exact (headI_d (by omega)).symm | exact (headI_f0 (by omega)).symm) | (rw [decide_eq_false (show ¬ k < s1.length by omega)]; rfl)), ⟨rfl, rfl, rfl, rfl, rfl, trivial⟩, hF⟩
 refine c_iff rfl (c_skip ?_)
 exact e_inv ⟨([48]), (false), (by first | (rw [decide_eq_true (show k < s1.length by omega)]; first | exact (expR_45 (headI_t (by omega) (by omega))).symm | exact (expR_43 (headI_t (by omega) (by omega))).symm | exact (expR_no (by first | exact headI_f0 (by omega) | exact headI_f1 (by omega)) (by first | exact headI_f0 (by omega) | exact headI_f1 (by omega))).symm) | (rw [decide_eq_false (show ¬ k < s1.length by omega)]; rfl)), (by first | (rw [decide_eq_true (show k < s1.length by omega), Bool.true_and]; first | exact (headI_d (by omega)).symm | exact (headI_f0 (by omega)).symm) | (rw [decide_eq_false (show ¬ k < s1.length by omega)]; rfl)), ⟨rfl, rfl, rfl, rfl, rfl, trivial⟩, hF⟩
 clear hF; rintro σ w ⟨ex, mi, hex, hmi, hs, hF⟩
 refine Eg.slots hs ?_
 clear hs; intro σ
 have hex2 : ex.length ≤ 140737488355328 := by rw [hex]; unfold expR; (repeat' split) <;> (try simp) <;> omega
 have hlt : (s1.take k).length ≤ 140737488355328 := by simp; omega
 refine e_seq (c_seq (c_region (o_val (x_move rfl) (o_val (x_move rfl) (o_val (v := .string (bs ((s1 : Str).take (k)))) (x_sliceH (k) Tryz.underlying9 rfl rfl (by omega)) (o_val (x_assign rfl) (o_nil (e_seq (c_seq (c_region (o_val (x_assign rfl) (o_nil (e_seq ?_)))))))))))))
 refine c_seq ?_
 refine c_join (fun σ w => ∃ (q : Nat), (q ≤ ((s1 : Str).take k).length) ∧ (cutAny [46] ((s1 : Str).take k) = ((((s1 : Str).take k).take q), (((s1 : Str).take k).drop (q + 1)), decide (q < ((s1 : Str).take k).length))) ∧ AllEq σ [(0, .string (bs ((s1 : Str).take (k)))), (8, .bool (ng)), (9, .int .i64 ((q : Int))), (10, .string (bs (ex))), (11, .bool (mi))] ∧ FR w0 [] [] w) ?_ ?_
 refine c_block ?_
 refine c_loop (fun μ σ w => ∃ (j : Nat), μ = ((s1 : Str).take k).length - j ∧ (j ≤ ((s1 : Str).take k).length) ∧ (∀ c ∈ ((s1 : Str).take k).take j, ([46] : Str).contains c = false) ∧ AllEq σ [(0, .string (bs ((s1 : Str).take (k)))), (8, .bool (ng)), (9, .int .i64 ((j : Int))), (10, .string (bs (ex))), (11, .bool (mi))] ∧ FR w0 [] [] w) _ ⟨0, rfl, (Nat.zero_le _), (by simp), ⟨rfl, rfl, rfl, rfl, rfl, trivial⟩, hF⟩ ?_
 clear hF; rintro μ σ w ⟨j, rfl, hj, hno, hs, hF⟩
 refine Cg.slots hs ?_
 clear hs; intro σ
 refine c_seq (c_seq (c_region (o_val (x_move rfl) (o_val (x_move rfl) (o_val (v := .int .i64 (((((s1 : Str).take (k)) : Str).length : Int))) (x_len_string Tryz.underlying9 rfl) (o_val (v := .bool (decide (((j : Int) : Int) < (((((s1 : Str).take (k)) : Str).length : Int) : Int)))) (x_lss rfl rfl) (o_val (x_move rfl) ?_)))))))
 refine o_splitd (d := 80) (p := ((j : Int) : Int) < (((((s1 : Str).take (k)) : Str).length : Int) : Int)) rfl (fun hg18 => ?_) (fun hg18 => ?_)
 refine o_val (x_move rfl) (o_val (x_move rfl) (o_val (v := .int .u8 (((((s1 : Str).take (k) : Str)[j]'(by omega)).toNat : Int))) (x_index (j) Tryz.underlying9 rfl rfl (by omega)) (o_val (v := .bool (decide ((((((s1 : Str).take (k) : Str)[j]'(by omega)).toNat : Int) : Int) ≠ (46 : Int)))) (x_neq rfl rfl) (o_val (x_pickt rfl rfl) (o_nil (e_seq ?_))))))
 refine c_splitd (d := 85) (p := (((((s1 : Str).take (k) : Str)[j]'(by omega)).toNat : Int) : Int) ≠ (46 : Int)) rfl (fun hc4 => ?_) (fun hc4 => ?_)
 refine c_ift rfl (c_skip (e_seq (c_block (c_region (o_val (x_move rfl) (o_val (v := .int .i64 (((j + 1 : Nat) : Int))) (x_add rfl rfl (wrap_to (by omega) (by omega) (by omega))) (o_val (x_assign rfl) (o_nil (e_block ?_)))))))))
 refine e_inv ⟨_, ?_, j + 1, rfl, (by omega), (take_no (by omega) hno (dot_out (by omega))), ⟨rfl, rfl, rfl, rfl, rfl, trivial⟩, hF⟩
 omega
 refine c_iff rfl ?_
 refine c_exit (e_exit rfl ?_)
 exact e_inv ⟨(j), (by omega), (cut_end (by omega) hno (fun h => dot_in (by omega))), ⟨rfl, rfl, rfl, rfl, rfl, trivial⟩, hF⟩
 refine o_off (o_off (o_off (o_off (o_val (x_pickf rfl rfl) (o_nil (e_seq (c_iff rfl ?_)))))))
 refine c_exit (e_exit rfl ?_)
 exact e_inv ⟨(j), (by omega), (cut_end (by omega) hno (fun h => dot_in (by omega))), ⟨rfl, rfl, rfl, rfl, rfl, trivial⟩, hF⟩
 clear hF; rintro σ w ⟨q, hq, hcut2, hs, hF⟩
 refine Eg.slots hs ?_
 clear hs; intro σ
 refine e_seq (c_seq (c_region (o_val (x_move rfl) (o_val (x_move rfl) (o_val (v := .string (bs (((s1 : Str).take (k) : Str).take (q)))) (x_sliceH (q) Tryz.underlying9 rfl rfl (by omega)) (o_val (x_assign rfl) (o_nil (e_seq (c_seq (c_region (o_val (x_assign rfl) (o_nil (e_seq ?_)))))))))))))
 refine c_seq ?_
 refine c_join (fun σ w => ∃ (re : Str), (re = if decide (q < ((s1 : Str).take k).length) = true then (((s1 : Str).take k).drop (q + 1)) else [48]) ∧ AllEq σ [(0, .string (bs ((s1 : Str).take (k)))), (8, .bool (ng)), (9, .int .i64 ((q : Int))), (10, .string (bs (ex))), (11, .bool (mi)), (12, .string (bs (((s1 : Str).take (k) : Str).take (q)))), (13, .string (bs (re)))] ∧ FR w0 [] [] w) ?_ ?_
 refine c_seq (c_region (o_val (x_move rfl) (o_val (x_move rfl) (o_val (v := .int .i64 (((((s1 : Str).take (k)) : Str).length : Int))) (x_len_string Tryz.underlying9 rfl) (o_val (v := .bool (decide (((q : Int) : Int) < (((((s1 : Str).take (k)) : Str).length : Int) : Int)))) (x_lss rfl rfl) (o_nil (e_seq ?_)))))))
 refine c_splitd (d := 94) (p := ((q : Int) : Int) < (((((s1 : Str).take (k)) : Str).length : Int) : Int)) rfl (fun hc5 => ?_) (fun hc5 => ?_)
 refine c_ift rfl (c_region (o_val (x_move rfl) (o_val (x_move rfl) (o_val (v := .int .i64 (((q + 1 : Nat) : Int))) (x_add rfl rfl (wrap_to (by omega) (by omega) (by omega))) (o_val (v := .string (bs (((s1 : Str).take (k) : Str).drop (q + 1)))) (x_sliceL (q + 1) Tryz.underlying9 rfl rfl (by omega)) (o_val (x_assign rfl) (o_nil ?_)))))))
 · exact e_inv ⟨(((s1 : Str).take (k) : Str).drop (q + 1)), (by first | (rw [if_pos (decide_eq_true (show q < ((s1 : Str).take k).length by omega))]; done) | (rw [if_neg (by rw [decide_eq_false (show ¬ q < ((s1 : Str).take k).length by omega)]; decide)]; done)), ⟨rfl, rfl, rfl, rfl, rfl, rfl, rfl, trivial⟩, hF⟩
 refine c_iff rfl (c_skip ?_)
 · exact e_inv ⟨([48]), (by first | (rw [if_pos (decide_eq_true (show q < ((s1 : Str).take k).length by omega))]; done) | (rw [if_neg (by rw [decide_eq_false (show ¬ q < ((s1 : Str).take k).length by omega)]; decide)]; done)), ⟨rfl, rfl, rfl, rfl, rfl, rfl, rfl, trivial⟩, hF⟩
 clear hF; rintro σ w ⟨re, hre, hs, hF⟩
 refine Eg.slots hs ?_
 clear hs; intro σ
 have hre2 : re.length ≤ 140737488355328 := by rw [hre]; split <;> (try simp) <;> omega
 refine e_seq (c_seq (c_region (o_val (x_move rfl) ?_)))
 refine o_call (rdigits_c (((s1 : Str).take (k) : Str).take (q)) (by have := hlt; first | omega | (simp only [List.length_take, List.length_drop] at *; omega)) _) (x_call1 en_144 rfl rfl) ?_
 rintro _ w ⟨rfl, hE⟩
 replace hF := hF.ext hE
 clear hE
 refine o_val (x_move rfl) ?_
 refine o_split (d := 101) (b := digs (((s1 : Str).take (k) : Str).take (q))) rfl (fun hg19 => ?_) (fun hg19 => ?_)
 refine o_val (x_move rfl) ?_
 refine o_call (rdigits_c (re) hre2 _) (x_call1 en_144 rfl rfl) ?_
 rintro _ w ⟨rfl, hE⟩
 replace hF := hF.ext hE
 clear hE
 refine o_val (x_pickt rfl rfl) (o_val (x_move rfl) ?_)
 refine o_split (d := 105) (b := digs (re)) rfl (fun hg20 => ?_) (fun hg20 => ?_)
 refine o_val (x_move rfl) ?_
 refine o_call (rdigits_c (ex) hex2 _) (x_call1 en_144 rfl rfl) ?_
 rintro _ w ⟨rfl, hE⟩
 replace hF := hF.ext hE
 clear hE
 refine o_val (x_pickt rfl rfl) (o_val (x_move rfl) ?_)
 refine o_split (d := 109) (b := digs (ex)) rfl (fun hg21 => ?_) (fun hg21 => ?_)
 refine o_val (x_move rfl) (o_val (v := .bool (decide ((((s1 : Str).take (k) : Str).take (q) : Str) = [48]))) (x_eqls rfl rfl) (o_val (x_move rfl) ?_))
 refine o_splitd (d := 112) (p := (((s1 : Str).take (k) : Str).take (q) : Str) = [48]) rfl (fun hg22 => ?_) (fun hg22 => ?_)
 refine o_off (o_off (o_off (o_val (x_pickt rfl rfl) (o_val (x_pickt rfl rfl) (o_val (x_assign rfl) (o_nil (e_seq (c_seq (c_seq (c_region (o_val (x_move rfl) (o_val (x_move rfl) (o_val (v := .int .i64 (((((s1 : Str).take (k)) : Str).length : Int))) (x_len_string Tryz.underlying9 rfl) ?_)))))))))))))
 refine o_val (v := .bool (decide (((q : Int) : Int) = (((((s1 : Str).take (k)) : Str).length : Int) : Int)))) (x_eql rfl rfl) (o_nil (e_seq ?_))
 refine c_splitd (d := 121) (p := ((q : Int) : Int) = (((((s1 : Str).take (k)) : Str).length : Int) : Int)) rfl (fun hc6 => ?_) (fun hc6 => ?_)
 refine c_ift rfl (c_region (o_val (x_assign rfl) (o_nil (e_seq (c_seq (c_region (o_val (x_move rfl) (o_val (x_move rfl) (o_val (x_move rfl) (o_val (x_move rfl) (o_val (x_move rfl) (o_val (x_move rfl) (o_val (x_assign rfl) ?_)))))))))))))
 refine o_val (x_assign rfl) (o_val (x_assign rfl) (o_val (x_assign rfl) (o_val (x_assign rfl) (o_val (x_assign rfl) (o_nil (e_seq ?_))))))
 refine c_ret (e_ret (post_ret (res_6 (v1 := .bool (ng)) (v2 := .string (bs (((s1 : Str).take (k) : Str).take (q)))) (v3 := .string (bs ([]))) (v4 := .bool (mi)) (v5 := .string (bs (ex))) (v6 := .bool true) rfl rfl rfl rfl rfl rfl rfl) ?_))
 refine ⟨_, _, _, _, _, _, rfl, ⟨s1, (((s1 : Str).take k).take q), ((s1 : Str).drop (k + 1)), (((s1 : Str).take k).drop (q + 1)), _, _, hng, hs1, by rw [hcut], by rw [hcut]; exact hcut2, rfl, ?_, hmi, hex, ?_⟩, hF.same⟩
 · first | (rw [if_neg (by rw [decide_eq_false (show ¬ q < ((s1 : Str).take k).length by omega)]; decide)]; done) | (rw [if_pos (decide_eq_true (show q < ((s1 : Str).take k).length by omega))] at hre ⊢; exact hre)
 rw [← hre, ← hex]; unfold okR; simp_all
 refine c_iff rfl (c_skip (e_seq (c_seq (c_region (o_val (x_move rfl) (o_val (x_move rfl) (o_val (x_move rfl) (o_val (x_move rfl) (o_val (x_move rfl) (o_val (x_move rfl) (o_val (x_assign rfl) (o_val (x_assign rfl) (o_val (x_assign rfl) ?_)))))))))))))
 refine o_val (x_assign rfl) (o_val (x_assign rfl) (o_val (x_assign rfl) (o_nil (e_seq ?_))))
 refine c_ret (e_ret (post_ret (res_6 (v1 := .bool (ng)) (v2 := .string (bs (((s1 : Str).take (k) : Str).take (q)))) (v3 := .string (bs (re))) (v4 := .bool (mi)) (v5 := .string (bs (ex))) (v6 := .bool true) rfl rfl rfl rfl rfl rfl rfl) ?_))
 refine ⟨_, _, _, _, _, _, rfl, ⟨s1, (((s1 : Str).take k).take q), ((s1 : Str).drop (k + 1)), (((s1 : Str).take k).drop (q + 1)), _, _, hng, hs1, by rw [hcut], by rw [hcut]; exact hcut2, rfl, ?_, hmi, hex, ?_⟩, hF.same⟩
 · first | (rw [if_neg (by rw [decide_eq_false (show ¬ q < ((s1 : Str).take k).length by omega)]; decide)]; done) | (rw [if_pos (decide_eq_true (show q < ((s1 : Str).take k).length by omega))] at hre ⊢; exact hre)
 rw [← hre, ← hex]; unfold okR; simp_all
 refine o_val (x_move rfl) ?_
 refine o_val (v := .int .u8 (bZ ((((s1 : Str).take k).take q)) 0)) (by rw [← bZ_at (s := (((s1 : Str).take k).take q)) (p := 0) (List.length_pos_iff.2 (digs_ne (by assumption)))]; exact x_index 0 Tryz.underlying9 rfl rfl (List.length_pos_iff.2 (digs_ne (by assumption)))) ?_
 refine o_val (v := .bool (decide ((bZ ((((s1 : Str).take k).take q)) 0 : Int) ≠ (48 : Int)))) (x_neq rfl rfl) (o_val (x_pickf rfl rfl) (o_val (x_pickt rfl rfl) (o_val (x_assign rfl) (o_nil (e_seq (c_seq (c_seq (c_region (o_val (x_move rfl) (o_val (x_move rfl) (o_val (v := .int .i64 (((((s1 : Str).take (k)) : Str).length : Int))) (x_len_string Tryz.underlying9 rfl) (o_val (v := .bool (decide (((q : Int) : Int) = (((((s1 : Str).take (k)) : Str).length : Int) : Int)))) (x_eql rfl rfl) (o_nil ?_)))))))))))))
 refine e_seq ?_
 refine c_splitd (d := 121) (p := ((q : Int) : Int) = (((((s1 : Str).take (k)) : Str).length : Int) : Int)) rfl (fun hc6 => ?_) (fun hc6 => ?_)
 refine c_ift rfl (c_region (o_val (x_assign rfl) (o_nil (e_seq (c_seq (c_region (o_val (x_move rfl) (o_val (x_move rfl) (o_val (x_move rfl) (o_val (x_move rfl) (o_val (x_move rfl) (o_val (x_move rfl) (o_val (x_assign rfl) ?_)))))))))))))
 refine o_val (x_assign rfl) (o_val (x_assign rfl) (o_val (x_assign rfl) (o_val (x_assign rfl) (o_val (x_assign rfl) (o_nil (e_seq ?_))))))
 refine c_ret (e_ret (post_ret (res_6 (v1 := .bool (ng)) (v2 := .string (bs (((s1 : Str).take (k) : Str).take (q)))) (v3 := .string (bs ([]))) (v4 := .bool (mi)) (v5 := .string (bs (ex))) (v6 := .bool (decide ((bZ ((((s1 : Str).take k).take q)) 0 : Int) ≠ (48 : Int)))) rfl rfl rfl rfl rfl rfl rfl) ?_))
 refine ⟨_, _, _, _, _, _, rfl, ⟨s1, (((s1 : Str).take k).take q), ((s1 : Str).drop (k + 1)), (((s1 : Str).take k).drop (q + 1)), _, _, hng, hs1, by rw [hcut], by rw [hcut]; exact hcut2, rfl, ?_, hmi, hex, ?_⟩, hF.same⟩
 · first | (rw [if_neg (by rw [decide_eq_false (show ¬ q < ((s1 : Str).take k).length by omega)]; decide)]; done) | (rw [if_pos (decide_eq_true (show q < ((s1 : Str).take k).length by omega))] at hre ⊢; exact hre)
 rw [← hre, ← hex]; unfold okR; simp_all
 refine c_iff rfl (c_skip (e_seq (c_seq (c_region (o_val (x_move rfl) (o_val (x_move rfl) (o_val (x_move rfl) (o_val (x_move rfl) (o_val (x_move rfl) (o_val (x_move rfl) (o_val (x_assign rfl) (o_val (x_assign rfl) (o_val (x_assign rfl) ?_)))))))))))))
 refine o_val (x_assign rfl) (o_val (x_assign rfl) (o_val (x_assign rfl) (o_nil (e_seq ?_))))
 refine c_ret (e_ret (post_ret (res_6 (v1 := .bool (ng)) (v2 := .string (bs (((s1 : Str).take (k) : Str).take (q)))) (v3 := .string (bs (re))) (v4 := .bool (mi)) (v5 := .string (bs (ex))) (v6 := .bool (decide ((bZ ((((s1 : Str).take k).take q)) 0 : Int) ≠ (48 : Int)))) rfl rfl rfl rfl rfl rfl rfl) ?_))
 refine ⟨_, _, _, _, _, _, rfl, ⟨s1, (((s1 : Str).take k).take q), ((s1 : Str).drop (k + 1)), (((s1 : Str).take k).drop (q + 1)), _, _, hng, hs1, by rw [hcut], by rw [hcut]; exact hcut2, rfl, ?_, hmi, hex, ?_⟩, hF.same⟩
 · first | (rw [if_neg (by rw [decide_eq_false (show ¬ q < ((s1 : Str).take k).length by omega)]; decide)]; done) | (rw [if_pos (decide_eq_true (show q < ((s1 : Str).take k).length by omega))] at hre ⊢; exact hre)
 rw [← hre, ← hex]; unfold okR; simp_all
 refine o_off (o_off (o_off (o_off (o_off (o_off (o_off (o_val (x_pickf rfl rfl) (o_val (x_assign rfl) (o_nil (e_seq (c_seq (c_seq (c_region ?_)))))))))))))
 refine o_val (x_move rfl) (o_val (x_move rfl) (o_val (v := .int .i64 (((((s1 : Str).take (k)) : Str).length : Int))) (x_len_string Tryz.underlying9 rfl) (o_val (v := .bool (decide (((q : Int) : Int) = (((((s1 : Str).take (k)) : Str).length : Int) : Int)))) (x_eql rfl rfl) (o_nil (e_seq ?_)))))
 refine c_splitd (d := 121) (p := ((q : Int) : Int) = (((((s1 : Str).take (k)) : Str).length : Int) : Int)) rfl (fun hc6 => ?_) (fun hc6 => ?_)
 refine c_ift rfl (c_region (o_val (x_assign rfl) (o_nil (e_seq (c_seq (c_region (o_val (x_move rfl) (o_val (x_move rfl) (o_val (x_move rfl) (o_val (x_move rfl) (o_val (x_move rfl) (o_val (x_move rfl) (o_val (x_assign rfl) ?_)))))))))))))
 refine o_val (x_assign rfl) (o_val (x_assign rfl) (o_val (x_assign rfl) (o_val (x_assign rfl) (o_val (x_assign rfl) (o_nil (e_seq ?_))))))
 refine c_ret (e_ret (post_ret (res_6 (v1 := .bool (ng)) (v2 := .string (bs (((s1 : Str).take (k) : Str).take (q)))) (v3 := .string (bs ([]))) (v4 := .bool (mi)) (v5 := .string (bs (ex))) (v6 := .bool false) rfl rfl rfl rfl rfl rfl rfl) ?_))
 refine ⟨_, _, _, _, _, _, rfl, ⟨s1, (((s1 : Str).take k).take q), ((s1 : Str).drop (k + 1)), (((s1 : Str).take k).drop (q + 1)), _, _, hng, hs1, by rw [hcut], by rw [hcut]; exact hcut2, rfl, ?_, hmi, hex, ?_⟩, hF.same⟩
 · first | (rw [if_neg (by rw [decide_eq_false (show ¬ q < ((s1 : Str).take k).length by omega)]; decide)]; done) | (rw [if_pos (decide_eq_true (show q < ((s1 : Str).take k).length by omega))] at hre ⊢; exact hre)
 rw [← hre, ← hex]; unfold okR; simp_all
 refine c_iff rfl (c_skip (e_seq (c_seq (c_region (o_val (x_move rfl) (o_val (x_move rfl) (o_val (x_move rfl) (o_val (x_move rfl) (o_val (x_move rfl) (o_val (x_move rfl) (o_val (x_assign rfl) (o_val (x_assign rfl) (o_val (x_assign rfl) ?_)))))))))))))
 refine o_val (x_assign rfl) (o_val (x_assign rfl) (o_val (x_assign rfl) (o_nil (e_seq ?_))))
 refine c_ret (e_ret (post_ret (res_6 (v1 := .bool (ng)) (v2 := .string (bs (((s1 : Str).take (k) : Str).take (q)))) (v3 := .string (bs (re))) (v4 := .bool (mi)) (v5 := .string (bs (ex))) (v6 := .bool false) rfl rfl rfl rfl rfl rfl rfl) ?_))
 refine ⟨_, _, _, _, _, _, rfl, ⟨s1, (((s1 : Str).take k).take q), ((s1 : Str).drop (k + 1)), (((s1 : Str).take k).drop (q + 1)), _, _, hng, hs1, by rw [hcut], by rw [hcut]; exact hcut2, rfl, ?_, hmi, hex, ?_⟩, hF.same⟩
 · first | (rw [if_neg (by rw [decide_eq_false (show ¬ q < ((s1 : Str).take k).length by omega)]; decide)]; done) | (rw [if_pos (decide_eq_true (show q < ((s1 : Str).take k).length by omega))] at hre ⊢; exact hre)
 rw [← hre, ← hex]; unfold okR; simp_all
 refine o_off (o_off (o_val (x_pickf rfl rfl) (o_val (x_move rfl) (o_off (o_off (o_off (o_off (o_off (o_off (o_off (o_val (x_pickf rfl rfl) (o_val (x_assign rfl) (o_nil ?_)))))))))))))
 refine e_seq (c_seq (c_seq (c_region (o_val (x_move rfl) (o_val (x_move rfl) (o_val (v := .int .i64 (((((s1 : Str).take (k)) : Str).length : Int))) (x_len_string Tryz.underlying9 rfl) (o_val (v := .bool (decide (((q : Int) : Int) = (((((s1 : Str).take (k)) : Str).length : Int) : Int)))) (x_eql rfl rfl) (o_nil (e_seq ?_)))))))))
 refine c_splitd (d := 121) (p := ((q : Int) : Int) = (((((s1 : Str).take (k)) : Str).length : Int) : Int)) rfl (fun hc6 => ?_) (fun hc6 => ?_)
 refine c_ift rfl (c_region (o_val (x_assign rfl) (o_nil (e_seq (c_seq (c_region (o_val (x_move rfl) (o_val (x_move rfl) (o_val (x_move rfl) (o_val (x_move rfl) (o_val (x_move rfl) (o_val (x_move rfl) (o_val (x_assign rfl) ?_)))))))))))))
 refine o_val (x_assign rfl) (o_val (x_assign rfl) (o_val (x_assign rfl) (o_val (x_assign rfl) (o_val (x_assign rfl) (o_nil (e_seq ?_))))))
 refine c_ret (e_ret (post_ret (res_6 (v1 := .bool (ng)) (v2 := .string (bs (((s1 : Str).take (k) : Str).take (q)))) (v3 := .string (bs ([]))) (v4 := .bool (mi)) (v5 := .string (bs (ex))) (v6 := .bool false) rfl rfl rfl rfl rfl rfl rfl) ?_))
 refine ⟨_, _, _, _, _, _, rfl, ⟨s1, (((s1 : Str).take k).take q), ((s1 : Str).drop (k + 1)), (((s1 : Str).take k).drop (q + 1)), _, _, hng, hs1, by rw [hcut], by rw [hcut]; exact hcut2, rfl, ?_, hmi, hex, ?_⟩, hF.same⟩
 · first | (rw [if_neg (by rw [decide_eq_false (show ¬ q < ((s1 : Str).take k).length by omega)]; decide)]; done) | (rw [if_pos (decide_eq_true (show q < ((s1 : Str).take k).length by omega))] at hre ⊢; exact hre)
 rw [← hre, ← hex]; unfold okR; simp_all
 refine c_iff rfl (c_skip (e_seq (c_seq (c_region (o_val (x_move rfl) (o_val (x_move rfl) (o_val (x_move rfl) (o_val (x_move rfl) (o_val (x_move rfl) (o_val (x_move rfl) (o_val (x_assign rfl) (o_val (x_assign rfl) (o_val (x_assign rfl) ?_)))))))))))))
 refine o_val (x_assign rfl) (o_val (x_assign rfl) (o_val (x_assign rfl) (o_nil (e_seq ?_))))
 refine c_ret (e_ret (post_ret (res_6 (v1 := .bool (ng)) (v2 := .string (bs (((s1 : Str).take (k) : Str).take (q)))) (v3 := .string (bs (re))) (v4 := .bool (mi)) (v5 := .string (bs (ex))) (v6 := .bool false) rfl rfl rfl rfl rfl rfl rfl) ?_))
 refine ⟨_, _, _, _, _, _, rfl, ⟨s1, (((s1 : Str).take k).take q), ((s1 : Str).drop (k + 1)), (((s1 : Str).take k).drop (q + 1)), _, _, hng, hs1, by rw [hcut], by rw [hcut]; exact hcut2, rfl, ?_, hmi, hex, ?_⟩, hF.same⟩
 · first | (rw [if_neg (by rw [decide_eq_false (show ¬ q < ((s1 : Str).take k).length by omega)]; decide)]; done) | (rw [if_pos (decide_eq_true (show q < ((s1 : Str).take k).length by omega))] at hre ⊢; exact hre)
 rw [← hre, ← hex]; unfold okR; simp_all
 refine o_off (o_off (o_val (x_pickf rfl rfl) (o_val (x_move rfl) (o_off (o_off (o_val (x_pickf rfl rfl) (o_val (x_move rfl) (o_off (o_off (o_off (o_off (o_off (o_off ?_)))))))))))))
 refine o_off (o_val (x_pickf rfl rfl) (o_val (x_assign rfl) (o_nil (e_seq (c_seq (c_seq (c_region (o_val (x_move rfl) (o_val (x_move rfl) (o_val (v := .int .i64 (((((s1 : Str).take (k)) : Str).length : Int))) (x_len_string Tryz.underlying9 rfl) (o_val (v := .bool (decide (((q : Int) : Int) = (((((s1 : Str).take (k)) : Str).length : Int) : Int)))) (x_eql rfl rfl) (o_nil (e_seq ?_)))))))))))))
 refine c_splitd (d := 121) (p := ((q : Int) : Int) = (((((s1 : Str).take (k)) : Str).length : Int) : Int)) rfl (fun hc6 => ?_) (fun hc6 => ?_)
 refine c_ift rfl (c_region (o_val (x_assign rfl) (o_nil (e_seq (c_seq (c_region (o_val (x_move rfl) (o_val (x_move rfl) (o_val (x_move rfl) (o_val (x_move rfl) (o_val (x_move rfl) (o_val (x_move rfl) (o_val (x_assign rfl) ?_)))))))))))))
 refine o_val (x_assign rfl) (o_val (x_assign rfl) (o_val (x_assign rfl) (o_val (x_assign rfl) (o_val (x_assign rfl) (o_nil (e_seq ?_))))))
 refine c_ret (e_ret (post_ret (res_6 (v1 := .bool (ng)) (v2 := .string (bs (((s1 : Str).take (k) : Str).take (q)))) (v3 := .string (bs ([]))) (v4 := .bool (mi)) (v5 := .string (bs (ex))) (v6 := .bool false) rfl rfl rfl rfl rfl rfl rfl) ?_))
 refine ⟨_, _, _, _, _, _, rfl, ⟨s1, (((s1 : Str).take k).take q), ((s1 : Str).drop (k + 1)), (((s1 : Str).take k).drop (q + 1)), _, _, hng, hs1, by rw [hcut], by rw [hcut]; exact hcut2, rfl, ?_, hmi, hex, ?_⟩, hF.same⟩
 · first | (rw [if_neg (by rw [decide_eq_false (show ¬ q < ((s1 : Str).take k).length by omega)]; decide)]; done) | (rw [if_pos (decide_eq_true (show q < ((s1 : Str).take k).length by omega))] at hre ⊢; exact hre)
 rw [← hre, ← hex]; unfold okR; simp_all
 refine c_iff rfl (c_skip (e_seq (c_seq (c_region (o_val (x_move rfl) (o_val (x_move rfl) (o_val (x_move rfl) (o_val (x_move rfl) (o_val (x_move rfl) (o_val (x_move rfl) (o_val (x_assign rfl) (o_val (x_assign rfl) (o_val (x_assign rfl) ?_)))))))))))))
 refine o_val (x_assign rfl) (o_val (x_assign rfl) (o_val (x_assign rfl) (o_nil (e_seq ?_))))
 refine c_ret (e_ret (post_ret (res_6 (v1 := .bool (ng)) (v2 := .string (bs (((s1 : Str).take (k) : Str).take (q)))) (v3 := .string (bs (re))) (v4 := .bool (mi)) (v5 := .string (bs (ex))) (v6 := .bool false) rfl rfl rfl rfl rfl rfl rfl) ?_))
 refine ⟨_, _, _, _, _, _, rfl, ⟨s1, (((s1 : Str).take k).take q), ((s1 : Str).drop (k + 1)), (((s1 : Str).take k).drop (q + 1)), _, _, hng, hs1, by rw [hcut], by rw [hcut]; exact hcut2, rfl, ?_, hmi, hex, ?_⟩, hF.same⟩
 · first | (rw [if_neg (by rw [decide_eq_false (show ¬ q < ((s1 : Str).take k).length by omega)]; decide)]; done) | (rw [if_pos (decide_eq_true (show q < ((s1 : Str).take k).length by omega))] at hre ⊢; exact hre)
 rw [← hre, ← hex]; unfold okR; simp_all
end Go.Scarf
