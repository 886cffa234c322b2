/- A part of the proof. -/
import Derived.Test.YtehigfneiofjnaaGreatDoorW4
import Derived.Test.YtehigfneiofjnaaGreatDoorW19
import Derived.Lib.DecodeN
import Derived.Test.YtehigfneiofjnaaGreatDoorW2
import Derived.Lib.ItoaMem
set_option linter.all false
set_option maxHeartbeats 8000000
set_option maxRecDepth 10000
namespace Go.Scarf
open Go.RowKit Go.Proofs Go.Proofs.Tryz
def Qh (c : Int) : Int := if c < 128 then 1 else if 194 ≤ c ∧ c ≤ 223 then 2 else if 224 ≤ c ∧ c ≤ 239 then 3 else if 240 ≤ c ∧ c ≤ 244 then 4 else 0
theorem GD (c : Int) : Qh c = 0 ∨ Qh c = 1 ∨ Qh c = 2 ∨ Qh c = 3 ∨ Qh c = 4 := by
  unfold Qh
  repeat' split
  all_goals simp
def bZ (s : Str) (p : Nat) : Int := (((bs s).get! p).toNat : Int)
theorem Nh {s : Str} {p : Nat} (h : p < s.length) : ((s[p].toNat : Nat) : Int) = bZ s p := by
  have h' : p < (bs s).data.toList.length := h
  unfold bZ
  have : (bs s).get! p = s[p] := by
    show (bs s).data[p]! = s[p]
    rw [getElem!_pos (bs s).data p (by simpa using h')]
    rfl
  rw [this]
theorem Wh (s : Str) (p : Nat) : 0 ≤ bZ s p ∧ bZ s p < 256 := by
  unfold bZ
  have := UInt8.toNat_lt ((bs s).get! p)
  omega
theorem Wz (s : Str) (p : Nat) : Utf8.decode (bs s) p = Lib.decodeN (s.length - p) (bZ s p).toNat (bZ s (p + 1)).toNat (bZ s (p + 2)).toNat (bZ s (p + 3)).toNat := by
  rw [Lib.decode_at]
  rfl
theorem GO {s : Str} {p i : Nat} {v v3 : Int} (h1 : 1 ≤ i) (h4 : i < 4)
    (hv : (i = 1 → v = v3) ∧ (i = 2 → v = 64 * v3 + bZ s (p + 1) - 128) ∧ (i = 3 → v = 64 * (64 * v3 + bZ s (p + 1) - 128) + bZ s (p + 2) - 128) ∧ (i = 4 → v = 64 * (64 * (64 * v3 + bZ s (p + 1) - 128) + bZ s (p + 2) - 128) + bZ s (p + 3) - 128)) :
    (i + 1 = 1 → 64 * v + bZ s (p + i) - 128 = v3) ∧ (i + 1 = 2 → 64 * v + bZ s (p + i) - 128 = 64 * v3 + bZ s (p + 1) - 128) ∧ (i + 1 = 3 → 64 * v + bZ s (p + i) - 128 = 64 * (64 * v3 + bZ s (p + 1) - 128) + bZ s (p + 2) - 128) ∧ (i + 1 = 4 → 64 * v + bZ s (p + i) - 128 = 64 * (64 * (64 * v3 + bZ s (p + 1) - 128) + bZ s (p + 2) - 128) + bZ s (p + 3) - 128) := by
  obtain rfl | rfl | rfl : i = 1 ∨ i = 2 ∨ i = 3 := by omega
  · rw [hv.1 rfl]; exact ⟨fun h => absurd h by_Om, fun _ => rfl, fun h => absurd h by_Om, fun h => absurd h by_Om⟩
  · rw [hv.2.1 rfl]; exact ⟨fun h => absurd h by_Om, fun h => absurd h by_Om, fun _ => rfl, fun h => absurd h by_Om⟩
  · rw [hv.2.2.1 rfl]; exact ⟨fun h => absurd h by_Om, fun h => absurd h by_Om, fun h => absurd h by_Om, fun _ => rfl⟩
theorem OK {s : Str} {p i : Nat} (h1 : 1 ≤ i) (h4 : i < 4) (hc : 128 ≤ bZ s (p + i) ∧ bZ s (p + i) ≤ 191)
    (hcb : (2 ≤ i → 128 ≤ bZ s (p + 1) ∧ bZ s (p + 1) ≤ 191) ∧ (3 ≤ i → 128 ≤ bZ s (p + 2) ∧ bZ s (p + 2) ≤ 191) ∧ (4 ≤ i → 128 ≤ bZ s (p + 3) ∧ bZ s (p + 3) ≤ 191)) :
    (2 ≤ i + 1 → 128 ≤ bZ s (p + 1) ∧ bZ s (p + 1) ≤ 191) ∧ (3 ≤ i + 1 → 128 ≤ bZ s (p + 2) ∧ bZ s (p + 2) ≤ 191) ∧ (4 ≤ i + 1 → 128 ≤ bZ s (p + 3) ∧ bZ s (p + 3) ≤ 191) := by
  obtain rfl | rfl | rfl : i = 1 ∨ i = 2 ∨ i = 3 := by omega
  · exact ⟨fun _ => hc, fun h => absurd h by_Om, fun h => absurd h by_Om⟩
  · exact ⟨fun _ => hcb.1 by_Om, fun _ => hc, fun h => absurd h by_Om⟩
  · exact ⟨fun _ => hcb.1 by_Om, fun _ => hcb.2.1 by_Om, fun _ => hc⟩
theorem HO {s : Str} {p i : Nat} {v v3 : Int} (h1 : 1 ≤ i) (h4 : i ≤ 4) (h0 : 0 ≤ v3 ∧ v3 ≤ 255)
    (hv : (i = 1 → v = v3) ∧ (i = 2 → v = 64 * v3 + bZ s (p + 1) - 128) ∧ (i = 3 → v = 64 * (64 * v3 + bZ s (p + 1) - 128) + bZ s (p + 2) - 128) ∧ (i = 4 → v = 64 * (64 * (64 * v3 + bZ s (p + 1) - 128) + bZ s (p + 2) - 128) + bZ s (p + 3) - 128))
    (hcb : (2 ≤ i → 128 ≤ bZ s (p + 1) ∧ bZ s (p + 1) ≤ 191) ∧ (3 ≤ i → 128 ≤ bZ s (p + 2) ∧ bZ s (p + 2) ≤ 191) ∧ (4 ≤ i → 128 ≤ bZ s (p + 3) ∧ bZ s (p + 3) ≤ 191))
    (r1 : 0 ≤ bZ s (p + 1) ∧ bZ s (p + 1) < 256) (r2 : 0 ≤ bZ s (p + 2) ∧ bZ s (p + 2) < 256) (r3 : 0 ≤ bZ s (p + 3) ∧ bZ s (p + 3) < 256) : 0 ≤ v ∧ v < 100000000 := by
  obtain rfl | rfl | rfl | rfl : i = 1 ∨ i = 2 ∨ i = 3 ∨ i = 4 := by omega
  · have := hv.1 rfl; clear hv hcb; omega
  · have := hv.2.1 rfl; have := hcb.1 by_Om; clear hv hcb; omega
  · have := hv.2.2.1 rfl; have := hcb.1 by_Om; have := hcb.2.1 by_Om; clear hv hcb; omega
  · have := hv.2.2.2 rfl; have := hcb.1 by_Om; have := hcb.2.1 by_Om; have := hcb.2.2 by_Om; clear hv hcb; omega
theorem Ze {a b : Int} {d : Nat × Nat} (h1 : a = (d.1 : Int)) (h2 : b = (d.2 : Int)) : Value.tuple #[.int .i32 a, .int .i64 b] = .tuple #[.int .i32 (d.1 : Int), .int .i64 (d.2 : Int)] := by rw [h1, h2]
theorem DQ {m b0 b1 b2 b3 : Nat} (h : (128 ≤ b0 ∧ b0 < 194) ∨ (245 ≤ b0 ∧ b0 < 256)) : Lib.decodeN m b0 b1 b2 b3 = (65533, 1) := by
  unfold Lib.decodeN
  rw [if_neg by_Om]
  by_cases h1 : b0 / 32 = 6
  · have h2 : b0 % 32 < 2 := by omega
    have h3 : ¬ b0 / 16 = 14 := by omega
    have h4 : ¬ b0 / 8 = 30 := by omega
    have h5 : ¬ (b0 % 32 * 64 + b1 % 64 ≥ 128) := by omega
    by_cases hc : 1 < m ∧ b1 / 64 = 2
    · rw [if_pos ⟨h1, hc⟩, if_neg h5]
    · rw [if_neg (fun h => hc h.2), if_neg (fun h => h3 h.1), if_neg (fun h => h4 h.1)]
  · have h3 : ¬ b0 / 16 = 14 := by omega
    rw [if_neg (fun h => h1 h.1), if_neg (fun h => h3 h.1)]
    by_cases h4 : b0 / 8 = 30
    · have h6 : 5 ≤ b0 % 8 := by omega
      split
      · rw [if_neg by_Om]
      · rfl
    · rw [if_neg (fun h => h4 h.1)]
theorem XP {m b0 b1 b2 b3 : Nat} (h : b0 < 128) : Lib.decodeN m b0 b1 b2 b3 = (b0, 1) := by
  unfold Lib.decodeN
  rw [if_pos h]
theorem P_ {m b0 b1 b2 b3 : Nat} (h : 194 ≤ b0 ∧ b0 < 224) (h1 : b1 < 256) : Lib.decodeN m b0 b1 b2 b3 = if 1 < m ∧ (128 ≤ b1 ∧ b1 ≤ 191) then (64 * (b0 - 192) + (b1 - 128), 2) else (65533, 1) := by
  unfold Lib.decodeN
  have e2 : b0 / 32 = 6 := by omega
  have e3 : ¬ b0 / 16 = 14 := by omega
  have e4 : ¬ b0 / 8 = 30 := by omega
  rw [if_neg by_Om]
  by_cases hc : 1 < m ∧ (128 ≤ b1 ∧ b1 ≤ 191)
  · have ec : b1 / 64 = 2 := by omega
    have ev : b0 % 32 * 64 + b1 % 64 = 64 * (b0 - 192) + (b1 - 128) := by omega
    have eg : 64 * (b0 - 192) + (b1 - 128) ≥ 128 := by omega
    rw [if_pos hc, if_pos ⟨e2, hc.1, ec⟩, ev, if_pos eg]
  · rw [if_neg hc, if_neg (fun h => hc ⟨h.2.1, by omega⟩), if_neg (fun h => e3 h.1), if_neg (fun h => e4 h.1)]
theorem J9 {m b0 b1 b2 b3 : Nat} (h : 224 ≤ b0 ∧ b0 < 240) (h1 : b1 < 256) (h2 : b2 < 256) : Lib.decodeN m b0 b1 b2 b3 = if 2 < m ∧ (128 ≤ b1 ∧ b1 ≤ 191) ∧ (128 ≤ b2 ∧ b2 ≤ 191) then
    (if 64 * (64 * (b0 - 224) + (b1 - 128)) + (b2 - 128) < 2048 ∨ (55296 ≤ 64 * (64 * (b0 - 224) + (b1 - 128)) + (b2 - 128) ∧ 64 * (64 * (b0 - 224) + (b1 - 128)) + (b2 - 128) < 57344) then (65533, 1) else (64 * (64 * (b0 - 224) + (b1 - 128)) + (b2 - 128), 3)) else (65533, 1) := by
  unfold Lib.decodeN
  have e2 : ¬ b0 / 32 = 6 := by omega
  have e3 : b0 / 16 = 14 := by omega
  have e4 : ¬ b0 / 8 = 30 := by omega
  rw [if_neg by_Om, if_neg (fun h => e2 h.1)]
  by_cases hc : 2 < m ∧ (128 ≤ b1 ∧ b1 ≤ 191) ∧ (128 ≤ b2 ∧ b2 ≤ 191)
  · have c1 : b1 / 64 = 2 := by omega
    have c2 : b2 / 64 = 2 := by omega
    have ev : b0 % 16 * 4096 + b1 % 64 * 64 + b2 % 64 = 64 * (64 * (b0 - 224) + (b1 - 128)) + (b2 - 128) := by omega
    rw [if_pos hc, if_pos ⟨e3, ⟨by omega, c1⟩, hc.1, c2⟩, ev]
    have hlt : 64 * (64 * (b0 - 224) + (b1 - 128)) + (b2 - 128) < 65536 := by omega
    generalize 64 * (64 * (b0 - 224) + (b1 - 128)) + (b2 - 128) = v at *
    by_cases hv : v < 2048 ∨ (55296 ≤ v ∧ v < 57344)
    · rw [if_pos hv, if_neg by_Om]
    · rw [if_neg hv, if_pos by_Om]
  · rw [if_neg hc, if_neg (fun h => hc ⟨h.2.2.1, by omega, by omega⟩), if_neg (fun h => e4 h.1)]
theorem N_ {m b0 b1 b2 b3 : Nat} (h : 240 ≤ b0 ∧ b0 < 245) (h1 : b1 < 256) (h2 : b2 < 256) (h3 : b3 < 256) : Lib.decodeN m b0 b1 b2 b3 = if 3 < m ∧ (128 ≤ b1 ∧ b1 ≤ 191) ∧ (128 ≤ b2 ∧ b2 ≤ 191) ∧ (128 ≤ b3 ∧ b3 ≤ 191) then
    (if 64 * (64 * (64 * (b0 - 240) + (b1 - 128)) + (b2 - 128)) + (b3 - 128) < 65536 ∨ 1114111 < 64 * (64 * (64 * (b0 - 240) + (b1 - 128)) + (b2 - 128)) + (b3 - 128) then (65533, 1) else (64 * (64 * (64 * (b0 - 240) + (b1 - 128)) + (b2 - 128)) + (b3 - 128), 4)) else (65533, 1) := by
  unfold Lib.decodeN
  have e2 : ¬ b0 / 32 = 6 := by omega
  have e3 : ¬ b0 / 16 = 14 := by omega
  have e4 : b0 / 8 = 30 := by omega
  rw [if_neg by_Om, if_neg (fun h => e2 h.1), if_neg (fun h => e3 h.1)]
  by_cases hc : 3 < m ∧ (128 ≤ b1 ∧ b1 ≤ 191) ∧ (128 ≤ b2 ∧ b2 ≤ 191) ∧ (128 ≤ b3 ∧ b3 ≤ 191)
  · have c1 : b1 / 64 = 2 := by omega
    have c2 : b2 / 64 = 2 := by omega
    have c3 : b3 / 64 = 2 := by omega
    have ev : b0 % 8 * 262144 + b1 % 64 * 4096 + b2 % 64 * 64 + b3 % 64 = 64 * (64 * (64 * (b0 - 240) + (b1 - 128)) + (b2 - 128)) + (b3 - 128) := by omega
    rw [if_pos hc, if_pos ⟨e4, ⟨by omega, c1⟩, ⟨by omega, c2⟩, hc.1, c3⟩, ev]
    generalize 64 * (64 * (64 * (b0 - 240) + (b1 - 128)) + (b2 - 128)) + (b3 - 128) = v at *
    by_cases hv : v < 65536 ∨ 1114111 < v
    · rw [if_pos hv, if_neg by_Om]
    · rw [if_neg hv, if_pos by_Om]
  · rw [if_neg hc, if_neg (fun h => hc ⟨h.2.2.2.1, by omega, by omega, by omega⟩)]
theorem Pu {b : Int} {n : Nat} (hb : 0 ≤ b ∧ b < 256) (h : Qh b = (n : Int)) : (n = 0 ∧ ((128 ≤ b ∧ b < 194) ∨ (245 ≤ b ∧ b < 256))) ∨ (n = 1 ∧ b < 128) ∨ (n = 2 ∧ 194 ≤ b ∧ b < 224) ∨ (n = 3 ∧ 224 ≤ b ∧ b < 240) ∨ (n = 4 ∧ 240 ≤ b ∧ b < 245) := by
  unfold Qh at h
  (repeat' split at h) <;> omega
def V0 (n : Nat) (b : Int) : Int := if n = 2 then b - 192 else if n = 3 then b - 224 else if n = 4 then b - 240 else b
theorem Vy {s : Str} {p n : Nat} (hp : p < s.length) (hw : Qh (bZ s p) = (n : Int)) (h : n = 0 ∨ (s.length : Int) - p < n) : Utf8.decode (bs s) p = (65533, 1) := by
  have h0 := Wh s p
  have h1 := Wh s (p + 1)
  have h2 := Wh s (p + 2)
  have h3 := Wh s (p + 3)
  rw [Wz]
  rcases Pu h0 hw with ⟨hn, hb⟩ | ⟨hn, hb⟩ | ⟨hn, hb⟩ | ⟨hn, hb⟩ | ⟨hn, hb⟩
  · exact DQ by_Om
  · omega
  · rw [P_ by_Om by_Om, if_neg by_Om]
  · rw [J9 by_Om by_Om by_Om, if_neg by_Om]
  · rw [N_ by_Om by_Om by_Om by_Om, if_neg by_Om]
theorem G2 {s : Str} {p n i : Nat} (hw : Qh (bZ s p) = (n : Int)) (h1i : 1 ≤ i) (hi : i < n) (hc : bZ s (p + i) < 128 ∨ 191 < bZ s (p + i)) : Utf8.decode (bs s) p = (65533, 1) := by
  have h0 := Wh s p
  have h1 := Wh s (p + 1)
  have h2 := Wh s (p + 2)
  have h3 := Wh s (p + 3)
  rw [Wz]
  rcases Pu h0 hw with ⟨hn, hb⟩ | ⟨hn, hb⟩ | ⟨hn, hb⟩ | ⟨hn, hb⟩ | ⟨hn, hb⟩
  · omega
  · omega
  · obtain rfl : i = 1 := by omega
    rw [P_ by_Om by_Om, if_neg by_Om]
  · rw [J9 by_Om by_Om by_Om, if_neg]
    rintro ⟨-, a, b⟩
    obtain rfl | rfl : i = 1 ∨ i = 2 := by omega
    · omega
    · omega
  · rw [N_ by_Om by_Om by_Om by_Om, if_neg]
    rintro ⟨-, a, b, c⟩
    obtain rfl | rfl | rfl : i = 1 ∨ i = 2 ∨ i = 3 := by omega
    · omega
    · omega
    · omega
theorem Fe {s : Str} {p n i : Nat} {v v3 : Int} (hw : Qh (bZ s p) = (n : Int)) (hn0 : ¬ n = 0) (hm : (n : Int) ≤ (s.length : Int) - p) (hin : n ≤ i) (hi1 : 1 ≤ i ∧ (i ≤ n ∨ i = 1)) (hv0 : v3 = V0 n (bZ s p))
    (hv : (i = 1 → v = v3) ∧ (i = 2 → v = 64 * v3 + bZ s (p + 1) - 128) ∧ (i = 3 → v = 64 * (64 * v3 + bZ s (p + 1) - 128) + bZ s (p + 2) - 128) ∧ (i = 4 → v = 64 * (64 * (64 * v3 + bZ s (p + 1) - 128) + bZ s (p + 2) - 128) + bZ s (p + 3) - 128))
    (hcb : (2 ≤ i → 128 ≤ bZ s (p + 1) ∧ bZ s (p + 1) ≤ 191) ∧ (3 ≤ i → 128 ≤ bZ s (p + 2) ∧ bZ s (p + 2) ≤ 191) ∧ (4 ≤ i → 128 ≤ bZ s (p + 3) ∧ bZ s (p + 3) ≤ 191)) :
    0 ≤ v ∧ v < 2147483648 ∧ Utf8.decode (bs s) p = if (n = 3 ∧ v < 2048) ∨ (n = 4 ∧ v < 65536) ∨ 1114111 < v ∨ (55296 ≤ v ∧ v < 57344) then (65533, 1) else (v.toNat, n) := by
  have h0 := Wh s p
  have h1 := Wh s (p + 1)
  have h2 := Wh s (p + 2)
  have h3 := Wh s (p + 3)
  rw [Wz]
  rcases Pu h0 hw with ⟨hn, hb⟩ | ⟨hn, hb⟩ | ⟨hn, hb⟩ | ⟨hn, hb⟩ | ⟨hn, hb⟩
  · exact absurd hn hn0
  · subst hn
    obtain rfl : i = 1 := by omega
    have e := hv.1 rfl
    have e0 : v3 = bZ s p := hv0
    clear hv hcb hv0
    refine ⟨by omega, by omega, ?_⟩
    rw [XP by_Om, if_neg by_Om]
    exact Prod.ext (by show _ = v.toNat; omega) rfl
  · subst hn
    obtain rfl : i = 2 := by omega
    have e := hv.2.1 rfl
    have c1 := hcb.1 by_Om
    have e0 : v3 = bZ s p - 192 := hv0
    clear hv hcb hv0
    refine ⟨by omega, by omega, ?_⟩
    rw [P_ by_Om by_Om, if_pos by_Om, if_neg by_Om]
    exact Prod.ext (by show _ = v.toNat; simp only; omega) rfl
  · subst hn
    obtain rfl : i = 3 := by omega
    have e := hv.2.2.1 rfl
    have c1 := hcb.1 by_Om
    have c2 := hcb.2.1 by_Om
    have e0 : v3 = bZ s p - 224 := hv0
    clear hv hcb hv0
    refine ⟨by omega, by omega, ?_⟩
    rw [J9 by_Om by_Om by_Om, if_pos by_Om]
    have ev : 64 * (64 * ((bZ s p).toNat - 224) + ((bZ s (p + 1)).toNat - 128)) + ((bZ s (p + 2)).toNat - 128) = v.toNat := by omega
    rw [ev]
    by_cases hx : (3 = 3 ∧ v < 2048) ∨ (3 = 4 ∧ v < 65536) ∨ 1114111 < v ∨ (55296 ≤ v ∧ v < 57344)
    · rw [if_pos hx, if_pos by_Om]
    · rw [if_neg hx, if_neg by_Om]
  · subst hn
    obtain rfl : i = 4 := by omega
    have e := hv.2.2.2 rfl
    have c1 := hcb.1 by_Om
    have c2 := hcb.2.1 by_Om
    have c3 := hcb.2.2 by_Om
    have e0 : v3 = bZ s p - 240 := hv0
    clear hv hcb hv0
    refine ⟨by omega, by omega, ?_⟩
    rw [N_ by_Om by_Om by_Om by_Om, if_pos by_Om]
    have ev : 64 * (64 * (64 * ((bZ s p).toNat - 240) + ((bZ s (p + 1)).toNat - 128)) + ((bZ s (p + 2)).toNat - 128)) + ((bZ s (p + 3)).toNat - 128) = v.toNat := by omega
    rw [ev]
    by_cases hx : (4 = 3 ∧ v < 2048) ∨ (4 = 4 ∧ v < 65536) ∨ 1114111 < v ∨ (55296 ≤ v ∧ v < 57344)
    · rw [if_pos hx, if_pos by_Om]
    · rw [if_neg hx, if_neg by_Om]
theorem SQ (c : Int) (w0 : World) : Calls prog 213 #[.int .i64 c] w0 (Ce fun v w' => v = .int .i64 (Qh c) ∧ Same [] w0 w') := by
 refine Ma func213 rfl ntmps213 Qb (Rc _) ?_
 have hF := FR.start w0 []
 refine Ha (Ca (Kb rfl) (Da (Ia (Ha (Ca (Za rfl) (Ca (Fj rfl rfl) (Da ?_)))))))
 refine Bc rfl rfl (fun hc0 => ?_) (fun hc0 => ?_)
 refine Ha (Ca (Kb rfl) (Da ?_))
 refine Ud (v := .int .i64 1) rfl rfl ?_
 refine ⟨congrArg (Value.int .i64) ?_, hF.same⟩
 unfold Qh
 (repeat' split) <;> omega
 refine Ra (Ja (Ia (Ha (Ca (Za rfl) (Ca (Zv rfl rfl) (Ca (Jc rfl) ?_))))))
 refine Mb (d := 7) rfl (fun hg0 => ?_) (fun hg0 => ?_)
 refine Ca (Za rfl) (Ca (T6 rfl rfl) (Ca (Lc rfl rfl) (Da ?_)))
 refine Bc rfl rfl (fun hc1 => ?_) (fun hc1 => ?_)
 refine Ha (Ca (Kb rfl) (Da ?_))
 refine Ud (v := .int .i64 2) rfl rfl ?_
 refine ⟨congrArg (Value.int .i64) ?_, hF.same⟩
 unfold Qh
 (repeat' split) <;> omega
 refine Ra (Ja (Ia (Ha (Ca (Za rfl) (Ca (Zv rfl rfl) (Ca (Jc rfl) ?_))))))
 refine Mb (d := 13) rfl (fun hg1 => ?_) (fun hg1 => ?_)
 refine Ca (Za rfl) (Ca (T6 rfl rfl) (Ca (Lc rfl rfl) (Da ?_)))
 refine Bc rfl rfl (fun hc2 => ?_) (fun hc2 => ?_)
 refine Ha (Ca (Kb rfl) (Da ?_))
 refine Ud (v := .int .i64 3) rfl rfl ?_
 refine ⟨congrArg (Value.int .i64) ?_, hF.same⟩
 unfold Qh
 (repeat' split) <;> omega
 refine Ra (Ja (Ia (Ha (Ca (Za rfl) (Ca (Zv rfl rfl) (Ca (Jc rfl) ?_))))))
 refine Mb (d := 19) rfl (fun hg2 => ?_) (fun hg2 => ?_)
 refine Ca (Za rfl) (Ca (T6 rfl rfl) (Ca (Lc rfl rfl) (Da ?_)))
 refine Bc rfl rfl (fun hc3 => ?_) (fun hc3 => ?_)
 refine Ha (Ca (Kb rfl) (Da ?_))
 refine Ud (v := .int .i64 4) rfl rfl ?_
 refine ⟨congrArg (Value.int .i64) ?_, hF.same⟩
 unfold Qh
 (repeat' split) <;> omega
 refine Ra (Ja (Ha (Ca (Kb rfl) (Da ?_))))
 refine Ud (v := .int .i64 0) rfl rfl ?_
 refine ⟨congrArg (Value.int .i64) ?_, hF.same⟩
 unfold Qh
 (repeat' split) <;> omega
 refine Ea (Ea (Ca (Dc rfl rfl) (Da (Ni rfl (Ha (Ca (Kb rfl) (Da ?_)))))))
 refine Ud (v := .int .i64 0) rfl rfl ?_
 refine ⟨congrArg (Value.int .i64) ?_, hF.same⟩
 unfold Qh
 (repeat' split) <;> omega
 refine Ea (Ea (Ca (Dc rfl rfl) (Da (Ni rfl (Ia (Ha (Ca (Za rfl) (Ca (Zv rfl rfl) (Ca (Jc rfl) ?_)))))))))
 refine Mb (d := 19) rfl (fun hg3 => ?_) (fun hg3 => ?_)
 refine Ca (Za rfl) (Ca (T6 rfl rfl) (Ca (Lc rfl rfl) (Da ?_)))
 refine Bc rfl rfl (fun hc3 => ?_) (fun hc3 => ?_)
 refine Ha (Ca (Kb rfl) (Da ?_))
 refine Ud (v := .int .i64 4) rfl rfl ?_
 refine ⟨congrArg (Value.int .i64) ?_, hF.same⟩
 unfold Qh
 (repeat' split) <;> omega
 refine Ra (Ja (Ha (Ca (Kb rfl) (Da ?_))))
 refine Ud (v := .int .i64 0) rfl rfl ?_
 refine ⟨congrArg (Value.int .i64) ?_, hF.same⟩
 unfold Qh
 (repeat' split) <;> omega
 refine Ea (Ea (Ca (Dc rfl rfl) (Da (Ni rfl (Ha (Ca (Kb rfl) (Da ?_)))))))
 refine Ud (v := .int .i64 0) rfl rfl ?_
 refine ⟨congrArg (Value.int .i64) ?_, hF.same⟩
 unfold Qh
 (repeat' split) <;> omega
 refine Ea (Ea (Ca (Dc rfl rfl) (Da (Ni rfl (Ia (Ha (Ca (Za rfl) (Ca (Zv rfl rfl) (Ca (Jc rfl) ?_)))))))))
 refine Mb (d := 13) rfl (fun hg4 => ?_) (fun hg4 => ?_)
 refine Ca (Za rfl) (Ca (T6 rfl rfl) (Ca (Lc rfl rfl) (Da ?_)))
 refine Bc rfl rfl (fun hc2 => ?_) (fun hc2 => ?_)
 refine Ha (Ca (Kb rfl) (Da ?_))
 refine Ud (v := .int .i64 3) rfl rfl ?_
 refine ⟨congrArg (Value.int .i64) ?_, hF.same⟩
 unfold Qh
 (repeat' split) <;> omega
 refine Ra (Ja (Ia (Ha (Ca (Za rfl) (Ca (Zv rfl rfl) (Ca (Jc rfl) ?_))))))
 refine Mb (d := 19) rfl (fun hg5 => ?_) (fun hg5 => ?_)
 refine Ca (Za rfl) (Ca (T6 rfl rfl) (Ca (Lc rfl rfl) (Da ?_)))
 refine Bc rfl rfl (fun hc3 => ?_) (fun hc3 => ?_)
 refine Ha (Ca (Kb rfl) (Da ?_))
 refine Ud (v := .int .i64 4) rfl rfl ?_
 refine ⟨congrArg (Value.int .i64) ?_, hF.same⟩
 unfold Qh
 (repeat' split) <;> omega
 refine Ra (Ja (Ha (Ca (Kb rfl) (Da ?_))))
 refine Ud (v := .int .i64 0) rfl rfl ?_
 refine ⟨congrArg (Value.int .i64) ?_, hF.same⟩
 unfold Qh
 (repeat' split) <;> omega
 refine Ea (Ea (Ca (Dc rfl rfl) (Da (Ni rfl (Ha (Ca (Kb rfl) (Da ?_)))))))
 refine Ud (v := .int .i64 0) rfl rfl ?_
 refine ⟨congrArg (Value.int .i64) ?_, hF.same⟩
 unfold Qh
 (repeat' split) <;> omega
 refine Ea (Ea (Ca (Dc rfl rfl) (Da (Ni rfl (Ia (Ha (Ca (Za rfl) (Ca (Zv rfl rfl) (Ca (Jc rfl) ?_)))))))))
 refine Mb (d := 19) rfl (fun hg6 => ?_) (fun hg6 => ?_)
 refine Ca (Za rfl) (Ca (T6 rfl rfl) (Ca (Lc rfl rfl) (Da ?_)))
 refine Bc rfl rfl (fun hc3 => ?_) (fun hc3 => ?_)
 refine Ha (Ca (Kb rfl) (Da ?_))
 refine Ud (v := .int .i64 4) rfl rfl ?_
 refine ⟨congrArg (Value.int .i64) ?_, hF.same⟩
 unfold Qh
 (repeat' split) <;> omega
 refine Ra (Ja (Ha (Ca (Kb rfl) (Da ?_))))
 refine Ud (v := .int .i64 0) rfl rfl ?_
 refine ⟨congrArg (Value.int .i64) ?_, hF.same⟩
 unfold Qh
 (repeat' split) <;> omega
 refine Ea (Ea (Ca (Dc rfl rfl) (Da (Ni rfl (Ha (Ca (Kb rfl) (Da ?_)))))))
 refine Ud (v := .int .i64 0) rfl rfl ?_
 refine ⟨congrArg (Value.int .i64) ?_, hF.same⟩
 unfold Qh
 (repeat' split) <;> omega
theorem VI (s : Str) (p : Nat) (hp : p < s.length) (hl : s.length ≤ 140737488355328) (w0 : World) : Calls prog 197 #[.string (bs s), .int .i64 (p : Int)] w0 (Ce fun v w' => v = .tuple #[.int .i32 ((Utf8.decode (bs s) p).1 : Int), .int .i64 ((Utf8.decode (bs s) p).2 : Int)] ∧ Same [] w0 w') := by
 obtain ⟨n, hw, hn4⟩ : ∃ n : Nat, Qh (bZ s p) = (n : Int) ∧ n ≤ 4 := by rcases GD (bZ s p) with h | h | h | h | h; exact ⟨0, h, by omega⟩; exact ⟨1, h, by omega⟩; exact ⟨2, h, by omega⟩; exact ⟨3, h, by omega⟩; exact ⟨4, h, by omega⟩
 have hb0 := Wh s p
 have hb1 := Wh s (p + 1)
 have hb2 := Wh s (p + 2)
 have hb3 := Wh s (p + 3)
 refine Ma func197 rfl ntmps197 Qb (Wd _ _) ?_
 have hF := FR.start w0 []
 refine Ha (Ca (Kb rfl) (Ca (Kb rfl) (Da (Ia (Ha (Ca (Za rfl) (Fa (v := .bool false) (Dd (Z7 rfl rfl) by_Om) (Ca (Jc rfl) (Ca (Za rfl) (Ca (Pc rfl) ?_))))))))))
 refine Ca (Hk underlying9 rfl) (Fa (v := .bool false) (Dd (BC rfl rfl) by_Om) (Ca (Dc rfl rfl) (Da (Ni rfl (Ha (Ca (Pc rfl) (Ca (Za rfl) ?_)))))))
 refine Fa (v := .int .u8 (bZ s p)) (by rw [← Nh hp]; exact Fd p underlying9 rfl rfl hp) ?_
 refine Fa (v := .int .i64 (bZ s p)) (Td underlying5 underlying3 rfl (Lh by_Om by_Om)) ?_
 refine Zb (SQ (bZ s p) _) (Ua PP rfl rfl) ?_
 rintro _ w ⟨rfl, hE⟩
 rw [hw]
 replace hF := hF.ext hE
 clear hE
 refine Ca (Kb rfl) (Da (Ia (Ha (Ca (Za rfl) (Ca (Li rfl rfl) (Ca (Jc rfl) ?_))))))
 refine Mb (d := 25) rfl (fun hg0 => ?_) (fun hg0 => ?_)
 refine Ea (Ea (Ea (Ea (Ea (Ea (Ca (Lc rfl rfl) (Da (Qd rfl (Ha (Ca (Kb rfl) (Ca (Kb rfl) ?_)))))))))))
 refine Da ?_
 refine Pb (Ob (Qa (Nd (v := .int .i32 65533) (x := .int .i64 1) rfl rfl rfl) ?_))
 exact ⟨by rw [Vy hp hw (.inl by_Om)]; rfl, hF.same⟩
 refine Ca (Za rfl) (Ca (Pc rfl) (Ca (Hk underlying9 rfl) (Ca (Za rfl) (Ca (Jn rfl rfl) (Ca (Gn rfl rfl) (Ca (Dc rfl rfl) (Da ?_)))))))
 refine Bc rfl rfl (fun hc1 => ?_) (fun hc1 => ?_)
 refine Ha (Ca (Kb rfl) (Ca (Kb rfl) (Da ?_)))
 refine Pb (Ob (Qa (Nd (v := .int .i32 65533) (x := .int .i64 1) rfl rfl rfl) ?_))
 exact ⟨by rw [Vy hp hw (.inr by_Om)]; rfl, hF.same⟩
 refine Ra (Ja (Ha (Ca (Pc rfl) (Ca (Za rfl) ?_))))
 refine Fa (v := .int .u8 (bZ s p)) (by rw [← Nh hp]; exact Fd p underlying9 rfl rfl hp) ?_
 refine Fa (v := .int .i64 (bZ s p)) (Td underlying5 underlying3 rfl (Lh by_Om by_Om)) (Ca (Kb rfl) (Da (Ia ?_)))
 refine Hf (fun σ w => ∃ (v1 : Int), (v1 = if n = 2 then bZ s p - 192 else bZ s p) ∧ AllEq σ [(0, .string (bs s)), (1, .int .i64 ((p : Int))), (6, .int .i64 ((n : Int))), (7, .int .i64 v1)] ∧ FR w0 [] [] w) ?_ ?_
 refine Ha (Ca (Za rfl) (Ca (Li rfl rfl) (Da ?_)))
 refine Bc rfl rfl (fun hc2 => ?_) (fun hc2 => ?_)
 refine Ga (Ca (Za rfl) (Ca (Jn rfl rfl) (Ca (Kb rfl) (Cb ?_))))
 exact Gb ⟨((bZ s p : Int) - 192), (by first | (rw [if_pos by_Om]) | (rw [if_neg by_Om])), An, hF⟩
 refine Ra ?_
 exact Gb ⟨(bZ s p), (by first | (rw [if_pos by_Om]) | (rw [if_neg by_Om])), An, hF⟩
 clear hF; rintro σ w ⟨v1, hv1, hs, hF⟩
 refine Eg.slots hs ?_
 clear hs; intro σ
 refine Ja (Ia ?_)
 refine Hf (fun σ w => ∃ (v2 : Int), (v2 = if n = 3 then v1 - 224 else v1) ∧ AllEq σ [(0, .string (bs s)), (1, .int .i64 ((p : Int))), (6, .int .i64 ((n : Int))), (7, .int .i64 v2)] ∧ FR w0 [] [] w) ?_ ?_
 refine Ha (Ca (Za rfl) (Ca (Li rfl rfl) (Da ?_)))
 refine Bc rfl rfl (fun hc3 => ?_) (fun hc3 => ?_)
 refine Ga (Ca (Za rfl) (Ca (Jn rfl rfl) (Ca (Kb rfl) (Cb ?_))))
 exact Gb ⟨((v1 : Int) - 224), (by first | (rw [if_pos by_Om]) | (rw [if_neg by_Om])), An, hF⟩
 refine Ra ?_
 exact Gb ⟨(v1), (by first | (rw [if_pos by_Om]) | (rw [if_neg by_Om])), An, hF⟩
 clear hF; rintro σ w ⟨v2, hv2, hs, hF⟩
 refine Eg.slots hs ?_
 clear hs; intro σ
 refine Ja (Ia ?_)
 refine Hf (fun σ w => ∃ (v3 : Int), (v3 = if n = 4 then v2 - 240 else v2) ∧ AllEq σ [(0, .string (bs s)), (1, .int .i64 ((p : Int))), (6, .int .i64 ((n : Int))), (7, .int .i64 v3)] ∧ FR w0 [] [] w) ?_ ?_
 refine Ha (Ca (Za rfl) (Ca (Li rfl rfl) (Da ?_)))
 refine Bc rfl rfl (fun hc4 => ?_) (fun hc4 => ?_)
 refine Ga (Ca (Za rfl) (Ca (Jn rfl rfl) (Ca (Kb rfl) (Cb ?_))))
 exact Gb ⟨((v2 : Int) - 240), (by first | (rw [if_pos by_Om]) | (rw [if_neg by_Om])), An, hF⟩
 refine Ra ?_
 exact Gb ⟨(v2), (by first | (rw [if_pos by_Om]) | (rw [if_neg by_Om])), An, hF⟩
 clear hF; rintro σ w ⟨v3, hv3, hs, hF⟩
 refine Eg.slots hs ?_
 clear hs; intro σ
 refine Ja (Ia (Ha (Ca (Kb rfl) (Da (Db ?_)))))
 have hv0 : v3 = V0 n (bZ s p) := by rw [hv3, hv2, hv1]; unfold V0; (repeat' split) <;> omega
 have hv00 : 0 ≤ v3 ∧ v3 ≤ 255 := by rw [hv0]; unfold V0; rcases Pu hb0 hw with ⟨hn, hb⟩ | ⟨hn, hb⟩ | ⟨hn, hb⟩ | ⟨hn, hb⟩ | ⟨hn, hb⟩ <;> subst hn <;> simp <;> omega
 have hm : (n : Int) ≤ (s.length : Int) - p := by omega
 have hn0 : ¬ n = 0 := by omega
 refine Xc (fun μ σ w => ∃ (i : Nat), ∃ (v : Int), μ = n + 1 - i ∧ (1 ≤ i ∧ (i ≤ n ∨ i = 1)) ∧ ((i = 1 → v = v3) ∧ (i = 2 → v = 64 * v3 + bZ s (p + 1) - 128) ∧ (i = 3 → v = 64 * (64 * v3 + bZ s (p + 1) - 128) + bZ s (p + 2) - 128) ∧ (i = 4 → v = 64 * (64 * (64 * v3 + bZ s (p + 1) - 128) + bZ s (p + 2) - 128) + bZ s (p + 3) - 128)) ∧ ((2 ≤ i → 128 ≤ bZ s (p + 1) ∧ bZ s (p + 1) ≤ 191) ∧ (3 ≤ i → 128 ≤ bZ s (p + 2) ∧ bZ s (p + 2) ≤ 191) ∧ (4 ≤ i → 128 ≤ bZ s (p + 3) ∧ bZ s (p + 3) ≤ 191)) ∧ AllEq σ [(0, .string (bs s)), (1, .int .i64 ((p : Int))), (6, .int .i64 ((n : Int))), (7, .int .i64 v), (8, .int .i64 ((i : Int)))] ∧ FR w0 [] [] w) _ ⟨1, v3, rfl, by_Om, by_Om, by_Om, Fp, hF⟩ ?_
 clear hF; rintro μ σ w ⟨i, v, rfl, hi1, hv, hcb, hs, hF⟩
 refine Cg.slots hs ?_
 clear hs; intro σ
 have hvb := HO hi1.1 (by omega : i ≤ 4) hv00 hv hcb (Wh s (p + 1)) (Wh s (p + 2)) (Wh s (p + 3))
 refine Ia (Ha (Ca (Za rfl) (Ca (Za rfl) (Ca (Fj rfl rfl) (Da ?_)))))
 refine Bc rfl rfl (fun hc5 => ?_) (fun hc5 => ?_)
 have hbi := Wh s (p + i)
 refine Ra (Ja (Ia (Db (Ha (Ca (Pc rfl) (Ca (Za rfl) (Ca (Za rfl) (Ca (Di (((p + i : Nat) : Int)) rfl rfl) ?_))))))))
 refine Fa (v := .int .u8 (bZ s (p + i))) (by rw [← Nh (show p + i < s.length by omega)]; exact Fd (p + i) underlying9 rfl rfl by_Om) ?_
 refine Fa (v := .int .i64 (bZ s (p + i))) (Td underlying5 underlying3 rfl (Lh by_Om by_Om)) (Ca (Kb rfl) (Da (Ia (Ha (Ca (Za rfl) (Ca (Fj rfl rfl) (Ca (Jc rfl) ?_)))))))
 refine Mb (d := 62) rfl (fun hg1 => ?_) (fun hg1 => ?_)
 refine Ea (Ea (Ca (Lc rfl rfl) (Da (Qd rfl (Ha (Ca (Kb rfl) (Ca (Kb rfl) (Da ?_))))))))
 refine Pb (Ob (Qa (Nd (v := .int .i32 65533) (x := .int .i64 1) rfl rfl rfl) ?_))
 exact ⟨by rw [G2 hw hi1.1 by_Om (.inl by_Om)]; rfl, hF.same⟩
 refine Ca (Za rfl) (Ca (Gn rfl rfl) (Ca (Dc rfl rfl) (Da ?_)))
 refine Bc rfl rfl (fun hc6 => ?_) (fun hc6 => ?_)
 refine Ha (Ca (Kb rfl) (Ca (Kb rfl) (Da ?_)))
 refine Pb (Ob (Qa (Nd (v := .int .i32 65533) (x := .int .i64 1) rfl rfl rfl) ?_))
 exact ⟨by rw [G2 hw hi1.1 by_Om (.inr by_Om)]; rfl, hF.same⟩
 refine Ra (Ja (Ga (Ca (Za rfl) (Fa (v := .int .i64 (64 * v)) (Im rfl rfl (Lh by_Om by_Om)) (Ca (Za rfl) (Ca (El rfl rfl) (Ca (Jn rfl rfl) (Ca (Kb rfl) (Cb (Wb (Ja (Ga (Ca (Za rfl) ?_)))))))))))))
 refine Ca (Di (((i + 1 : Nat) : Int)) rfl rfl) (Ca (Kb rfl) (Cb ?_))
 refine Gb ⟨_, ?_, i + 1, 64 * v + bZ s (p + i) - 128, rfl, by_Om, (GO hi1.1 by_Om hv), (OK hi1.1 by_Om by_Om hcb), Fp, hF⟩
 omega
 refine Oc (Nc rfl ?_)
 refine Ja (Ia (Ha (Ca (Za rfl) (Ca (Li rfl rfl) (Ca (Jc rfl) ?_)))))
 refine Mb (d := 73) rfl (fun hg2 => ?_) (fun hg2 => ?_)
 refine Ca (Za rfl) (Ca (Fj rfl rfl) (Ca (Lc rfl rfl) (Ca (Jc rfl) ?_)))
 refine Mb (d := 77) rfl (fun hg3 => ?_) (fun hg3 => ?_)
 refine Ea (Ea (Ea (Ea (Ea (Ea (Ca (Lc rfl rfl) (Ca (Jc rfl) (Ea (Ea (Ca (Lc rfl rfl) (Ca (Jc rfl) (Ea (Ea ?_)))))))))))))
 refine Ea (Ea (Ea (Ea (Ca (Lc rfl rfl) (Da (Qd rfl (Ha (Ca (Kb rfl) (Ca (Kb rfl) (Da ?_))))))))))
 refine Pb (Ob (Qa (Nd (v := .int .i32 65533) (x := .int .i64 1) rfl rfl rfl) ?_))
 have ha := Fe hw hn0 hm by_Om hi1 hv0 hv hcb
 clear hv hcb
 obtain ⟨ha1, ha2, ha3⟩ := ha
 refine ⟨?_, hF.same⟩
 rw [ha3]
 first | (rw [if_pos by_Om]; rfl) | (rw [if_neg by_Om]; exact Ze (by show v = ((v.toNat : Nat) : Int); omega) rfl)
 refine Ca (Za rfl) (Ca (Li rfl rfl) (Ca (Jc rfl) ?_))
 refine Mb (d := 80) rfl (fun hg4 => ?_) (fun hg4 => ?_)
 refine Ca (Za rfl) (Ca (Fj rfl rfl) (Ca (Lc rfl rfl) (Ca (Dc rfl rfl) (Ca (Jc rfl) ?_))))
 refine Mb (d := 85) rfl (fun hg5 => ?_) (fun hg5 => ?_)
 refine Ea (Ea (Ca (Lc rfl rfl) (Ca (Jc rfl) (Ea (Ea (Ea (Ea (Ea (Ea (Ca (Lc rfl rfl) (Da (Qd rfl ?_))))))))))))
 refine Ha (Ca (Kb rfl) (Ca (Kb rfl) (Da ?_)))
 refine Pb (Ob (Qa (Nd (v := .int .i32 65533) (x := .int .i64 1) rfl rfl rfl) ?_))
 have ha := Fe hw hn0 hm by_Om hi1 hv0 hv hcb
 clear hv hcb
 obtain ⟨ha1, ha2, ha3⟩ := ha
 refine ⟨?_, hF.same⟩
 rw [ha3]
 first | (rw [if_pos by_Om]; rfl) | (rw [if_neg by_Om]; exact Ze (by show v = ((v.toNat : Nat) : Int); omega) rfl)
 refine Ca (Za rfl) (Ca (Gn rfl rfl) (Ca (Dc rfl rfl) (Ca (Jc rfl) ?_)))
 refine Mb (d := 89) rfl (fun hg6 => ?_) (fun hg6 => ?_)
 refine Ea (Ea (Ea (Ea (Ea (Ea (Ca (Lc rfl rfl) (Da (Qd rfl (Ha (Ca (Kb rfl) (Ca (Kb rfl) ?_)))))))))))
 refine Da ?_
 refine Pb (Ob (Qa (Nd (v := .int .i32 65533) (x := .int .i64 1) rfl rfl rfl) ?_))
 have ha := Fe hw hn0 hm by_Om hi1 hv0 hv hcb
 clear hv hcb
 obtain ⟨ha1, ha2, ha3⟩ := ha
 refine ⟨?_, hF.same⟩
 rw [ha3]
 first | (rw [if_pos by_Om]; rfl) | (rw [if_neg by_Om]; exact Ze (by show v = ((v.toNat : Nat) : Int); omega) rfl)
 refine Ca (Za rfl) (Ca (Zv rfl rfl) (Ca (Jc rfl) ?_))
 refine Mb (d := 92) rfl (fun hg7 => ?_) (fun hg7 => ?_)
 refine Ca (Za rfl) (Ca (Fj rfl rfl) (Ca (Lc rfl rfl) (Ca (Dc rfl rfl) (Da ?_))))
 refine Bc rfl rfl (fun hc7 => ?_) (fun hc7 => ?_)
 refine Ha (Ca (Kb rfl) (Ca (Kb rfl) (Da ?_)))
 refine Pb (Ob (Qa (Nd (v := .int .i32 65533) (x := .int .i64 1) rfl rfl rfl) ?_))
 have ha := Fe hw hn0 hm by_Om hi1 hv0 hv hcb
 clear hv hcb
 obtain ⟨ha1, ha2, ha3⟩ := ha
 refine ⟨?_, hF.same⟩
 rw [ha3]
 first | (rw [if_pos by_Om]; rfl) | (rw [if_neg by_Om]; exact Ze (by show v = ((v.toNat : Nat) : Int); omega) rfl)
 refine Ra (Ja (Ha (Ca (Za rfl) ?_)))
 refine Fa (v := .int .i32 v) (Td underlying3 underlying21 rfl (by have ha := Fe hw hn0 hm by_Om hi1 hv0 hv hcb; clear hv hcb; rw [IntKind.wrap_i32]; omega)) ?_
 refine Ca (Za rfl) (Ca (Kb rfl) (Ca (Kb rfl) (Da ?_)))
 refine Pb (Ob (Qa (Nd (v := .int .i32 v) (x := .int .i64 ((n : Int))) rfl rfl rfl) ?_))
 have ha := Fe hw hn0 hm by_Om hi1 hv0 hv hcb
 clear hv hcb
 obtain ⟨ha1, ha2, ha3⟩ := ha
 refine ⟨?_, hF.same⟩
 rw [ha3]
 first | (rw [if_pos by_Om]; rfl) | (rw [if_neg by_Om]; exact Ze (by show v = ((v.toNat : Nat) : Int); omega) rfl)
 refine Ea (Ea (Ca (Dc rfl rfl) (Ca (Dc rfl rfl) (Da (Ni rfl (Ha (Ca (Za rfl) ?_)))))))
 refine Fa (v := .int .i32 v) (Td underlying3 underlying21 rfl (by have ha := Fe hw hn0 hm by_Om hi1 hv0 hv hcb; clear hv hcb; rw [IntKind.wrap_i32]; omega)) ?_
 refine Ca (Za rfl) (Ca (Kb rfl) (Ca (Kb rfl) (Da ?_)))
 refine Pb (Ob (Qa (Nd (v := .int .i32 v) (x := .int .i64 ((n : Int))) rfl rfl rfl) ?_))
 have ha := Fe hw hn0 hm by_Om hi1 hv0 hv hcb
 clear hv hcb
 obtain ⟨ha1, ha2, ha3⟩ := ha
 refine ⟨?_, hF.same⟩
 rw [ha3]
 first | (rw [if_pos by_Om]; rfl) | (rw [if_neg by_Om]; exact Ze (by show v = ((v.toNat : Nat) : Int); omega) rfl)
 refine Ea (Ea (Ca (Dc rfl rfl) (Ca (Dc rfl rfl) (Ca (Jc rfl) (Ca (Za rfl) (Ca (Gn rfl rfl) (Ca (Dc rfl rfl) (Ca (Jc rfl) ?_))))))))
 refine Mb (d := 89) rfl (fun hg8 => ?_) (fun hg8 => ?_)
 refine Ea (Ea (Ea (Ea (Ea (Ea (Ca (Lc rfl rfl) (Da (Qd rfl (Ha (Ca (Kb rfl) (Ca (Kb rfl) ?_)))))))))))
 refine Da ?_
 refine Pb (Ob (Qa (Nd (v := .int .i32 65533) (x := .int .i64 1) rfl rfl rfl) ?_))
 have ha := Fe hw hn0 hm by_Om hi1 hv0 hv hcb
 clear hv hcb
 obtain ⟨ha1, ha2, ha3⟩ := ha
 refine ⟨?_, hF.same⟩
 rw [ha3]
 first | (rw [if_pos by_Om]; rfl) | (rw [if_neg by_Om]; exact Ze (by show v = ((v.toNat : Nat) : Int); omega) rfl)
 refine Ca (Za rfl) (Ca (Zv rfl rfl) (Ca (Jc rfl) ?_))
 refine Mb (d := 92) rfl (fun hg9 => ?_) (fun hg9 => ?_)
 refine Ca (Za rfl) (Ca (Fj rfl rfl) (Ca (Lc rfl rfl) (Ca (Dc rfl rfl) (Da ?_))))
 refine Bc rfl rfl (fun hc7 => ?_) (fun hc7 => ?_)
 refine Ha (Ca (Kb rfl) (Ca (Kb rfl) (Da ?_)))
 refine Pb (Ob (Qa (Nd (v := .int .i32 65533) (x := .int .i64 1) rfl rfl rfl) ?_))
 have ha := Fe hw hn0 hm by_Om hi1 hv0 hv hcb
 clear hv hcb
 obtain ⟨ha1, ha2, ha3⟩ := ha
 refine ⟨?_, hF.same⟩
 rw [ha3]
 first | (rw [if_pos by_Om]; rfl) | (rw [if_neg by_Om]; exact Ze (by show v = ((v.toNat : Nat) : Int); omega) rfl)
 refine Ra (Ja (Ha (Ca (Za rfl) ?_)))
 refine Fa (v := .int .i32 v) (Td underlying3 underlying21 rfl (by have ha := Fe hw hn0 hm by_Om hi1 hv0 hv hcb; clear hv hcb; rw [IntKind.wrap_i32]; omega)) ?_
 refine Ca (Za rfl) (Ca (Kb rfl) (Ca (Kb rfl) (Da ?_)))
 refine Pb (Ob (Qa (Nd (v := .int .i32 v) (x := .int .i64 ((n : Int))) rfl rfl rfl) ?_))
 have ha := Fe hw hn0 hm by_Om hi1 hv0 hv hcb
 clear hv hcb
 obtain ⟨ha1, ha2, ha3⟩ := ha
 refine ⟨?_, hF.same⟩
 rw [ha3]
 first | (rw [if_pos by_Om]; rfl) | (rw [if_neg by_Om]; exact Ze (by show v = ((v.toNat : Nat) : Int); omega) rfl)
 refine Ea (Ea (Ca (Dc rfl rfl) (Ca (Dc rfl rfl) (Da (Ni rfl (Ha (Ca (Za rfl) ?_)))))))
 refine Fa (v := .int .i32 v) (Td underlying3 underlying21 rfl (by have ha := Fe hw hn0 hm by_Om hi1 hv0 hv hcb; clear hv hcb; rw [IntKind.wrap_i32]; omega)) ?_
 refine Ca (Za rfl) (Ca (Kb rfl) (Ca (Kb rfl) (Da ?_)))
 refine Pb (Ob (Qa (Nd (v := .int .i32 v) (x := .int .i64 ((n : Int))) rfl rfl rfl) ?_))
 have ha := Fe hw hn0 hm by_Om hi1 hv0 hv hcb
 clear hv hcb
 obtain ⟨ha1, ha2, ha3⟩ := ha
 refine ⟨?_, hF.same⟩
 rw [ha3]
 first | (rw [if_pos by_Om]; rfl) | (rw [if_neg by_Om]; exact Ze (by show v = ((v.toNat : Nat) : Int); omega) rfl)
 refine Ea (Ea (Ca (Dc rfl rfl) (Ca (Jc rfl) (Ca (Za rfl) (Ca (Li rfl rfl) (Ca (Jc rfl) ?_))))))
 refine Mb (d := 80) rfl (fun hg10 => ?_) (fun hg10 => ?_)
 refine Ca (Za rfl) (Ca (Fj rfl rfl) (Ca (Lc rfl rfl) (Ca (Dc rfl rfl) (Ca (Jc rfl) ?_))))
 refine Mb (d := 85) rfl (fun hg11 => ?_) (fun hg11 => ?_)
 refine Ea (Ea (Ca (Lc rfl rfl) (Ca (Jc rfl) (Ea (Ea (Ea (Ea (Ea (Ea (Ca (Lc rfl rfl) (Da (Qd rfl ?_))))))))))))
 refine Ha (Ca (Kb rfl) (Ca (Kb rfl) (Da ?_)))
 refine Pb (Ob (Qa (Nd (v := .int .i32 65533) (x := .int .i64 1) rfl rfl rfl) ?_))
 have ha := Fe hw hn0 hm by_Om hi1 hv0 hv hcb
 clear hv hcb
 obtain ⟨ha1, ha2, ha3⟩ := ha
 refine ⟨?_, hF.same⟩
 rw [ha3]
 first | (rw [if_pos by_Om]; rfl) | (rw [if_neg by_Om]; exact Ze (by show v = ((v.toNat : Nat) : Int); omega) rfl)
 refine Ca (Za rfl) (Ca (Gn rfl rfl) (Ca (Dc rfl rfl) (Ca (Jc rfl) ?_)))
 refine Mb (d := 89) rfl (fun hg12 => ?_) (fun hg12 => ?_)
 refine Ea (Ea (Ea (Ea (Ea (Ea (Ca (Lc rfl rfl) (Da (Qd rfl (Ha (Ca (Kb rfl) (Ca (Kb rfl) ?_)))))))))))
 refine Da ?_
 refine Pb (Ob (Qa (Nd (v := .int .i32 65533) (x := .int .i64 1) rfl rfl rfl) ?_))
 have ha := Fe hw hn0 hm by_Om hi1 hv0 hv hcb
 clear hv hcb
 obtain ⟨ha1, ha2, ha3⟩ := ha
 refine ⟨?_, hF.same⟩
 rw [ha3]
 first | (rw [if_pos by_Om]; rfl) | (rw [if_neg by_Om]; exact Ze (by show v = ((v.toNat : Nat) : Int); omega) rfl)
 refine Ca (Za rfl) (Ca (Zv rfl rfl) (Ca (Jc rfl) ?_))
 refine Mb (d := 92) rfl (fun hg13 => ?_) (fun hg13 => ?_)
 refine Ca (Za rfl) (Ca (Fj rfl rfl) (Ca (Lc rfl rfl) (Ca (Dc rfl rfl) (Da ?_))))
 refine Bc rfl rfl (fun hc7 => ?_) (fun hc7 => ?_)
 refine Ha (Ca (Kb rfl) (Ca (Kb rfl) (Da ?_)))
 refine Pb (Ob (Qa (Nd (v := .int .i32 65533) (x := .int .i64 1) rfl rfl rfl) ?_))
 have ha := Fe hw hn0 hm by_Om hi1 hv0 hv hcb
 clear hv hcb
 obtain ⟨ha1, ha2, ha3⟩ := ha
 refine ⟨?_, hF.same⟩
 rw [ha3]
 first | (rw [if_pos by_Om]; rfl) | (rw [if_neg by_Om]; exact Ze (by show v = ((v.toNat : Nat) : Int); omega) rfl)
 refine Ra (Ja (Ha (Ca (Za rfl) ?_)))
 refine Fa (v := .int .i32 v) (Td underlying3 underlying21 rfl (by have ha := Fe hw hn0 hm by_Om hi1 hv0 hv hcb; clear hv hcb; rw [IntKind.wrap_i32]; omega)) ?_
 refine Ca (Za rfl) (Ca (Kb rfl) (Ca (Kb rfl) (Da ?_)))
 refine Pb (Ob (Qa (Nd (v := .int .i32 v) (x := .int .i64 ((n : Int))) rfl rfl rfl) ?_))
 have ha := Fe hw hn0 hm by_Om hi1 hv0 hv hcb
 clear hv hcb
 obtain ⟨ha1, ha2, ha3⟩ := ha
 refine ⟨?_, hF.same⟩
 rw [ha3]
 first | (rw [if_pos by_Om]; rfl) | (rw [if_neg by_Om]; exact Ze (by show v = ((v.toNat : Nat) : Int); omega) rfl)
 refine Ea (Ea (Ca (Dc rfl rfl) (Ca (Dc rfl rfl) (Da (Ni rfl (Ha (Ca (Za rfl) ?_)))))))
 refine Fa (v := .int .i32 v) (Td underlying3 underlying21 rfl (by have ha := Fe hw hn0 hm by_Om hi1 hv0 hv hcb; clear hv hcb; rw [IntKind.wrap_i32]; omega)) ?_
 refine Ca (Za rfl) (Ca (Kb rfl) (Ca (Kb rfl) (Da ?_)))
 refine Pb (Ob (Qa (Nd (v := .int .i32 v) (x := .int .i64 ((n : Int))) rfl rfl rfl) ?_))
 have ha := Fe hw hn0 hm by_Om hi1 hv0 hv hcb
 clear hv hcb
 obtain ⟨ha1, ha2, ha3⟩ := ha
 refine ⟨?_, hF.same⟩
 rw [ha3]
 first | (rw [if_pos by_Om]; rfl) | (rw [if_neg by_Om]; exact Ze (by show v = ((v.toNat : Nat) : Int); omega) rfl)
 refine Ea (Ea (Ca (Dc rfl rfl) (Ca (Dc rfl rfl) (Ca (Jc rfl) (Ca (Za rfl) (Ca (Gn rfl rfl) (Ca (Dc rfl rfl) (Ca (Jc rfl) ?_))))))))
 refine Mb (d := 89) rfl (fun hg14 => ?_) (fun hg14 => ?_)
 refine Ea (Ea (Ea (Ea (Ea (Ea (Ca (Lc rfl rfl) (Da (Qd rfl (Ha (Ca (Kb rfl) (Ca (Kb rfl) ?_)))))))))))
 refine Da ?_
 refine Pb (Ob (Qa (Nd (v := .int .i32 65533) (x := .int .i64 1) rfl rfl rfl) ?_))
 have ha := Fe hw hn0 hm by_Om hi1 hv0 hv hcb
 clear hv hcb
 obtain ⟨ha1, ha2, ha3⟩ := ha
 refine ⟨?_, hF.same⟩
 rw [ha3]
 first | (rw [if_pos by_Om]; rfl) | (rw [if_neg by_Om]; exact Ze (by show v = ((v.toNat : Nat) : Int); omega) rfl)
 refine Ca (Za rfl) (Ca (Zv rfl rfl) (Ca (Jc rfl) ?_))
 refine Mb (d := 92) rfl (fun hg15 => ?_) (fun hg15 => ?_)
 refine Ca (Za rfl) (Ca (Fj rfl rfl) (Ca (Lc rfl rfl) (Ca (Dc rfl rfl) (Da ?_))))
 refine Bc rfl rfl (fun hc7 => ?_) (fun hc7 => ?_)
 refine Ha (Ca (Kb rfl) (Ca (Kb rfl) (Da ?_)))
 refine Pb (Ob (Qa (Nd (v := .int .i32 65533) (x := .int .i64 1) rfl rfl rfl) ?_))
 have ha := Fe hw hn0 hm by_Om hi1 hv0 hv hcb
 clear hv hcb
 obtain ⟨ha1, ha2, ha3⟩ := ha
 refine ⟨?_, hF.same⟩
 rw [ha3]
 first | (rw [if_pos by_Om]; rfl) | (rw [if_neg by_Om]; exact Ze (by show v = ((v.toNat : Nat) : Int); omega) rfl)
 refine Ra (Ja (Ha (Ca (Za rfl) ?_)))
 refine Fa (v := .int .i32 v) (Td underlying3 underlying21 rfl (by have ha := Fe hw hn0 hm by_Om hi1 hv0 hv hcb; clear hv hcb; rw [IntKind.wrap_i32]; omega)) ?_
 refine Ca (Za rfl) (Ca (Kb rfl) (Ca (Kb rfl) (Da ?_)))
 refine Pb (Ob (Qa (Nd (v := .int .i32 v) (x := .int .i64 ((n : Int))) rfl rfl rfl) ?_))
 have ha := Fe hw hn0 hm by_Om hi1 hv0 hv hcb
 clear hv hcb
 obtain ⟨ha1, ha2, ha3⟩ := ha
 refine ⟨?_, hF.same⟩
 rw [ha3]
 first | (rw [if_pos by_Om]; rfl) | (rw [if_neg by_Om]; exact Ze (by show v = ((v.toNat : Nat) : Int); omega) rfl)
 refine Ea (Ea (Ca (Dc rfl rfl) (Ca (Dc rfl rfl) (Da (Ni rfl (Ha (Ca (Za rfl) ?_)))))))
 refine Fa (v := .int .i32 v) (Td underlying3 underlying21 rfl (by have ha := Fe hw hn0 hm by_Om hi1 hv0 hv hcb; clear hv hcb; rw [IntKind.wrap_i32]; omega)) ?_
 refine Ca (Za rfl) (Ca (Kb rfl) (Ca (Kb rfl) (Da ?_)))
 refine Pb (Ob (Qa (Nd (v := .int .i32 v) (x := .int .i64 ((n : Int))) rfl rfl rfl) ?_))
 have ha := Fe hw hn0 hm by_Om hi1 hv0 hv hcb
 clear hv hcb
 obtain ⟨ha1, ha2, ha3⟩ := ha
 refine ⟨?_, hF.same⟩
 rw [ha3]
 first | (rw [if_pos by_Om]; rfl) | (rw [if_neg by_Om]; exact Ze (by show v = ((v.toNat : Nat) : Int); omega) rfl)
def O6 (s : Str) (p : Nat) : Bool := !(decide ((Utf8.decode (bs s) p).1 = 65533) && decide ((Utf8.decode (bs s) p).2 = 1))
theorem IP (s : Str) (p : Nat) (hp : p < s.length) (hl : s.length ≤ 140737488355328) (w0 : World) : Calls prog 196 #[.string (bs s), .int .i64 (p : Int)] w0 (Ce fun v w' => v = .bool (O6 s p) ∧ Same [] w0 w') := by
 refine Ma func196 rfl ntmps196 Qb (Wd _ _) ?_
 have hF := FR.start w0 []
 refine Ha (Ca (Cc rfl) (Yb (Ca (Pc rfl) (Ca (Za rfl) ?_))))
 refine Va hF (VI s p by_Om hl _) (Pa WI rfl rfl rfl) ?_
 clear hF; intro w hF
 refine Ca (Qg rfl) (Ca (Re rfl rfl) (Ca (Re rfl rfl) (Ca (Kb rfl) (Ca (Kb rfl) (Yb (Ca (Za rfl) ?_))))))
 refine Fa (v := .bool true) (Sc (Cz rfl rfl) (by have := Tf s p; omega)) ?_
 refine Ca (Jc rfl) (Ca (Za rfl) (Ca (Li rfl rfl) (Ca (Jc rfl) ?_)))
 refine Mb (d := 18) rfl (fun hg0 => ?_) (fun hg0 => ?_)
 refine Ca (Za rfl) (Ca (Li rfl rfl) (Ca (Lc rfl rfl) (Ca (BU rfl) (Ca (Lc rfl rfl) (Ca (Cc rfl) (Da ?_))))))
 refine Ud (v := .bool _) rfl rfl ?_
 refine ⟨congrArg Value.bool ?_, hF.same⟩
 unfold O6
 have e1 : decide ((((Utf8.decode (bs s) p).1 : Nat) : Int) = 65533) = decide ((Utf8.decode (bs s) p).1 = 65533) := decide_eq_decide.2 by_Om
 have e2 : decide ((((Utf8.decode (bs s) p).2 : Nat) : Int) = 1) = decide ((Utf8.decode (bs s) p).2 = 1) := decide_eq_decide.2 by_Om
 · first | (rw [← e1, ← e2]; simp_all; done) | (rw [← e1]; simp_all; done) | (simp_all; omega)
 refine Ea (Ea (Ca (Dc rfl rfl) (Ca (Dm (b := false) rfl) (Ca (Lc rfl rfl) (Ca (Cc rfl) (Da ?_))))))
 refine Ud (v := .bool true) rfl rfl ?_
 refine ⟨congrArg Value.bool ?_, hF.same⟩
 unfold O6
 have e1 : decide ((((Utf8.decode (bs s) p).1 : Nat) : Int) = 65533) = decide ((Utf8.decode (bs s) p).1 = 65533) := decide_eq_decide.2 by_Om
 have e2 : decide ((((Utf8.decode (bs s) p).2 : Nat) : Int) = 1) = decide ((Utf8.decode (bs s) p).2 = 1) := decide_eq_decide.2 by_Om
 · first | (rw [← e1, ← e2]; simp_all; done) | (rw [← e1]; simp_all; done) | (simp_all; omega)
theorem P6 {s : Str} {q : Nat} (h : q < s.length) : Lib.validD (s.drop q) = if O6 s q = false then false else Lib.validD (s.drop (q + (Utf8.decode (bs s) q).2)) := by
  have hne : s.drop q ≠ [] := by intro e; have := congrArg List.length e; simp at this; omega
  rw [Lib.validD_step _ hne, Gk, List.drop_drop]
  unfold O6
  by_cases h1 : (Utf8.decode (bs s) q).1 = 65533 <;> by_cases h2 : (Utf8.decode (bs s) q).2 = 1 <;> simp [h1, h2]
theorem G8 (s : Str) (hl : s.length ≤ 140737488355328) (w0 : World) : Calls prog 161 #[.string (bs s)] w0 (Ce fun v w' => ∃ n, v = .tuple #[.int .i64 n, .bool (Lib.validD s)] ∧ Same [] w0 w') := by
 refine Ma func161 rfl ntmps161 Qb (Rc _) ?_
 have hF := FR.start w0 []
 refine Ha (Ca (Kb rfl) (Ca (Cc rfl) (Yb (Ca (Kb rfl) (Da (Ia (Db ?_)))))))
 refine Xc (fun μ σ w => ∃ (q : Nat), μ = s.length - q ∧ (q ≤ s.length) ∧ (Lib.validD s = Lib.validD (s.drop q)) ∧ AllEq σ [(0, .string (bs s)), (4, .int .i64 ((q : Int)))] ∧ FR w0 [] [] w) _ ⟨0, rfl, (Nat.zero_le _), (by rw [List.drop_zero]), Nv, hF⟩ ?_
 clear hF; rintro μ σ w ⟨q, rfl, hq, hv, hs, hF⟩
 refine Cg.slots hs ?_
 clear hs; intro σ
 refine Ia (Ha (Ca (Za rfl) (Ca (Pc rfl) (Ca (Hk underlying9 rfl) (Ca (Fj rfl rfl) (Da ?_))))))
 refine Bc rfl rfl (fun hc0 => ?_) (fun hc0 => ?_)
 refine Ra (Ja (Db (Ha (Ca (Pc rfl) (Ca (Za rfl) ?_)))))
 refine Va hF (IP s q by_Om hl _) (Pa YP rfl rfl rfl) ?_
 clear hF; intro w hF
 refine Ca (Cc rfl) (Da (Ia (Ha (Ca (Jc rfl) (Ca (Dm rfl) (Da ?_))))))
 refine Vh rfl rfl (fun hc1 => ?_) (fun hc1 => ?_)
 refine Ha (Ca (Za rfl) (Ca (Kb rfl) (Ca (Cc rfl) (Da ?_))))
 refine Pb (Ob (Qa (Nd (v := .int .i64 ((q : Int))) (x := .bool false) rfl rfl rfl) ?_))
 exact ⟨_, by rw [hv, P6 by_Om, if_pos (by simp_all)], hF.same⟩
 refine Ra (Ja (Ha (Ca (Pc rfl) (Ca (Za rfl) ?_))))
 refine Va hF (VI s q by_Om hl _) (Pa WI rfl rfl rfl) ?_
 clear hF; intro w hF
 refine Ca (Qg rfl) (Ca (Re rfl rfl) (Ca (Re rfl rfl) (Ca (Kb rfl) (Ca (Kb rfl) (Da (Ga (Ca (Za rfl) (Ca (Za rfl) ?_))))))))
 refine Fa (v := .int .i64 (((q + (Utf8.decode (bs s) q).2 : Nat) : Int))) (Tq rfl rfl (by have := Pn s q by_Om; exact Me by_Om by_Om by_Om)) ?_
 refine Ca (Kb rfl) (Cb (Wb ?_))
 refine Gb ⟨_, ?_, q + (Utf8.decode (bs s) q).2, rfl, (Pn s q by_Om), (by rw [hv, P6 by_Om, if_neg (by simp_all)]), Nv, hF⟩
 have := Tf s q; have := Pn s q by_Om; omega
 refine Oc (Nc rfl ?_)
 refine Ja (Ha (Ca (Pc rfl) (Ca (Hk underlying9 rfl) (Ca (Kb rfl) (Ca (Cc rfl) (Da ?_))))))
 refine Pb (Ob (Qa (Nd (v := .int .i64 ((((s) : Str).length : Int))) (x := .bool true) rfl rfl rfl) ?_))
 exact ⟨_, by rw [hv, List.drop_eq_nil_of_le by_Om]; rfl, hF.same⟩
theorem MM (s : Str) (hl : s.length ≤ 140737488355328) (w0 : World) : Calls prog 113 #[.string (bs s)] w0 (Ce fun v w' => v = .bool (Lib.validD s) ∧ Same [] w0 w') := by
 refine Ma func113 rfl ntmps113 Qb (Rc _) ?_
 have hF := FR.start w0 []
 refine Ha (Ca (Cc rfl) (Yb (Ca (Pc rfl) ?_)))
 refine Zb (G8 s hl _) (Ua KI rfl rfl) ?_
 rintro _ w ⟨nn, rfl, hE⟩
 replace hF := hF.ext hE
 clear hE
 refine Ca (Qg rfl) (Ca (Re rfl rfl) (Ca (Xs rfl rfl) (Ca (Kb rfl) (Ca (Cc rfl) (Yb (Ca (Jc rfl) (Ca (Cc rfl) (Da ?_))))))))
 refine Ud (v := .bool _) rfl rfl ?_
 exact ⟨rfl, hF.same⟩
end Go.Scarf
namespace Go.Scarf
open Go.RowKit Go.Proofs Go.Proofs.Tryz
theorem Fk {P : Program} {fn : Func} {n : Nat} {s : Nat → Value} {w : World} {t1 t2 t3 t4 t5 t6 : Nat} {v1 v2 v3 v4 v5 v6 : Value} (h : fn.results = #[.tmp t1, .tmp t2, .tmp t3, .tmp t4, .tmp t5, .tmp t6]) (h1 : ev n s (.tmp t1) = v1) (h2 : ev n s (.tmp t2) = v2) (h3 : ev n s (.tmp t3) = v3) (h4 : ev n s (.tmp t4) = v4) (h5 : ev n s (.tmp t5) = v5) (h6 : ev n s (.tmp t6) = v6) :
    (results fn (Sl n s).tmps).run P w = .ok (.tuple #[v1, v2, v3, v4, v5, v6]) w := by
  have : (results fn (Sl n s).tmps).run P w = .ok (.tuple #[(Sl n s).tmps.getD t1 undef, (Sl n s).tmps.getD t2 undef, (Sl n s).tmps.getD t3 undef, (Sl n s).tmps.getD t4 undef, (Sl n s).tmps.getD t5 undef, (Sl n s).tmps.getD t6 undef]) w := by simp [results, h]
  rw [this, Ug, Ug, Ug, Ug, Ug, Ug, h1, h2, h3, h4, h5, h6]
theorem AM {s : Str} {j : Nat} (hj : s.length ≤ j) (h : (s.take j).all Le = true) : decide ((0 : Int) < ((s : Str).length : Int)) = Oh s := by
  rw [List.take_of_length_le hj] at h
  rw [LK, Oh, h, Bool.true_and]
theorem PB {s : Str} {j : Nat} (hj : j < s.length) (h : Le s[j] = false) : Oh s = false := by rw [Oh, Ot hj h]; rfl
theorem MQ {c : UInt8} (h1 : ¬ ((c.toNat : Nat) : Int) < 48) (h2 : ¬ (57 : Int) < ((c.toNat : Nat) : Int)) : Le c = true := by
  unfold Le; simp only [Bool.and_eq_true, decide_eq_true_eq]; omega
theorem GC {c : UInt8} (h : ((c.toNat : Nat) : Int) < 48 ∨ (57 : Int) < ((c.toNat : Nat) : Int)) : Le c = false := by
  unfold Le; simp only [Bool.and_eq_false_iff, decide_eq_false_iff_not]; omega
theorem Rl (s : Str) (hl : s.length ≤ 140737488355328) (w0 : World) : Calls prog 198 #[.string (bs s)] w0 (Ce fun v w' => v = .bool (Oh s) ∧ Same [] w0 w') := by
 refine Ma func198 rfl ntmps198 Qb (Rc _) ?_
 have hF := FR.start w0 []
 refine Ha (Ca (Cc rfl) (Da (Ia (Ha (Ca (Kb rfl) (Da (Db ?_)))))))
 refine Xc (fun μ σ w => ∃ (j : Nat), μ = s.length - j ∧ (j ≤ s.length) ∧ ((s.take j).all Le = true) ∧ AllEq σ [(0, .string (bs s)), (3, .int .i64 ((j : Int)))] ∧ FR w0 [] [] w) _ ⟨0, rfl, (Nat.zero_le _), Sa, Nv, hF⟩ ?_
 clear hF; rintro μ σ w ⟨j, rfl, hj, ha, hs, hF⟩
 refine Cg.slots hs ?_
 clear hs; intro σ
 refine Ia (Ha (Ca (Za rfl) (Ca (Pc rfl) (Ca (Hk underlying9 rfl) (Ca (Fj rfl rfl) (Da ?_))))))
 refine Bc rfl rfl (fun hc0 => ?_) (fun hc0 => ?_)
 refine Ra (Ja (Ia (Db (Ha (Ca (Pc rfl) (Ca (Za rfl) (Fa (v := .int .u8 ((((s : Str)[j]'by_Om).toNat : Int))) (Fd (j) underlying9 rfl rfl by_Om) (Ca (Fj rfl rfl) (Ca (Jc rfl) ?_)))))))))
 refine Mb (d := 14) rfl (fun hg0 => ?_) (fun hg0 => ?_)
 refine Ea (Ea (Ea (Ea (Ca (Lc rfl rfl) (Da (Qd rfl (Ha (Ca (Cc rfl) (Da ?_)))))))))
 refine Ud (v := .bool false) rfl rfl ?_
 exact ⟨congrArg Value.bool (PB (j := j) by_Om (GC (.inl (by assumption)))).symm, hF.same⟩
 refine Ca (Pc rfl) (Ca (Za rfl) (Fa (v := .int .u8 ((((s : Str)[j]'by_Om).toNat : Int))) (Fd (j) underlying9 rfl rfl by_Om) (Ca (Gn rfl rfl) (Ca (Dc rfl rfl) (Da ?_)))))
 refine Bc rfl rfl (fun hc1 => ?_) (fun hc1 => ?_)
 refine Ha (Ca (Cc rfl) (Da ?_))
 refine Ud (v := .bool false) rfl rfl ?_
 exact ⟨congrArg Value.bool (PB (j := j) by_Om (GC (.inr (by assumption)))).symm, hF.same⟩
 refine Ra (Wb (Ja (Ga (Ca (Za rfl) (Ca (Di (((j + 1 : Nat) : Int)) rfl rfl) (Ca (Kb rfl) (Cb ?_)))))))
 refine Gb ⟨_, ?_, j + 1, rfl, by_Om, (Ss by_Om ha (MQ (by assumption) (by assumption))), Nv, hF⟩
 omega
 refine Oc (Nc rfl ?_)
 refine Ja (Ha (Ca (Pc rfl) (Ca (Hk underlying9 rfl) (Ca (Gn rfl rfl) (Ca (Cc rfl) (Da ?_))))))
 refine Ud (v := .bool _) rfl rfl ?_
 exact ⟨congrArg Value.bool (AM by_Om ha), hF.same⟩
theorem K6 (x : Num) (w0 : World) : Calls prog 194 #[Ml x] w0 (Ce fun v w' => v = .bool (decide (x = Num.zero)) ∧ Same [] w0 w') := by
 refine Ma func194 rfl ntmps194 Qb (Rc _) ?_
 have hF := FR.start w0 []
 refine Ha ?_
 refine Bh hF rfl ?_
 clear hF; rintro b1 w hb1 hF -
 refine Ca (Cc rfl) (Yb (Uc (Bi isAgg49 sizeOf49 rfl hF.F 0 rfl rfl) ?_))
 refine Fa (w' := w) (v := .agg #[.bool false, .string (bs []), .int .i64 0]) Fb ?_
 refine Fa (v := .bool (decide (x = Num.zero))) (BI (a := x) (b := Num.zero) rfl rfl) (Ca (Cc rfl) (Da ?_))
 refine Ud (v := .bool _) rfl rfl ?_
 exact ⟨rfl, hF.same⟩
theorem W6 (x : Num) (hl : x.digits.length ≤ 140737488355328) (w0 : World) : Calls prog 162 #[Ml x] w0 (Ce fun v w' => v = .bool (Sd x) ∧ Same [] w0 w') := by
 refine Ma func162 rfl ntmps162 Qb (Rc _) ?_
 have hF := FR.start w0 []
 refine Ha ?_
 refine Bh hF rfl ?_
 clear hF; rintro b1 w hb1 hF -
 refine Ca (Cc rfl) (Da (Ia (Ha (Uc (Bi isAgg49 sizeOf49 rfl hF.F 0 rfl rfl) ?_))))
 refine Va hF (K6 x _) (Ua CG rfl rfl) ?_
 clear hF; intro w hF
 refine Da ?_
 refine Bc rfl rfl (fun hc0 => ?_) (fun hc0 => ?_)
 refine Ha (Ca (Cc rfl) (Da ?_))
 refine Ud (v := .bool true) rfl rfl ?_
 exact ⟨by rw [Ww hc0], hF.same⟩
 refine Ra (Ja (Ha (Ca (Fc Dj rfl) (Uc (Ko isAgg9 rfl hF.F 0 rfl rfl) ?_))))
 refine Va hF (Rl (x.digits) by_Om _) (Ua Ut rfl rfl) ?_
 clear hF; intro w hF
 refine Ca (Cc rfl) (Yb (Ca (Fc Dj rfl) (Uc (Ko isAgg9 rfl hF.F 0 rfl rfl) (Ca (Hk underlying9 rfl) (Ca (Kb rfl) (Yb (Ca (Jc rfl) ?_)))))))
 refine Ca (Jc rfl) ?_
 refine Qe (d := 14) rfl (fun hg0 => ?_) (fun hg0 => ?_)
 refine Ca (Za rfl) (Ca (T6 rfl rfl) (Ca (Lc rfl rfl) (Ca (Jc rfl) ?_)))
 refine Mb (d := 18) rfl (fun hg1 => ?_) (fun hg1 => ?_)
 have hpos : 0 < x.digits.length := List.length_pos_iff.2 (Mg (by assumption))
 refine Ca (Fc Dj rfl) (Uc (Ko isAgg9 rfl hF.F 0 rfl rfl) (Fa (v := .int .u8 ((((x.digits : Str)[0]'(hpos)).toNat : Int))) (Fd (0) underlying9 rfl rfl (hpos)) (Ca (Vs rfl rfl) (Ca (Lc rfl rfl) (Ca (Jc rfl) ?_)))))
 refine Mb (d := 24) rfl (fun hg2 => ?_) (fun hg2 => ?_)
 refine Ca (Fc Dj rfl) (Uc (Ko isAgg9 rfl hF.F 0 rfl rfl) (Ca (Za rfl) (Ca (Jy (((x.digits.length - 1 : Nat) : Int)) rfl rfl) (Fa (v := .int .u8 ((((x.digits : Str)[x.digits.length - 1]'by_Om).toNat : Int))) (Fd (x.digits.length - 1) underlying9 rfl rfl by_Om) (Ca (Vs rfl rfl) (Ca (Lc rfl rfl) (Ca (Jc rfl) ?_)))))))
 refine Mb (d := 32) rfl (fun hg3 => ?_) (fun hg3 => ?_)
 refine Ca (Fc Ih rfl) (Uc (Nm isAgg3 rfl hF.F 0 rfl rfl) (Ca (Zv rfl rfl) (Ca (Lc rfl rfl) (Ca (Jc rfl) ?_))))
 refine Mb (d := 37) rfl (fun hg4 => ?_) (fun hg4 => ?_)
 refine Ca (Fc Ih rfl) (Uc (Nm isAgg3 rfl hF.F 0 rfl rfl) (Ca (T6 rfl rfl) (Ca (Lc rfl rfl) (Ca (Cc rfl) (Da ?_)))))
 refine Ud (v := .bool _) rfl rfl ?_
 exact ⟨by rw [On hc0 (by rw [(by assumption : Oh x.digits = true)]; rfl) by_Om hpos (by assumption) by_Om (by assumption), decide_eq_true (show (-1000000 : Int) ≤ x.exp by omega), Bool.true_and], hF.same⟩
 refine Ea (Ea (Ea (Ca (Dc rfl rfl) (Ca (Cc rfl) (Da ?_)))))
 refine Ud (v := .bool false) rfl rfl ?_
 exact ⟨by rw [On hc0 (by rw [(by assumption : Oh x.digits = true)]; rfl) by_Om hpos (by assumption) by_Om (by assumption), decide_eq_false (show ¬ (-1000000 : Int) ≤ x.exp by omega), Bool.false_and], hF.same⟩
 refine Ea (Ea (Ea (Ca (Dc rfl rfl) (Ca (Jc rfl) (Ea (Ea (Ea (Ca (Dc rfl rfl) (Ca (Cc rfl) (Da ?_))))))))))
 refine Ud (v := .bool false) rfl rfl ?_
 exact ⟨by rw [Ox hc0 by_Om by_Om], hF.same⟩
 refine Ea (Ea (Ea (Ea (Ea (Ea (Ca (Dc rfl rfl) (Ca (Jc rfl) (Ea (Ea (Ea (Ca (Dc rfl rfl) (Ca (Jc rfl) (Ea ?_)))))))))))))
 refine Ea (Ea (Ca (Dc rfl rfl) (Ca (Cc rfl) (Da ?_))))
 refine Ud (v := .bool false) rfl rfl ?_
 exact ⟨by rw [Kx hc0 hpos by_Om], hF.same⟩
 refine Ea (Ea (Ea (Ea (Ca (Dc rfl rfl) (Ca (Jc rfl) (Ea (Ea (Ea (Ea (Ea (Ea (Ca (Dc rfl rfl) (Ca (Jc rfl) ?_)))))))))))))
 refine Ea (Ea (Ea (Ca (Dc rfl rfl) (Ca (Jc rfl) (Ea (Ea (Ea (Ca (Dc rfl rfl) (Ca (Cc rfl) (Da ?_))))))))))
 refine Ud (v := .bool false) rfl rfl ?_
 exact ⟨by rw [Tx hc0 by_Om], hF.same⟩
 refine Ea (Ea (Ca (Dc rfl rfl) (Ca (Jc rfl) (Ea (Ea (Ea (Ea (Ca (Dc rfl rfl) (Ca (Jc rfl) (Ea (Ea (Ea (Ea ?_)))))))))))))
 refine Ea (Ea (Ca (Dc rfl rfl) (Ca (Jc rfl) (Ea (Ea (Ea (Ca (Dc rfl rfl) (Ca (Jc rfl) (Ea (Ea (Ea (Ca (Dc rfl rfl) (Ca (Cc rfl) ?_)))))))))))))
 refine Da ?_
 refine Ud (v := .bool false) rfl rfl ?_
 exact ⟨by rw [Sx hc0 (by rw [(by assumption : Oh x.digits = false)]; rfl)], hF.same⟩
theorem Nl : ∀ m : Nat, m < 10 → ((([48, 49, 50, 51, 52, 53, 54, 55, 56, 57] : Str).take (m + 1)).drop m) = [UInt8.ofNat (48 + m)] := by decide
def K_ (n : Int) : Prop := ∀ w0 : World, Calls prog 195 #[.int .i64 n] w0 (Ce fun v w' => v = .string (bs (Lib.itoa n)) ∧ Same [] w0 w')
theorem BG {m : Nat} (h : ¬ m < 10) : Lib.decDigits m = Lib.decDigits (m / 10) ++ [UInt8.ofNat (48 + m % 10)] := by rw [Lib.decDigits, dif_neg h]
theorem NE (m : Nat) : (-(m : Int)).tdiv 10 = -((m / 10 : Nat) : Int) := by rw [Int.neg_tdiv]; rfl
theorem E2 (m : Nat) : (-(m : Int)).tmod 10 = -((m % 10 : Nat) : Int) := by rw [Int.neg_tmod]; rfl
theorem FM (m : Nat) (hm : (m : Int) ≤ 9223372036854775807) (ih : ∀ q : Nat, q < m → K_ (q : Int)) : K_ (m : Int) := by
 intro w0
 refine Ma func195 rfl ntmps195 Qb (Rc _) ?_
 have hF := FR.start w0 []
 refine Ha (Ca (Ld rfl) (Yb (Ca (Ld rfl) (Da (Ia (Ha (Ca (Za rfl) ?_)))))))
 refine Fa (v := .bool true) (Sc (BC rfl rfl) by_Om) (Ca (Jc rfl) (Ca (Za rfl) (Ca (Fj rfl rfl) (Ca (Lc rfl rfl) (Da ?_)))))
 refine Bc rfl rfl (fun hc0 => ?_) (fun hc0 => ?_)
 refine Ha (Ca (Pc rfl) (Ca (Za rfl) (Ca (Za rfl) (Ca (Di (((m + 1 : Nat) : Int)) rfl rfl) ?_))))
 refine Fa (v := .string (bs ((([48, 49, 50, 51, 52, 53, 54, 55, 56, 57] : Str).take (m + 1)).drop (m)))) (Tu (m) (m + 1) underlying9 rfl rfl rfl (by first | (simp; omega) | omega) (by first | (simp; omega) | omega)) ?_
 refine Ca (Ld rfl) (Da ?_)
 refine Pb (Ob (Qa (Do (v := .string (bs ((([48, 49, 50, 51, 52, 53, 54, 55, 56, 57] : Str).take (m + 1)).drop (m)))) rfl rfl) ?_))
 exact ⟨by rw [Nl m by_Om, Lib.itoa_nonneg, Lib.decDigits_one by_Om], hF.same⟩
 refine Ra (Ja (Ia (Ha (Ca (Za rfl) (Fa (v := .bool true) (Sc (Cz rfl rfl) by_Om) (Da (Qd rfl (Ia ?_))))))))
 refine Ag (zs := []) (.free 0 (.free 1 (.free 3 (.free 4 (.free 5 (.free 6 (.free 7 (.free 8 (.free 9 (.act 2 (.free 10 (.free 11 .nil)))))))))))) hF ?_
 clear hF; intro w hF
 refine Eb rfl (Za rfl) (Ib rfl (v := .int .i64 (((m / 10 : Nat) : Int))) (fun w hC => OC rfl rfl Oa (Me rfl by_Om by_Om)) (Eb rfl (Pc rfl) (Eb rfl (Za rfl) (Ib rfl (v := .int .i64 (((m % 10 : Nat) : Int))) (fun w hC => M7 rfl rfl Oa (rfl)) (Eb rfl (Za rfl) (Ib rfl (v := .int .i64 (((m % 10 : Nat) : Int))) (fun w hC => M7 rfl rfl Oa (rfl)) (Eb rfl (Di (((m % 10 + 1 : Nat) : Int)) rfl rfl) ?_)))))))
 refine Ib rfl (v := .string (bs ((([48, 49, 50, 51, 52, 53, 54, 55, 56, 57] : Str).take (m % 10 + 1)).drop (m % 10)))) (fun w hC => Tu (m % 10) (m % 10 + 1) underlying9 rfl rfl rfl (by first | (simp; omega) | omega) (by first | (simp; omega) | omega)) ?_
 refine Wa hF (ih (m / 10) by_Om _) rfl (Ua Q3 rfl rfl) ?_
 clear hF; intro w hF
 refine ⟨hF, ?_⟩
 refine Ib rfl (v := .string (bs ((Lib.itoa ((m / 10 : Nat) : Int)) ++ ((([48, 49, 50, 51, 52, 53, 54, 55, 56, 57] : Str).take (m % 10 + 1)).drop (m % 10))))) (fun w hC => Tg rfl rfl (by have := Lib.itoa_length_le ((m / 10 : Nat) : Int) by_Om by_Om; rw [Nl _ by_Om]; exact Nat.le_trans (Nat.add_le_add_right this 1) Oa)) ?_
 refine Eb rfl (Ld rfl) (Ic (Ja ?_))
 refine Pb (Ob (Qa (Do (v := .string (bs ((Lib.itoa ((m / 10 : Nat) : Int)) ++ ((([48, 49, 50, 51, 52, 53, 54, 55, 56, 57] : Str).take (m % 10 + 1)).drop (m % 10))))) rfl rfl) ?_))
 exact ⟨by rw [Nl _ by_Om, Lib.itoa_nonneg, Lib.itoa_nonneg, BG (m := m) by_Om], hF.same⟩
theorem SK (m : Nat) (h1 : 1 ≤ m) (hm : (m : Int) ≤ 9223372036854775808) (ih : ∀ q : Nat, q < m → 1 ≤ q → K_ (-(q : Int))) : K_ (-(m : Int)) := by
 intro w0
 refine Ma func195 rfl ntmps195 Qb (Rc _) ?_
 have hF := FR.start w0 []
 refine Ha (Ca (Ld rfl) (Yb (Ca (Ld rfl) (Da (Ia (Ha (Ca (Za rfl) ?_)))))))
 refine Fa (v := .bool false) (Dd (BC rfl rfl) by_Om) (Ca (Jc rfl) (Ea (Ea (Ca (Dc rfl rfl) (Da (Ni rfl (Ia (Ha (Ca (Za rfl) ?_)))))))))
 refine Fa (v := .bool false) (Dd (Cz rfl rfl) by_Om) (Da (Ni rfl (Ia (Ha (Ca (Za rfl) (Ca (Gn rfl rfl) (Da ?_)))))))
 refine Bc rfl rfl (fun hc2 => ?_) (fun hc2 => ?_)
 refine Ha (Ca (Pc rfl) (Ca (Za rfl) (Fa (v := .int .i64 ((m : Int))) (Nx rfl (Me by_Om by_Om by_Om)) (Ca (Za rfl) (Fa (v := .int .i64 ((m : Int))) (Nx rfl (Me by_Om by_Om by_Om)) (Ca (Di (((m + 1 : Nat) : Int)) rfl rfl) ?_))))))
 refine Fa (v := .string (bs ((([48, 49, 50, 51, 52, 53, 54, 55, 56, 57] : Str).take (m + 1)).drop (m)))) (Tu (m) (m + 1) underlying9 rfl rfl rfl (by first | (simp; omega) | omega) (by first | (simp; omega) | omega)) ?_
 refine Fa (v := .string (bs (([45]) ++ ((([48, 49, 50, 51, 52, 53, 54, 55, 56, 57] : Str).take (m + 1)).drop (m))))) (Tg rfl rfl (by rw [Nl _ by_Om]; simp)) ?_
 refine Ca (Ld rfl) (Da ?_)
 refine Pb (Ob (Qa (Do (v := .string (bs (([45]) ++ ((([48, 49, 50, 51, 52, 53, 54, 55, 56, 57] : Str).take (m + 1)).drop (m))))) rfl rfl) ?_))
 exact ⟨by rw [Nl m by_Om, Lib.itoa_neg m by_Om, Lib.decDigits_one by_Om]; rfl, hF.same⟩
 refine Ra (Ja (Ia ?_))
 refine Ag (zs := []) (.free 0 (.free 1 (.free 3 (.free 4 (.free 5 (.free 6 (.free 7 (.free 8 (.free 9 (.free 10 (.free 11 (.act 2 (.free 12 (.free 13 .nil)))))))))))))) hF ?_
 clear hF; intro w hF
 refine Eb rfl (Za rfl) (Ib rfl (v := .int .i64 (-((m / 10 : Nat) : Int))) (fun w hC => OC rfl rfl Oa (Me (NE m) by_Om by_Om)) (Eb rfl (Pc rfl) (Eb rfl (Za rfl) (Ib rfl (v := .int .i64 (-((m % 10 : Nat) : Int))) (fun w hC => M7 rfl rfl Oa (E2 m)) (Ib rfl (v := .int .i64 (((m % 10 : Nat) : Int))) (fun w hC => Nx rfl (Me by_Om by_Om by_Om)) (Eb rfl (Za rfl) (Ib rfl (v := .int .i64 (-((m % 10 : Nat) : Int))) (fun w hC => M7 rfl rfl Oa (E2 m)) (Ib rfl (v := .int .i64 (((m % 10 : Nat) : Int))) (fun w hC => Nx rfl (Me by_Om by_Om by_Om)) (Eb rfl (Di (((m % 10 + 1 : Nat) : Int)) rfl rfl) ?_)))))))))
 refine Ib rfl (v := .string (bs ((([48, 49, 50, 51, 52, 53, 54, 55, 56, 57] : Str).take (m % 10 + 1)).drop (m % 10)))) (fun w hC => Tu (m % 10) (m % 10 + 1) underlying9 rfl rfl rfl (by first | (simp; omega) | omega) (by first | (simp; omega) | omega)) ?_
 refine Wa hF (ih (m / 10) by_Om by_Om _) rfl (Ua Q3 rfl rfl) ?_
 clear hF; intro w hF
 refine ⟨hF, ?_⟩
 refine Ib rfl (v := .string (bs ((Lib.itoa (-((m / 10 : Nat) : Int))) ++ ((([48, 49, 50, 51, 52, 53, 54, 55, 56, 57] : Str).take (m % 10 + 1)).drop (m % 10))))) (fun w hC => Tg rfl rfl (by have := Lib.itoa_length_le (-((m / 10 : Nat) : Int)) by_Om by_Om; rw [Nl _ by_Om]; exact Nat.le_trans (Nat.add_le_add_right this 1) Oa)) ?_
 refine Eb rfl (Ld rfl) (Ic (Ja ?_))
 refine Pb (Ob (Qa (Do (v := .string (bs ((Lib.itoa (-((m / 10 : Nat) : Int))) ++ ((([48, 49, 50, 51, 52, 53, 54, 55, 56, 57] : Str).take (m % 10 + 1)).drop (m % 10))))) rfl rfl) ?_))
 exact ⟨by rw [Nl _ by_Om, Lib.itoa_neg m by_Om, Lib.itoa_neg (m / 10) by_Om, BG (m := m) by_Om]; rfl, hF.same⟩
theorem VM (n : Int) (h1 : -9223372036854775808 ≤ n) (h2 : n ≤ 9223372036854775807) : K_ n := by
  have hp : ∀ m : Nat, (m : Int) ≤ 9223372036854775807 → K_ (m : Int) := fun m => by
    induction m using Nat.strongRecOn with
    | ind m ih => exact fun hm => FM m hm fun q hq => ih q hq by_Om
  have hn : ∀ m : Nat, 1 ≤ m → (m : Int) ≤ 9223372036854775808 → K_ (-(m : Int)) := fun m => by
    induction m using Nat.strongRecOn with
    | ind m ih => exact fun h1 hm => SK m h1 hm fun q hq hq1 => ih q hq hq1 by_Om
  rcases Int.lt_or_le n 0 with h | h
  · have := hn n.natAbs by_Om by_Om
    rwa [show -((n.natAbs : Nat) : Int) = n by omega] at this
  · have := hp n.toNat by_Om
    rwa [show ((n.toNat : Nat) : Int) = n by omega] at this
theorem Np {x : Num} (h : Sd x = true) (h0 : ¬ x = Num.zero) : x.digits ≠ [] := by
  unfold Sd at h
  simp only [Bool.or_eq_true, Bool.and_eq_true, decide_eq_true_eq] at h
  rcases h with h | h
  · exact absurd h h0
  · exact Mg h.1.1.1.1.1
theorem BM (x : Num) (hl : x.digits.length ≤ 140737488355328) (w0 : World) : Calls prog 160 #[Ml x] w0 (Ce fun v w' => v = .string (bs (Uk x)) ∧ Same [] w0 w') := by
 refine Ma func160 rfl ntmps160 Qb (Rc _) ?_
 have hF := FR.start w0 []
 refine Ha ?_
 refine Bh hF rfl ?_
 clear hF; rintro b1 w hb1 hF -
 refine Ca (Ld rfl) (Yb (Uc (Bi isAgg49 sizeOf49 rfl hF.F 0 rfl rfl) ?_))
 refine Va hF (W6 x hl _) (Ua DG rfl rfl) ?_
 clear hF; intro w hF
 refine Ca (Cc rfl) (Da (Ia (Ha (Ca (Jc rfl) (Ca (Dm rfl) (Da ?_))))))
 refine Vh rfl rfl (fun hc0 => ?_) (fun hc0 => ?_)
 refine Ha (Ca (Ld rfl) (Da ?_))
 refine Ud (v := .string (bs [])) rfl rfl ?_
 exact ⟨by rw [Uk, if_pos (by simp_all)], hF.same⟩
 refine Ra (Ja (Ia (Ha (Uc (Bi isAgg49 sizeOf49 rfl hF.F 0 rfl rfl) ?_))))
 refine Va hF (K6 x _) (Ua CG rfl rfl) ?_
 clear hF; intro w hF
 refine Da ?_
 refine Bc rfl rfl (fun hc1 => ?_) (fun hc1 => ?_)
 refine Ha (Ca (Ld rfl) (Da ?_))
 refine Ud (v := .string (bs [48])) rfl rfl ?_
 have hz : x = Num.zero := (by assumption)
 exact ⟨(by subst hz; rfl), hF.same⟩
 refine Ra (Ja (Ha (Ca (Fc Dj rfl) (Uc (Ko isAgg9 rfl hF.F 0 rfl rfl) (Ca (Ld rfl) (Da (Ia (Ha (Ca (Fc Ly rfl) (Uc (NO isAgg4 rfl hF.F 0 rfl rfl) ?_))))))))))
 refine Da ?_
 refine Vh rfl rfl (fun hc2 => ?_) (fun hc2 => ?_)
 refine Ga (Ca (Pc rfl) ?_)
 refine Fa (v := .string (bs (([45]) ++ (x.digits)))) (Tg rfl rfl (by simp; omega)) ?_
 refine Ca (Ld rfl) (Da (Ia (Ha (Ca (Fc Ih rfl) (Uc (Nm isAgg3 rfl hF.F 0 rfl rfl) (Ca (Vs rfl rfl) (Da ?_)))))))
 refine Bc rfl rfl (fun hc3 => ?_) (fun hc3 => ?_)
 refine Ga (Ca (Pc rfl) ?_)
 refine Fa (v := .string (bs ((([45]) ++ (x.digits)) ++ ([101])))) (Tg rfl rfl (by simp; omega)) ?_
 refine Ca (Fc Ih rfl) (Uc (Nm isAgg3 rfl hF.F 0 rfl rfl) ?_)
 refine Va hF (VM x.exp (by have hr := Id (x := x) (by simp_all); omega) (by have hr := Id (x := x) (by simp_all); omega) _) (Ua Q3 rfl rfl) ?_
 clear hF; intro w hF
 refine Fa (v := .string (bs (((([45]) ++ (x.digits)) ++ ([101])) ++ (Lib.itoa x.exp)))) (Tg rfl rfl (by have hr := Id (x := x) (by simp_all); have := Lib.itoa_length_le x.exp by_Om by_Om; simp; omega)) ?_
 refine Ca (Ld rfl) (Yb (Ca (Pc rfl) (Ca (Ld rfl) (Da ?_))))
 refine Pb (Ob (Qa (Do (v := .string (bs (((([45]) ++ (x.digits)) ++ ([101])) ++ (Lib.itoa x.exp)))) rfl rfl) ?_))
 refine ⟨congrArg (fun y => Value.string (bs y)) ?_, hF.same⟩
 have hne := Np (x := x) (by simp_all) (by assumption)
 rw [Uk, if_neg (by simp_all), if_neg hne]
 simp_all
 refine Ra (Ja (Ha (Ca (Pc rfl) (Ca (Ld rfl) (Da ?_)))))
 refine Ud (v := .string (bs (([45]) ++ (x.digits)))) rfl rfl ?_
 refine ⟨congrArg (fun y => Value.string (bs y)) ?_, hF.same⟩
 have hne := Np (x := x) (by simp_all) (by assumption)
 rw [Uk, if_neg (by simp_all), if_neg hne]
 simp_all
 refine Ra (Ja (Ia (Ha (Ca (Fc Ih rfl) (Uc (Nm isAgg3 rfl hF.F 0 rfl rfl) (Ca (Vs rfl rfl) (Da ?_)))))))
 refine Bc rfl rfl (fun hc3 => ?_) (fun hc3 => ?_)
 refine Ga (Ca (Pc rfl) ?_)
 refine Fa (v := .string (bs ((x.digits) ++ ([101])))) (Tg rfl rfl (by simp; omega)) ?_
 refine Ca (Fc Ih rfl) (Uc (Nm isAgg3 rfl hF.F 0 rfl rfl) ?_)
 refine Va hF (VM x.exp (by have hr := Id (x := x) (by simp_all); omega) (by have hr := Id (x := x) (by simp_all); omega) _) (Ua Q3 rfl rfl) ?_
 clear hF; intro w hF
 refine Fa (v := .string (bs (((x.digits) ++ ([101])) ++ (Lib.itoa x.exp)))) (Tg rfl rfl (by have hr := Id (x := x) (by simp_all); have := Lib.itoa_length_le x.exp by_Om by_Om; simp; omega)) ?_
 refine Ca (Ld rfl) (Yb (Ca (Pc rfl) (Ca (Ld rfl) (Da ?_))))
 refine Pb (Ob (Qa (Do (v := .string (bs (((x.digits) ++ ([101])) ++ (Lib.itoa x.exp)))) rfl rfl) ?_))
 refine ⟨congrArg (fun y => Value.string (bs y)) ?_, hF.same⟩
 have hne := Np (x := x) (by simp_all) (by assumption)
 rw [Uk, if_neg (by simp_all), if_neg hne]
 simp_all
 refine Ra (Ja (Ha (Ca (Pc rfl) (Ca (Ld rfl) (Da ?_)))))
 refine Ud (v := .string (bs (x.digits))) rfl rfl ?_
 refine ⟨congrArg (fun y => Value.string (bs y)) ?_, hF.same⟩
 have hne := Np (x := x) (by simp_all) (by assumption)
 rw [Uk, if_neg (by simp_all), if_neg hne]
 simp_all
end Go.Scarf
namespace Go.Scarf
open Go.RowKit Go.Proofs Go.Proofs.Tryz
def Eh (s : Str) (k : Int) : Bool := decide ((0 : Int) < (s.length : Int)) && decide (bZ s 0 = k)
theorem Zd {s : Str} {k : Int} (h : (0 : Int) < (s.length : Int)) (e : bZ s 0 = k) : Eh s k = true := by rw [Eh, decide_eq_true h, decide_eq_true e]; rfl
theorem Kc {s : Str} {k : Int} (h : ¬ (0 : Int) < (s.length : Int)) : Eh s k = false := by rw [Eh, decide_eq_false h]; rfl
theorem Jd {s : Str} {k : Int} (e : ¬ bZ s 0 = k) : Eh s k = false := by rw [Eh, decide_eq_false e, Bool.and_false]
theorem Yg {s : Str} {k : Int} (h : (0 : Int) < (s.length : Int)) : Eh s k = decide (bZ s 0 = k) := by rw [Eh, decide_eq_true h, Bool.true_and]
theorem K8 (s : Str) (c : UInt8) : Eh s (c.toNat : Int) = Lib.hasPrefix s [c] := by
  cases s with
  | nil => rfl
  | cons a s =>
    have h0 : bZ (a :: s) 0 = (a.toNat : Int) := (Nh (s := a :: s) (p := 0) Sa).symm
    rw [Eh, h0, decide_eq_true Sa, Bool.true_and]
    by_cases h : a = c
    · subst h; simp [Lib.hasPrefix]
    · have : ¬ ((a.toNat : Int) = (c.toNat : Int)) := fun e => h (UInt8.toNat.inj by_Om)
      have h2 : (c == a) = false := by simpa using fun e => h e.symm
      rw [decide_eq_false this]
      simp [Lib.hasPrefix, List.isPrefixOf, h2]
theorem Vl {at_ s : Str} {j : Nat} (hj : j ≤ s.length) (hno : ∀ c ∈ s.take j, at_.contains c = false) (h : ∀ h : j < s.length, at_.contains s[j] = true) : Ta at_ s = (s.take j, s.drop (j + 1), decide (j < s.length)) := by
  by_cases hl : j < s.length
  · rw [Hw hl hno (h hl), decide_eq_true hl]
  · rw [List.take_of_length_le by_Om] at hno ⊢
    rw [Qw hno, List.drop_eq_nil_of_le by_Om, decide_eq_false hl]
theorem Z0 {c : UInt8} (h : ((c.toNat : Nat) : Int) = 101 ∨ ((c.toNat : Nat) : Int) = 69) : ([101, 69] : Str).contains c = true := by
  rcases h with h | h
  · rw [(KC (n := 101) by_Om).1 h]; decide
  · rw [(KC (n := 69) by_Om).1 h]; decide
theorem GG {c : UInt8} (h1 : ¬ ((c.toNat : Nat) : Int) = 101) (h2 : ¬ ((c.toNat : Nat) : Int) = 69) : ([101, 69] : Str).contains c = false := by
  rw [Bool.eq_false_iff]
  intro h
  simp only [List.contains_cons, List.contains_nil, Bool.or_false, Bool.or_eq_true, beq_iff_eq] at h
  rcases h with rfl | rfl
  · exact h1 rfl
  · exact h2 rfl
theorem D3 {c : UInt8} (h : ((c.toNat : Nat) : Int) = 46) : ([46] : Str).contains c = true := by rw [(KC (n := 46) by_Om).1 h]; decide
theorem JB {c : UInt8} (h1 : ¬ ((c.toNat : Nat) : Int) = 46) : ([46] : Str).contains c = false := by
  rw [Bool.eq_false_iff]
  intro h
  simp only [List.contains_cons, List.contains_nil, Bool.or_false, beq_iff_eq] at h
  subst h
  exact h1 rfl
def Lo (f : Bool) (Z : Str) : Str := if f = true then (if Eh Z 45 = true ∨ Eh Z 43 = true then Z.drop 1 else Z) else [48]
theorem Hi {Z : Str} (h : Eh Z 45 = true) : Lo true Z = Z.drop 1 := by rw [Lo, if_pos rfl, if_pos (.inl h)]
theorem Ei {Z : Str} (h : Eh Z 43 = true) : Lo true Z = Z.drop 1 := by rw [Lo, if_pos rfl, if_pos (.inr h)]
theorem Fi {Z : Str} (h : Eh Z 45 = false) (h2 : Eh Z 43 = false) : Lo true Z = Z := by rw [Lo, if_pos rfl, if_neg (by rw [h, h2]; decide)]
def Pv (W R E : Str) : Bool := Oh W && (Oh R && (Oh E && (decide (W = [48]) || decide (¬ bZ W 0 = 48))))
structure Parts (s : Str) (neg : Bool) (whole rest : Str) (minus : Bool) (exp : Str) (ok : Bool) : Prop where
  h : ∃ (s1 W Z R1 : Str) (f g : Bool), neg = Eh s 45 ∧ s1 = (if Eh s 45 = true then s.drop 1 else s) ∧ Ta [101, 69] s1 = ((Ta [101, 69] s1).1, Z, f) ∧ Ta [46] (Ta [101, 69] s1).1 = (W, R1, g) ∧
    whole = W ∧ rest = (if g = true then R1 else []) ∧ minus = (f && Eh Z 45) ∧ exp = Lo f Z ∧ ok = Pv W (if g = true then R1 else [48]) (Lo f Z)
theorem BL (s : Str) (hl : s.length ≤ 140737488355328) (w0 : World) : Calls prog 193 #[.string (bs s)] w0 (Ce fun v w' => ∃ neg whole rest minus exp ok, v = .tuple #[.bool neg, .string (bs whole), .string (bs rest), .bool minus, .string (bs exp), .bool ok] ∧ Parts s neg whole rest minus exp ok ∧ Same [] w0 w') := by
 refine Ma func193 rfl ntmps193 Qb (Rc _) ?_
 have hF := FR.start w0 []
 refine Ha (Ca (Cc rfl) (Ca (Ld rfl) (Ca (Ld rfl) (Ca (Cc rfl) (Ca (Ld rfl) (Ca (Cc rfl) (Yb (Ca (Pc rfl) (Ca (Hk underlying9 rfl) ?_)))))))))
 refine Ca (Gn rfl rfl) (Ca (Jc rfl) ?_)
 refine Mb (d := 18) rfl (fun hg0 => ?_) (fun hg0 => ?_)
 refine Ca (Pc rfl) ?_
 refine Fa (v := .int .u8 (bZ (s) 0)) (by rw [← Nh (s := s) (p := 0) by_Om]; exact Fd 0 underlying9 rfl rfl by_Om) ?_
 refine Ca (Li rfl rfl) (Ca (Lc rfl rfl) (Ca (Cc rfl) (Da (Ia ?_))))
 refine Hf (fun σ w => ∃ (ng : Bool), ∃ (s1 : Str), (ng = Eh s 45) ∧ (s1 = if Eh s 45 = true then s.drop 1 else s) ∧ AllEq σ [(0, .string (bs s1)), (8, .bool (ng))] ∧ FR w0 [] [] w) ?_ ?_
 refine Ha (Ca (Jc rfl) (Da ?_))
 refine Bc rfl rfl (fun hc0 => ?_) (fun hc0 => ?_)
 refine Ga (Ca (Pc rfl) (Fa (v := .string (bs ((s : Str).drop (1)))) (Gh (1) underlying9 rfl rfl by_Om) (Ca (Ld rfl) (Cb ?_))))
 · exact Gb ⟨(decide ((bZ (s) 0 : Int) = (45 : Int))), ((s : Str).drop (1)), (by first | exact (Yg by_Om).symm | exact (Kc by_Om).symm), (by first | (rw [if_pos (Zd by_Om by_Om)]; done) | (rw [if_neg (by rw [Kc by_Om]; decide)]; done) | (rw [if_neg (by rw [Jd by_Om]; decide)]; done)), Nv, hF⟩
 refine Ra ?_
 · exact Gb ⟨(decide ((bZ (s) 0 : Int) = (45 : Int))), (s), (by first | exact (Yg by_Om).symm | exact (Kc by_Om).symm), (by first | (rw [if_pos (Zd by_Om by_Om)]; done) | (rw [if_neg (by rw [Kc by_Om]; decide)]; done) | (rw [if_neg (by rw [Jd by_Om]; decide)]; done)), Nv, hF⟩
 clear hF; rintro σ w ⟨ng, s1, hng, hs1, hs, hF⟩
 refine Eg.slots hs ?_
 clear hs; intro σ
 have hl1 : s1.length ≤ 140737488355328 := by rw [hs1]; split <;> (try simp) <;> omega
 refine Ja (Ha (Ca (Kb rfl) (Da (Ia ?_))))
 refine Hf (fun σ w => ∃ (k : Nat), (k ≤ s1.length) ∧ (Ta [101, 69] s1 = (s1.take k, s1.drop (k + 1), decide (k < s1.length))) ∧ AllEq σ [(0, .string (bs s1)), (8, .bool (ng)), (9, .int .i64 ((k : Int)))] ∧ FR w0 [] [] w) ?_ ?_
 refine Db ?_
 refine Xc (fun μ σ w => ∃ (j : Nat), μ = s1.length - j ∧ (j ≤ s1.length) ∧ (∀ c ∈ s1.take j, ([101, 69] : Str).contains c = false) ∧ AllEq σ [(0, .string (bs s1)), (8, .bool (ng)), (9, .int .i64 ((j : Int)))] ∧ FR w0 [] [] w) _ ⟨0, rfl, (Nat.zero_le _), Sa, St, hF⟩ ?_
 clear hF; rintro μ σ w ⟨j, rfl, hj, hno, hs, hF⟩
 refine Cg.slots hs ?_
 clear hs; intro σ
 refine Ia (Ha (Ca (Za rfl) (Ca (Pc rfl) (Ca (Hk underlying9 rfl) (Ca (Fj rfl rfl) (Ca (Jc rfl) ?_))))))
 refine Mb (d := 30) rfl (fun hg1 => ?_) (fun hg1 => ?_)
 refine Ca (Pc rfl) (Ca (Za rfl) (Fa (v := .int .u8 ((((s1 : Str)[j]'by_Om).toNat : Int))) (Fd (j) underlying9 rfl rfl by_Om) (Ca (Vs rfl rfl) (Ca (Lc rfl rfl) (Ca (Jc rfl) ?_)))))
 refine Mb (d := 36) rfl (fun hg2 => ?_) (fun hg2 => ?_)
 refine Ca (Pc rfl) (Ca (Za rfl) (Fa (v := .int .u8 ((((s1 : Str)[j]'by_Om).toNat : Int))) (Fd (j) underlying9 rfl rfl by_Om) (Ca (Vs rfl rfl) (Ca (Lc rfl rfl) (Da ?_)))))
 refine Bc rfl rfl (fun hc1 => ?_) (fun hc1 => ?_)
 refine Ra (Ja (Db (Ga (Ca (Za rfl) (Ca (Di (((j + 1 : Nat) : Int)) rfl rfl) (Ca (Kb rfl) (Cb (Wb ?_))))))))
 refine Gb ⟨_, ?_, j + 1, rfl, by_Om, (Uu by_Om hno (GG by_Om by_Om)), St, hF⟩
 omega
 refine Oc (Nc rfl ?_)
 exact Gb ⟨(j), by_Om, (Vl by_Om hno (fun h => Z0 by_Om)), St, hF⟩
 refine Ea (Ea (Ea (Ea (Ca (Dc rfl rfl) (Da (Xe rfl ?_))))))
 refine Oc (Nc rfl ?_)
 exact Gb ⟨(j), by_Om, (Vl by_Om hno (fun h => Z0 by_Om)), St, hF⟩
 refine Ea (Ea (Ea (Ea (Ca (Dc rfl rfl) (Ca (Jc rfl) (Ea (Ea (Ea (Ea (Ca (Dc rfl rfl) (Da (Xe rfl ?_))))))))))))
 refine Oc (Nc rfl ?_)
 exact Gb ⟨(j), by_Om, (Vl by_Om hno (fun h => Z0 by_Om)), St, hF⟩
 clear hF; rintro σ w ⟨k, hk, hcut, hs, hF⟩
 refine Eg.slots hs ?_
 clear hs; intro σ
 refine Ja (Ha (Ca (Ld rfl) (Yb (Ca (Cc rfl) (Da ?_)))))
 have hZl : ((((s1 : Str).drop (k + 1)) : Str).length : Int) = (s1.length - (k + 1) : Nat) := by simp
 refine Ia ?_
 refine Hf (fun σ w => ∃ (ex : Str), ∃ (mi : Bool), (ex = Lo (decide (k < s1.length)) ((s1 : Str).drop (k + 1))) ∧ (mi = (decide (k < s1.length) && Eh ((s1 : Str).drop (k + 1)) 45)) ∧ AllEq σ [(0, .string (bs s1)), (8, .bool (ng)), (9, .int .i64 ((k : Int))), (10, .string (bs ex)), (11, .bool (mi))] ∧ FR w0 [] [] w) ?_ ?_
 refine Ha (Ca (Za rfl) (Ca (Pc rfl) (Ca (Hk underlying9 rfl) (Ca (Fj rfl rfl) (Da ?_)))))
 refine Bc rfl rfl (fun hc2 => ?_) (fun hc2 => ?_)
 refine Ha (Ca (Pc rfl) (Ca (Za rfl) (Ca (Di (((k + 1 : Nat) : Int)) rfl rfl) (Fa (v := .string (bs ((s1 : Str).drop (k + 1)))) (Gh (k + 1) underlying9 rfl rfl by_Om) (Ca (Ld rfl) (Yb (Ca (Pc rfl) (Ca (Hk underlying9 rfl) (Ca (Gn rfl rfl) ?_)))))))))
 refine Ca (Jc rfl) ?_
 refine Mb (d := 55) rfl (fun hg3 => ?_) (fun hg3 => ?_)
 refine Ca (Pc rfl) ?_
 refine Fa (v := .int .u8 (bZ (((s1 : Str).drop (k + 1))) 0)) (by rw [← Nh (s := ((s1 : Str).drop (k + 1))) (p := 0) by_Om]; exact Fd 0 underlying9 rfl rfl by_Om) ?_
 refine Ca (Li rfl rfl) (Ca (Lc rfl rfl) (Ca (Cc rfl) (Yb (Ca (Jc rfl) (Ca (Jc rfl) ?_)))))
 refine Mb (d := 61) rfl (fun hg4 => ?_) (fun hg4 => ?_)
 refine Ea (Ea (Ea (Ea (Ea (Ea (Ea (Ea (Ca (Lc rfl rfl) (Da (Qd rfl (Ga (Ca (Pc rfl) ?_))))))))))))
 refine Fa (v := .string (bs (((s1 : Str).drop (k + 1) : Str).drop (1)))) (Gh (1) underlying9 rfl rfl by_Om) (Ca (Ld rfl) (Cb ?_))
 exact Gb ⟨(((s1 : Str).drop (k + 1) : Str).drop (1)), (decide ((bZ (((s1 : Str).drop (k + 1))) 0 : Int) = (45 : Int))), (by first | (rw [decide_eq_true (show k < s1.length by omega)]; first | exact (Hi (Zd by_Om by_Om)).symm | exact (Ei (Zd by_Om by_Om)).symm | exact (Fi (by first | exact Kc by_Om | exact Jd by_Om) (by first | exact Kc by_Om | exact Jd by_Om)).symm) | (rw [decide_eq_false (show ¬ k < s1.length by omega)]; rfl)), (by first | (rw [decide_eq_true (show k < s1.length by omega), Bool.true_and]; first | exact (Yg by_Om).symm | exact (Kc by_Om).symm) | (rw [decide_eq_false (show ¬ k < s1.length by omega)]; rfl)), Fp, hF⟩
 refine Ca (Pc rfl) (Ca (Hk underlying9 rfl) (Ca (Gn rfl rfl) (Ca (Jc rfl) ?_)))
 refine Mb (d := 65) rfl (fun hg5 => ?_) (fun hg5 => ?_)
 refine Ca (Pc rfl) ?_
 refine Fa (v := .int .u8 (bZ (((s1 : Str).drop (k + 1))) 0)) (by rw [← Nh (s := ((s1 : Str).drop (k + 1))) (p := 0) by_Om]; exact Fd 0 underlying9 rfl rfl by_Om) ?_
 refine Ca (Li rfl rfl) (Ca (Lc rfl rfl) (Ca (Dc rfl rfl) (Da ?_)))
 refine Bc rfl rfl (fun hc3 => ?_) (fun hc3 => ?_)
 refine Ga (Ca (Pc rfl) (Fa (v := .string (bs (((s1 : Str).drop (k + 1) : Str).drop (1)))) (Gh (1) underlying9 rfl rfl by_Om) (Ca (Ld rfl) (Cb ?_))))
 exact Gb ⟨(((s1 : Str).drop (k + 1) : Str).drop (1)), (decide ((bZ (((s1 : Str).drop (k + 1))) 0 : Int) = (45 : Int))), (by first | (rw [decide_eq_true (show k < s1.length by omega)]; first | exact (Hi (Zd by_Om by_Om)).symm | exact (Ei (Zd by_Om by_Om)).symm | exact (Fi (by first | exact Kc by_Om | exact Jd by_Om) (by first | exact Kc by_Om | exact Jd by_Om)).symm) | (rw [decide_eq_false (show ¬ k < s1.length by omega)]; rfl)), (by first | (rw [decide_eq_true (show k < s1.length by omega), Bool.true_and]; first | exact (Yg by_Om).symm | exact (Kc by_Om).symm) | (rw [decide_eq_false (show ¬ k < s1.length by omega)]; rfl)), Fp, hF⟩
 refine Ra ?_
 exact Gb ⟨((s1 : Str).drop (k + 1)), (decide ((bZ (((s1 : Str).drop (k + 1))) 0 : Int) = (45 : Int))), (by first | (rw [decide_eq_true (show k < s1.length by omega)]; first | exact (Hi (Zd by_Om by_Om)).symm | exact (Ei (Zd by_Om by_Om)).symm | exact (Fi (by first | exact Kc by_Om | exact Jd by_Om) (by first | exact Kc by_Om | exact Jd by_Om)).symm) | (rw [decide_eq_false (show ¬ k < s1.length by omega)]; rfl)), (by first | (rw [decide_eq_true (show k < s1.length by omega), Bool.true_and]; first | exact (Yg by_Om).symm | exact (Kc by_Om).symm) | (rw [decide_eq_false (show ¬ k < s1.length by omega)]; rfl)), Fp, hF⟩
 refine Ea (Ea (Ea (Ca (Dc rfl rfl) (Ca (Dc rfl rfl) (Da (Xe rfl (Ra ?_)))))))
 exact Gb ⟨((s1 : Str).drop (k + 1)), (decide ((bZ (((s1 : Str).drop (k + 1))) 0 : Int) = (45 : Int))), (by first | (rw [decide_eq_true (show k < s1.length by omega)]; first | exact (Hi (Zd by_Om by_Om)).symm | exact (Ei (Zd by_Om by_Om)).symm | exact (Fi (by first | exact Kc by_Om | exact Jd by_Om) (by first | exact Kc by_Om | exact Jd by_Om)).symm) | (rw [decide_eq_false (show ¬ k < s1.length by omega)]; rfl)), (by first | (rw [decide_eq_true (show k < s1.length by omega), Bool.true_and]; first | exact (Yg by_Om).symm | exact (Kc by_Om).symm) | (rw [decide_eq_false (show ¬ k < s1.length by omega)]; rfl)), Fp, hF⟩
 refine Ea (Ea (Ea (Ca (Dc rfl rfl) (Ca (Cc rfl) (Yb (Ca (Jc rfl) (Ca (Jc rfl) (Ca (Pc rfl) (Ca (Hk underlying9 rfl) (Ca (Gn rfl rfl) ?_))))))))))
 refine Ca (Jc rfl) ?_
 refine Mb (d := 65) rfl (fun hg6 => ?_) (fun hg6 => ?_)
 refine Ca (Pc rfl) ?_
 refine Fa (v := .int .u8 (bZ (((s1 : Str).drop (k + 1))) 0)) (by rw [← Nh (s := ((s1 : Str).drop (k + 1))) (p := 0) by_Om]; exact Fd 0 underlying9 rfl rfl by_Om) ?_
 refine Ca (Li rfl rfl) (Ca (Lc rfl rfl) (Ca (Dc rfl rfl) (Da ?_)))
 refine Bc rfl rfl (fun hc3 => ?_) (fun hc3 => ?_)
 refine Ga (Ca (Pc rfl) (Fa (v := .string (bs (((s1 : Str).drop (k + 1) : Str).drop (1)))) (Gh (1) underlying9 rfl rfl by_Om) (Ca (Ld rfl) (Cb ?_))))
 exact Gb ⟨(((s1 : Str).drop (k + 1) : Str).drop (1)), (false), (by first | (rw [decide_eq_true (show k < s1.length by omega)]; first | exact (Hi (Zd by_Om by_Om)).symm | exact (Ei (Zd by_Om by_Om)).symm | exact (Fi (by first | exact Kc by_Om | exact Jd by_Om) (by first | exact Kc by_Om | exact Jd by_Om)).symm) | (rw [decide_eq_false (show ¬ k < s1.length by omega)]; rfl)), (by first | (rw [decide_eq_true (show k < s1.length by omega), Bool.true_and]; first | exact (Yg by_Om).symm | exact (Kc by_Om).symm) | (rw [decide_eq_false (show ¬ k < s1.length by omega)]; rfl)), Fp, hF⟩
 refine Ra ?_
 exact Gb ⟨((s1 : Str).drop (k + 1)), (false), (by first | (rw [decide_eq_true (show k < s1.length by omega)]; first | exact (Hi (Zd by_Om by_Om)).symm | exact (Ei (Zd by_Om by_Om)).symm | exact (Fi (by first | exact Kc by_Om | exact Jd by_Om) (by first | exact Kc by_Om | exact Jd by_Om)).symm) | (rw [decide_eq_false (show ¬ k < s1.length by omega)]; rfl)), (by first | (rw [decide_eq_true (show k < s1.length by omega), Bool.true_and]; first | exact (Yg by_Om).symm | exact (Kc by_Om).symm) | (rw [decide_eq_false (show ¬ k < s1.length by omega)]; rfl)), Fp, hF⟩
 refine Ea (Ea (Ea (Ca (Dc rfl rfl) (Ca (Dc rfl rfl) (Da (Xe rfl (Ra ?_)))))))
 exact Gb ⟨((s1 : Str).drop (k + 1)), (false), (by first | (rw [decide_eq_true (show k < s1.length by omega)]; first | exact (Hi (Zd by_Om by_Om)).symm | exact (Ei (Zd by_Om by_Om)).symm | exact (Fi (by first | exact Kc by_Om | exact Jd by_Om) (by first | exact Kc by_Om | exact Jd by_Om)).symm) | (rw [decide_eq_false (show ¬ k < s1.length by omega)]; rfl)), (by first | (rw [decide_eq_true (show k < s1.length by omega), Bool.true_and]; first | exact (Yg by_Om).symm | exact (Kc by_Om).symm) | (rw [decide_eq_false (show ¬ k < s1.length by omega)]; rfl)), Fp, hF⟩
 refine Ra ?_
 exact Gb ⟨([48]), (false), (by first | (rw [decide_eq_true (show k < s1.length by omega)]; first | exact (Hi (Zd by_Om by_Om)).symm | exact (Ei (Zd by_Om by_Om)).symm | exact (Fi (by first | exact Kc by_Om | exact Jd by_Om) (by first | exact Kc by_Om | exact Jd by_Om)).symm) | (rw [decide_eq_false (show ¬ k < s1.length by omega)]; rfl)), (by first | (rw [decide_eq_true (show k < s1.length by omega), Bool.true_and]; first | exact (Yg by_Om).symm | exact (Kc by_Om).symm) | (rw [decide_eq_false (show ¬ k < s1.length by omega)]; rfl)), Fp, hF⟩
 clear hF; rintro σ w ⟨ex, mi, hex, hmi, hs, hF⟩
 refine Eg.slots hs ?_
 clear hs; intro σ
 have hex2 : ex.length ≤ 140737488355328 := by rw [hex]; unfold Lo; (repeat' split) <;> (try simp) <;> omega
 have hlt : (s1.take k).length ≤ 140737488355328 := by simp; omega
 refine Ja (Ha (Ca (Pc rfl) (Ca (Za rfl) (Fa (v := .string (bs ((s1 : Str).take (k)))) (Vo (k) underlying9 rfl rfl by_Om) (Ca (Ld rfl) (Yb (Ca (Kb rfl) (Da ?_))))))))
 refine Ia ?_
 refine Hf (fun σ w => ∃ (q : Nat), (q ≤ ((s1 : Str).take k).length) ∧ (Ta [46] ((s1 : Str).take k) = ((((s1 : Str).take k).take q), (((s1 : Str).take k).drop (q + 1)), decide (q < ((s1 : Str).take k).length))) ∧ AllEq σ [(0, .string (bs ((s1 : Str).take (k)))), (8, .bool (ng)), (9, .int .i64 ((q : Int))), (10, .string (bs ex)), (11, .bool (mi))] ∧ FR w0 [] [] w) ?_ ?_
 refine Db ?_
 refine Xc (fun μ σ w => ∃ (j : Nat), μ = ((s1 : Str).take k).length - j ∧ (j ≤ ((s1 : Str).take k).length) ∧ (∀ c ∈ ((s1 : Str).take k).take j, ([46] : Str).contains c = false) ∧ AllEq σ [(0, .string (bs ((s1 : Str).take (k)))), (8, .bool (ng)), (9, .int .i64 ((j : Int))), (10, .string (bs ex)), (11, .bool (mi))] ∧ FR w0 [] [] w) _ ⟨0, rfl, (Nat.zero_le _), Sa, Fp, hF⟩ ?_
 clear hF; rintro μ σ w ⟨j, rfl, hj, hno, hs, hF⟩
 refine Cg.slots hs ?_
 clear hs; intro σ
 refine Ia (Ha (Ca (Za rfl) (Ca (Pc rfl) (Ca (Hk underlying9 rfl) (Ca (Fj rfl rfl) (Ca (Jc rfl) ?_))))))
 refine Mb (d := 80) rfl (fun hg7 => ?_) (fun hg7 => ?_)
 refine Ca (Pc rfl) (Ca (Za rfl) (Fa (v := .int .u8 (((((s1 : Str).take (k) : Str)[j]'by_Om).toNat : Int))) (Fd (j) underlying9 rfl rfl by_Om) (Ca (Vs rfl rfl) (Ca (Lc rfl rfl) (Da ?_)))))
 refine Bc rfl rfl (fun hc4 => ?_) (fun hc4 => ?_)
 refine Ra (Ja (Db (Ga (Ca (Za rfl) (Ca (Di (((j + 1 : Nat) : Int)) rfl rfl) (Ca (Kb rfl) (Cb (Wb ?_))))))))
 refine Gb ⟨_, ?_, j + 1, rfl, by_Om, (Uu by_Om hno (JB by_Om)), Fp, hF⟩
 omega
 refine Oc (Nc rfl ?_)
 exact Gb ⟨(j), by_Om, (Vl by_Om hno (fun h => D3 by_Om)), Fp, hF⟩
 refine Ea (Ea (Ea (Ea (Ca (Dc rfl rfl) (Da (Xe rfl ?_))))))
 refine Oc (Nc rfl ?_)
 exact Gb ⟨(j), by_Om, (Vl by_Om hno (fun h => D3 by_Om)), Fp, hF⟩
 clear hF; rintro σ w ⟨q, hq, hcut2, hs, hF⟩
 refine Eg.slots hs ?_
 clear hs; intro σ
 refine Ja (Ha (Ca (Pc rfl) (Ca (Za rfl) (Fa (v := .string (bs (((s1 : Str).take (k) : Str).take (q)))) (Vo (q) underlying9 rfl rfl by_Om) (Ca (Ld rfl) (Yb (Ca (Ld rfl) (Da ?_))))))))
 refine Ia ?_
 refine Hf (fun σ w => ∃ (re : Str), (re = if decide (q < ((s1 : Str).take k).length) = true then (((s1 : Str).take k).drop (q + 1)) else [48]) ∧ AllEq σ [(0, .string (bs ((s1 : Str).take (k)))), (8, .bool (ng)), (9, .int .i64 ((q : Int))), (10, .string (bs ex)), (11, .bool (mi)), (12, .string (bs (((s1 : Str).take (k) : Str).take (q)))), (13, .string (bs re))] ∧ FR w0 [] [] w) ?_ ?_
 refine Ha (Ca (Za rfl) (Ca (Pc rfl) (Ca (Hk underlying9 rfl) (Ca (Fj rfl rfl) (Da ?_)))))
 refine Bc rfl rfl (fun hc5 => ?_) (fun hc5 => ?_)
 refine Ga (Ca (Pc rfl) (Ca (Za rfl) (Ca (Di (((q + 1 : Nat) : Int)) rfl rfl) (Fa (v := .string (bs (((s1 : Str).take (k) : Str).drop (q + 1)))) (Gh (q + 1) underlying9 rfl rfl by_Om) (Ca (Ld rfl) (Cb ?_))))))
 · exact Gb ⟨(((s1 : Str).take (k) : Str).drop (q + 1)), (by first | (rw [if_pos (decide_eq_true (show q < ((s1 : Str).take k).length by omega))]; done) | (rw [if_neg (by rw [decide_eq_false (show ¬ q < ((s1 : Str).take k).length by omega)]; decide)]; done)), SB, hF⟩
 refine Ra ?_
 · exact Gb ⟨([48]), (by first | (rw [if_pos (decide_eq_true (show q < ((s1 : Str).take k).length by omega))]; done) | (rw [if_neg (by rw [decide_eq_false (show ¬ q < ((s1 : Str).take k).length by omega)]; decide)]; done)), SB, hF⟩
 clear hF; rintro σ w ⟨re, hre, hs, hF⟩
 refine Eg.slots hs ?_
 clear hs; intro σ
 have hre2 : re.length ≤ 140737488355328 := by rw [hre]; split <;> (try simp) <;> omega
 refine Ja (Ha (Ca (Pc rfl) ?_))
 refine Va hF (Rl (((s1 : Str).take (k) : Str).take (q)) (by have := hlt; first | omega | (simp only [List.length_take, List.length_drop] at *; omega)) _) (Ua Ut rfl rfl) ?_
 clear hF; intro w hF
 refine Ca (Jc rfl) ?_
 refine Qe (d := 101) rfl (fun hg8 => ?_) (fun hg8 => ?_)
 refine Ca (Pc rfl) ?_
 refine Va hF (Rl (re) hre2 _) (Ua Ut rfl rfl) ?_
 clear hF; intro w hF
 refine Ca (Lc rfl rfl) (Ca (Jc rfl) ?_)
 refine Qe (d := 105) rfl (fun hg9 => ?_) (fun hg9 => ?_)
 refine Ca (Pc rfl) ?_
 refine Va hF (Rl (ex) hex2 _) (Ua Ut rfl rfl) ?_
 clear hF; intro w hF
 refine Ca (Lc rfl rfl) (Ca (Jc rfl) ?_)
 refine Qe (d := 109) rfl (fun hg10 => ?_) (fun hg10 => ?_)
 refine Ca (Pc rfl) (Ca (Mv rfl rfl) (Ca (Jc rfl) ?_))
 refine Mb (d := 112) rfl (fun hg11 => ?_) (fun hg11 => ?_)
 refine Ea (Ea (Ea (Ca (Lc rfl rfl) (Ca (Lc rfl rfl) (Ca (Cc rfl) (Da (Ia (Ha (Ca (Za rfl) (Ca (Pc rfl) (Ca (Hk underlying9 rfl) ?_)))))))))))
 refine Ca (Li rfl rfl) (Da ?_)
 refine Bc rfl rfl (fun hc6 => ?_) (fun hc6 => ?_)
 refine Ga (Ca (Ld rfl) (Yb (Ca (Jc rfl) (Ca (Pc rfl) (Ca (Pc rfl) (Ca (Jc rfl) (Ca (Pc rfl) (Ca (Jc rfl) (Ca (Cc rfl) (Ca (Ld rfl) ?_))))))))))
 refine Ca (Ld rfl) (Ca (Cc rfl) (Ca (Ld rfl) (Ca (Cc rfl) (Da ?_))))
 refine Pb (Ob (Qa (Fk (v1 := .bool _) (v2 := .string (bs (((s1 : Str).take (k) : Str).take (q)))) (v3 := .string (bs [])) (v4 := .bool _) (v5 := .string (bs ex)) (v6 := .bool true) rfl rfl rfl rfl rfl rfl rfl) ?_))
 refine ⟨_, _, _, _, _, _, rfl, ⟨s1, (((s1 : Str).take k).take q), ((s1 : Str).drop (k + 1)), (((s1 : Str).take k).drop (q + 1)), _, _, hng, hs1, by rw [hcut], by rw [hcut]; exact hcut2, rfl, ?_, hmi, hex, ?_⟩, hF.same⟩
 · first | (rw [if_neg (by rw [decide_eq_false (show ¬ q < ((s1 : Str).take k).length by omega)]; decide)]; done) | (rw [if_pos (decide_eq_true (show q < ((s1 : Str).take k).length by omega))] at hre ⊢; exact hre)
 rw [← hre, ← hex]; unfold Pv; simp_all
 refine Ra (Ja (Ha (Ca (Jc rfl) (Ca (Pc rfl) (Ca (Pc rfl) (Ca (Jc rfl) (Ca (Pc rfl) (Ca (Jc rfl) (Ca (Cc rfl) (Ca (Ld rfl) (Ca (Ld rfl) (Ca (Cc rfl) ?_))))))))))))
 refine Ca (Ld rfl) (Ca (Cc rfl) (Da ?_))
 refine Pb (Ob (Qa (Fk (v1 := .bool _) (v2 := .string (bs (((s1 : Str).take (k) : Str).take (q)))) (v3 := .string (bs re)) (v4 := .bool _) (v5 := .string (bs ex)) (v6 := .bool true) rfl rfl rfl rfl rfl rfl rfl) ?_))
 refine ⟨_, _, _, _, _, _, rfl, ⟨s1, (((s1 : Str).take k).take q), ((s1 : Str).drop (k + 1)), (((s1 : Str).take k).drop (q + 1)), _, _, hng, hs1, by rw [hcut], by rw [hcut]; exact hcut2, rfl, ?_, hmi, hex, ?_⟩, hF.same⟩
 · first | (rw [if_neg (by rw [decide_eq_false (show ¬ q < ((s1 : Str).take k).length by omega)]; decide)]; done) | (rw [if_pos (decide_eq_true (show q < ((s1 : Str).take k).length by omega))] at hre ⊢; exact hre)
 rw [← hre, ← hex]; unfold Pv; simp_all
 refine Ca (Pc rfl) ?_
 refine Fa (v := .int .u8 (bZ ((((s1 : Str).take k).take q)) 0)) (by rw [← Nh (s := (((s1 : Str).take k).take q)) (p := 0) (List.length_pos_iff.2 (Mg (by assumption)))]; exact Fd 0 underlying9 rfl rfl (List.length_pos_iff.2 (Mg (by assumption)))) ?_
 refine Ca (Vs rfl rfl) (Ca (Dc rfl rfl) (Ca (Lc rfl rfl) (Ca (Cc rfl) (Da (Ia (Ha (Ca (Za rfl) (Ca (Pc rfl) (Ca (Hk underlying9 rfl) (Ca (Li rfl rfl) (Cb ?_)))))))))))
 refine Ja ?_
 refine Bc rfl rfl (fun hc6 => ?_) (fun hc6 => ?_)
 refine Ga (Ca (Ld rfl) (Yb (Ca (Jc rfl) (Ca (Pc rfl) (Ca (Pc rfl) (Ca (Jc rfl) (Ca (Pc rfl) (Ca (Jc rfl) (Ca (Cc rfl) (Ca (Ld rfl) ?_))))))))))
 refine Ca (Ld rfl) (Ca (Cc rfl) (Ca (Ld rfl) (Ca (Cc rfl) (Da ?_))))
 refine Pb (Ob (Qa (Fk (v1 := .bool _) (v2 := .string (bs (((s1 : Str).take (k) : Str).take (q)))) (v3 := .string (bs [])) (v4 := .bool _) (v5 := .string (bs ex)) (v6 := .bool _) rfl rfl rfl rfl rfl rfl rfl) ?_))
 refine ⟨_, _, _, _, _, _, rfl, ⟨s1, (((s1 : Str).take k).take q), ((s1 : Str).drop (k + 1)), (((s1 : Str).take k).drop (q + 1)), _, _, hng, hs1, by rw [hcut], by rw [hcut]; exact hcut2, rfl, ?_, hmi, hex, ?_⟩, hF.same⟩
 · first | (rw [if_neg (by rw [decide_eq_false (show ¬ q < ((s1 : Str).take k).length by omega)]; decide)]; done) | (rw [if_pos (decide_eq_true (show q < ((s1 : Str).take k).length by omega))] at hre ⊢; exact hre)
 rw [← hre, ← hex]; unfold Pv; simp_all
 refine Ra (Ja (Ha (Ca (Jc rfl) (Ca (Pc rfl) (Ca (Pc rfl) (Ca (Jc rfl) (Ca (Pc rfl) (Ca (Jc rfl) (Ca (Cc rfl) (Ca (Ld rfl) (Ca (Ld rfl) (Ca (Cc rfl) ?_))))))))))))
 refine Ca (Ld rfl) (Ca (Cc rfl) (Da ?_))
 refine Pb (Ob (Qa (Fk (v1 := .bool _) (v2 := .string (bs (((s1 : Str).take (k) : Str).take (q)))) (v3 := .string (bs re)) (v4 := .bool _) (v5 := .string (bs ex)) (v6 := .bool _) rfl rfl rfl rfl rfl rfl rfl) ?_))
 refine ⟨_, _, _, _, _, _, rfl, ⟨s1, (((s1 : Str).take k).take q), ((s1 : Str).drop (k + 1)), (((s1 : Str).take k).drop (q + 1)), _, _, hng, hs1, by rw [hcut], by rw [hcut]; exact hcut2, rfl, ?_, hmi, hex, ?_⟩, hF.same⟩
 · first | (rw [if_neg (by rw [decide_eq_false (show ¬ q < ((s1 : Str).take k).length by omega)]; decide)]; done) | (rw [if_pos (decide_eq_true (show q < ((s1 : Str).take k).length by omega))] at hre ⊢; exact hre)
 rw [← hre, ← hex]; unfold Pv; simp_all
 refine Ea (Ea (Ea (Ea (Ea (Ea (Ea (Ca (Dc rfl rfl) (Ca (Cc rfl) (Da (Ia (Ha ?_)))))))))))
 refine Ca (Za rfl) (Ca (Pc rfl) (Ca (Hk underlying9 rfl) (Ca (Li rfl rfl) (Da ?_))))
 refine Bc rfl rfl (fun hc6 => ?_) (fun hc6 => ?_)
 refine Ga (Ca (Ld rfl) (Yb (Ca (Jc rfl) (Ca (Pc rfl) (Ca (Pc rfl) (Ca (Jc rfl) (Ca (Pc rfl) (Ca (Jc rfl) (Ca (Cc rfl) (Ca (Ld rfl) ?_))))))))))
 refine Ca (Ld rfl) (Ca (Cc rfl) (Ca (Ld rfl) (Ca (Cc rfl) (Da ?_))))
 refine Pb (Ob (Qa (Fk (v1 := .bool _) (v2 := .string (bs (((s1 : Str).take (k) : Str).take (q)))) (v3 := .string (bs [])) (v4 := .bool _) (v5 := .string (bs ex)) (v6 := .bool false) rfl rfl rfl rfl rfl rfl rfl) ?_))
 refine ⟨_, _, _, _, _, _, rfl, ⟨s1, (((s1 : Str).take k).take q), ((s1 : Str).drop (k + 1)), (((s1 : Str).take k).drop (q + 1)), _, _, hng, hs1, by rw [hcut], by rw [hcut]; exact hcut2, rfl, ?_, hmi, hex, ?_⟩, hF.same⟩
 · first | (rw [if_neg (by rw [decide_eq_false (show ¬ q < ((s1 : Str).take k).length by omega)]; decide)]; done) | (rw [if_pos (decide_eq_true (show q < ((s1 : Str).take k).length by omega))] at hre ⊢; exact hre)
 rw [← hre, ← hex]; unfold Pv; simp_all
 refine Ra (Ja (Ha (Ca (Jc rfl) (Ca (Pc rfl) (Ca (Pc rfl) (Ca (Jc rfl) (Ca (Pc rfl) (Ca (Jc rfl) (Ca (Cc rfl) (Ca (Ld rfl) (Ca (Ld rfl) (Ca (Cc rfl) ?_))))))))))))
 refine Ca (Ld rfl) (Ca (Cc rfl) (Da ?_))
 refine Pb (Ob (Qa (Fk (v1 := .bool _) (v2 := .string (bs (((s1 : Str).take (k) : Str).take (q)))) (v3 := .string (bs re)) (v4 := .bool _) (v5 := .string (bs ex)) (v6 := .bool false) rfl rfl rfl rfl rfl rfl rfl) ?_))
 refine ⟨_, _, _, _, _, _, rfl, ⟨s1, (((s1 : Str).take k).take q), ((s1 : Str).drop (k + 1)), (((s1 : Str).take k).drop (q + 1)), _, _, hng, hs1, by rw [hcut], by rw [hcut]; exact hcut2, rfl, ?_, hmi, hex, ?_⟩, hF.same⟩
 · first | (rw [if_neg (by rw [decide_eq_false (show ¬ q < ((s1 : Str).take k).length by omega)]; decide)]; done) | (rw [if_pos (decide_eq_true (show q < ((s1 : Str).take k).length by omega))] at hre ⊢; exact hre)
 rw [← hre, ← hex]; unfold Pv; simp_all
 refine Ea (Ea (Ca (Dc rfl rfl) (Ca (Jc rfl) (Ea (Ea (Ea (Ea (Ea (Ea (Ea (Ca (Dc rfl rfl) (Ca (Cc rfl) (Cb ?_)))))))))))))
 refine Ja (Ia (Ha (Ca (Za rfl) (Ca (Pc rfl) (Ca (Hk underlying9 rfl) (Ca (Li rfl rfl) (Da ?_)))))))
 refine Bc rfl rfl (fun hc6 => ?_) (fun hc6 => ?_)
 refine Ga (Ca (Ld rfl) (Yb (Ca (Jc rfl) (Ca (Pc rfl) (Ca (Pc rfl) (Ca (Jc rfl) (Ca (Pc rfl) (Ca (Jc rfl) (Ca (Cc rfl) (Ca (Ld rfl) ?_))))))))))
 refine Ca (Ld rfl) (Ca (Cc rfl) (Ca (Ld rfl) (Ca (Cc rfl) (Da ?_))))
 refine Pb (Ob (Qa (Fk (v1 := .bool _) (v2 := .string (bs (((s1 : Str).take (k) : Str).take (q)))) (v3 := .string (bs [])) (v4 := .bool _) (v5 := .string (bs ex)) (v6 := .bool false) rfl rfl rfl rfl rfl rfl rfl) ?_))
 refine ⟨_, _, _, _, _, _, rfl, ⟨s1, (((s1 : Str).take k).take q), ((s1 : Str).drop (k + 1)), (((s1 : Str).take k).drop (q + 1)), _, _, hng, hs1, by rw [hcut], by rw [hcut]; exact hcut2, rfl, ?_, hmi, hex, ?_⟩, hF.same⟩
 · first | (rw [if_neg (by rw [decide_eq_false (show ¬ q < ((s1 : Str).take k).length by omega)]; decide)]; done) | (rw [if_pos (decide_eq_true (show q < ((s1 : Str).take k).length by omega))] at hre ⊢; exact hre)
 rw [← hre, ← hex]; unfold Pv; simp_all
 refine Ra (Ja (Ha (Ca (Jc rfl) (Ca (Pc rfl) (Ca (Pc rfl) (Ca (Jc rfl) (Ca (Pc rfl) (Ca (Jc rfl) (Ca (Cc rfl) (Ca (Ld rfl) (Ca (Ld rfl) (Ca (Cc rfl) ?_))))))))))))
 refine Ca (Ld rfl) (Ca (Cc rfl) (Da ?_))
 refine Pb (Ob (Qa (Fk (v1 := .bool _) (v2 := .string (bs (((s1 : Str).take (k) : Str).take (q)))) (v3 := .string (bs re)) (v4 := .bool _) (v5 := .string (bs ex)) (v6 := .bool false) rfl rfl rfl rfl rfl rfl rfl) ?_))
 refine ⟨_, _, _, _, _, _, rfl, ⟨s1, (((s1 : Str).take k).take q), ((s1 : Str).drop (k + 1)), (((s1 : Str).take k).drop (q + 1)), _, _, hng, hs1, by rw [hcut], by rw [hcut]; exact hcut2, rfl, ?_, hmi, hex, ?_⟩, hF.same⟩
 · first | (rw [if_neg (by rw [decide_eq_false (show ¬ q < ((s1 : Str).take k).length by omega)]; decide)]; done) | (rw [if_pos (decide_eq_true (show q < ((s1 : Str).take k).length by omega))] at hre ⊢; exact hre)
 rw [← hre, ← hex]; unfold Pv; simp_all
 refine Ea (Ea (Ca (Dc rfl rfl) (Ca (Jc rfl) (Ea (Ea (Ca (Dc rfl rfl) (Ca (Jc rfl) (Ea (Ea (Ea (Ea (Ea (Ea ?_)))))))))))))
 refine Ea (Ca (Dc rfl rfl) (Ca (Cc rfl) (Da (Ia (Ha (Ca (Za rfl) (Ca (Pc rfl) (Ca (Hk underlying9 rfl) (Ca (Li rfl rfl) (Da ?_))))))))))
 refine Bc rfl rfl (fun hc6 => ?_) (fun hc6 => ?_)
 refine Ga (Ca (Ld rfl) (Yb (Ca (Jc rfl) (Ca (Pc rfl) (Ca (Pc rfl) (Ca (Jc rfl) (Ca (Pc rfl) (Ca (Jc rfl) (Ca (Cc rfl) (Ca (Ld rfl) ?_))))))))))
 refine Ca (Ld rfl) (Ca (Cc rfl) (Ca (Ld rfl) (Ca (Cc rfl) (Da ?_))))
 refine Pb (Ob (Qa (Fk (v1 := .bool _) (v2 := .string (bs (((s1 : Str).take (k) : Str).take (q)))) (v3 := .string (bs [])) (v4 := .bool _) (v5 := .string (bs ex)) (v6 := .bool false) rfl rfl rfl rfl rfl rfl rfl) ?_))
 refine ⟨_, _, _, _, _, _, rfl, ⟨s1, (((s1 : Str).take k).take q), ((s1 : Str).drop (k + 1)), (((s1 : Str).take k).drop (q + 1)), _, _, hng, hs1, by rw [hcut], by rw [hcut]; exact hcut2, rfl, ?_, hmi, hex, ?_⟩, hF.same⟩
 · first | (rw [if_neg (by rw [decide_eq_false (show ¬ q < ((s1 : Str).take k).length by omega)]; decide)]; done) | (rw [if_pos (decide_eq_true (show q < ((s1 : Str).take k).length by omega))] at hre ⊢; exact hre)
 rw [← hre, ← hex]; unfold Pv; simp_all
 refine Ra (Ja (Ha (Ca (Jc rfl) (Ca (Pc rfl) (Ca (Pc rfl) (Ca (Jc rfl) (Ca (Pc rfl) (Ca (Jc rfl) (Ca (Cc rfl) (Ca (Ld rfl) (Ca (Ld rfl) (Ca (Cc rfl) ?_))))))))))))
 refine Ca (Ld rfl) (Ca (Cc rfl) (Da ?_))
 refine Pb (Ob (Qa (Fk (v1 := .bool _) (v2 := .string (bs (((s1 : Str).take (k) : Str).take (q)))) (v3 := .string (bs re)) (v4 := .bool _) (v5 := .string (bs ex)) (v6 := .bool false) rfl rfl rfl rfl rfl rfl rfl) ?_))
 refine ⟨_, _, _, _, _, _, rfl, ⟨s1, (((s1 : Str).take k).take q), ((s1 : Str).drop (k + 1)), (((s1 : Str).take k).drop (q + 1)), _, _, hng, hs1, by rw [hcut], by rw [hcut]; exact hcut2, rfl, ?_, hmi, hex, ?_⟩, hF.same⟩
 · first | (rw [if_neg (by rw [decide_eq_false (show ¬ q < ((s1 : Str).take k).length by omega)]; decide)]; done) | (rw [if_pos (decide_eq_true (show q < ((s1 : Str).take k).length by omega))] at hre ⊢; exact hre)
 rw [← hre, ← hex]; unfold Pv; simp_all
 refine Ea (Ea (Ea (Ca (Dc rfl rfl) (Ca (Cc rfl) (Da (Ia ?_))))))
 refine Hf (fun σ w => ∃ (ng : Bool), ∃ (s1 : Str), (ng = Eh s 45) ∧ (s1 = if Eh s 45 = true then s.drop 1 else s) ∧ AllEq σ [(0, .string (bs s1)), (8, .bool (ng))] ∧ FR w0 [] [] w) ?_ ?_
 refine Ha (Ca (Jc rfl) (Da (Xe rfl (Ra ?_))))
 · exact Gb ⟨(false), (s), (by first | exact (Yg by_Om).symm | exact (Kc by_Om).symm), (by first | (rw [if_pos (Zd by_Om by_Om)]; done) | (rw [if_neg (by rw [Kc by_Om]; decide)]; done) | (rw [if_neg (by rw [Jd by_Om]; decide)]; done)), Nv, hF⟩
 clear hF; rintro σ w ⟨ng, s1, hng, hs1, hs, hF⟩
 refine Eg.slots hs ?_
 clear hs; intro σ
 have hl1 : s1.length ≤ 140737488355328 := by rw [hs1]; split <;> (try simp) <;> omega
 refine Ja (Ha (Ca (Kb rfl) (Da (Ia ?_))))
 refine Hf (fun σ w => ∃ (k : Nat), (k ≤ s1.length) ∧ (Ta [101, 69] s1 = (s1.take k, s1.drop (k + 1), decide (k < s1.length))) ∧ AllEq σ [(0, .string (bs s1)), (8, .bool (ng)), (9, .int .i64 ((k : Int)))] ∧ FR w0 [] [] w) ?_ ?_
 refine Db ?_
 refine Xc (fun μ σ w => ∃ (j : Nat), μ = s1.length - j ∧ (j ≤ s1.length) ∧ (∀ c ∈ s1.take j, ([101, 69] : Str).contains c = false) ∧ AllEq σ [(0, .string (bs s1)), (8, .bool (ng)), (9, .int .i64 ((j : Int)))] ∧ FR w0 [] [] w) _ ⟨0, rfl, (Nat.zero_le _), Sa, St, hF⟩ ?_
 clear hF; rintro μ σ w ⟨j, rfl, hj, hno, hs, hF⟩
 refine Cg.slots hs ?_
 clear hs; intro σ
 refine Ia (Ha (Ca (Za rfl) (Ca (Pc rfl) (Ca (Hk underlying9 rfl) (Ca (Fj rfl rfl) (Ca (Jc rfl) ?_))))))
 refine Mb (d := 30) rfl (fun hg12 => ?_) (fun hg12 => ?_)
 refine Ca (Pc rfl) (Ca (Za rfl) (Fa (v := .int .u8 ((((s1 : Str)[j]'by_Om).toNat : Int))) (Fd (j) underlying9 rfl rfl by_Om) (Ca (Vs rfl rfl) (Ca (Lc rfl rfl) (Ca (Jc rfl) ?_)))))
 refine Mb (d := 36) rfl (fun hg13 => ?_) (fun hg13 => ?_)
 refine Ca (Pc rfl) (Ca (Za rfl) (Fa (v := .int .u8 ((((s1 : Str)[j]'by_Om).toNat : Int))) (Fd (j) underlying9 rfl rfl by_Om) (Ca (Vs rfl rfl) (Ca (Lc rfl rfl) (Da ?_)))))
 refine Bc rfl rfl (fun hc1 => ?_) (fun hc1 => ?_)
 refine Ra (Ja (Db (Ga (Ca (Za rfl) (Ca (Di (((j + 1 : Nat) : Int)) rfl rfl) (Ca (Kb rfl) (Cb (Wb ?_))))))))
 refine Gb ⟨_, ?_, j + 1, rfl, by_Om, (Uu by_Om hno (GG by_Om by_Om)), St, hF⟩
 omega
 refine Oc (Nc rfl ?_)
 exact Gb ⟨(j), by_Om, (Vl by_Om hno (fun h => Z0 by_Om)), St, hF⟩
 refine Ea (Ea (Ea (Ea (Ca (Dc rfl rfl) (Da (Xe rfl ?_))))))
 refine Oc (Nc rfl ?_)
 exact Gb ⟨(j), by_Om, (Vl by_Om hno (fun h => Z0 by_Om)), St, hF⟩
 refine Ea (Ea (Ea (Ea (Ca (Dc rfl rfl) (Ca (Jc rfl) (Ea (Ea (Ea (Ea (Ca (Dc rfl rfl) (Da (Xe rfl ?_))))))))))))
 refine Oc (Nc rfl ?_)
 exact Gb ⟨(j), by_Om, (Vl by_Om hno (fun h => Z0 by_Om)), St, hF⟩
 clear hF; rintro σ w ⟨k, hk, hcut, hs, hF⟩
 refine Eg.slots hs ?_
 clear hs; intro σ
 refine Ja (Ha (Ca (Ld rfl) (Yb (Ca (Cc rfl) (Da ?_)))))
 have hZl : ((((s1 : Str).drop (k + 1)) : Str).length : Int) = (s1.length - (k + 1) : Nat) := by simp
 refine Ia ?_
 refine Hf (fun σ w => ∃ (ex : Str), ∃ (mi : Bool), (ex = Lo (decide (k < s1.length)) ((s1 : Str).drop (k + 1))) ∧ (mi = (decide (k < s1.length) && Eh ((s1 : Str).drop (k + 1)) 45)) ∧ AllEq σ [(0, .string (bs s1)), (8, .bool (ng)), (9, .int .i64 ((k : Int))), (10, .string (bs ex)), (11, .bool (mi))] ∧ FR w0 [] [] w) ?_ ?_
 refine Ha (Ca (Za rfl) (Ca (Pc rfl) (Ca (Hk underlying9 rfl) (Ca (Fj rfl rfl) (Da ?_)))))
 refine Bc rfl rfl (fun hc2 => ?_) (fun hc2 => ?_)
 refine Ha (Ca (Pc rfl) (Ca (Za rfl) (Ca (Di (((k + 1 : Nat) : Int)) rfl rfl) (Fa (v := .string (bs ((s1 : Str).drop (k + 1)))) (Gh (k + 1) underlying9 rfl rfl by_Om) (Ca (Ld rfl) (Yb (Ca (Pc rfl) (Ca (Hk underlying9 rfl) (Ca (Gn rfl rfl) ?_)))))))))
 refine Ca (Jc rfl) ?_
 refine Mb (d := 55) rfl (fun hg14 => ?_) (fun hg14 => ?_)
 refine Ca (Pc rfl) ?_
 refine Fa (v := .int .u8 (bZ (((s1 : Str).drop (k + 1))) 0)) (by rw [← Nh (s := ((s1 : Str).drop (k + 1))) (p := 0) by_Om]; exact Fd 0 underlying9 rfl rfl by_Om) ?_
 refine Ca (Li rfl rfl) (Ca (Lc rfl rfl) (Ca (Cc rfl) (Yb (Ca (Jc rfl) (Ca (Jc rfl) ?_)))))
 refine Mb (d := 61) rfl (fun hg15 => ?_) (fun hg15 => ?_)
 refine Ea (Ea (Ea (Ea (Ea (Ea (Ea (Ea (Ca (Lc rfl rfl) (Da (Qd rfl (Ga (Ca (Pc rfl) ?_))))))))))))
 refine Fa (v := .string (bs (((s1 : Str).drop (k + 1) : Str).drop (1)))) (Gh (1) underlying9 rfl rfl by_Om) (Ca (Ld rfl) (Cb ?_))
 exact Gb ⟨(((s1 : Str).drop (k + 1) : Str).drop (1)), (decide ((bZ (((s1 : Str).drop (k + 1))) 0 : Int) = (45 : Int))), (by first | (rw [decide_eq_true (show k < s1.length by omega)]; first | exact (Hi (Zd by_Om by_Om)).symm | exact (Ei (Zd by_Om by_Om)).symm | exact (Fi (by first | exact Kc by_Om | exact Jd by_Om) (by first | exact Kc by_Om | exact Jd by_Om)).symm) | (rw [decide_eq_false (show ¬ k < s1.length by omega)]; rfl)), (by first | (rw [decide_eq_true (show k < s1.length by omega), Bool.true_and]; first | exact (Yg by_Om).symm | exact (Kc by_Om).symm) | (rw [decide_eq_false (show ¬ k < s1.length by omega)]; rfl)), Fp, hF⟩
 refine Ca (Pc rfl) (Ca (Hk underlying9 rfl) (Ca (Gn rfl rfl) (Ca (Jc rfl) ?_)))
 refine Mb (d := 65) rfl (fun hg16 => ?_) (fun hg16 => ?_)
 refine Ca (Pc rfl) ?_
 refine Fa (v := .int .u8 (bZ (((s1 : Str).drop (k + 1))) 0)) (by rw [← Nh (s := ((s1 : Str).drop (k + 1))) (p := 0) by_Om]; exact Fd 0 underlying9 rfl rfl by_Om) ?_
 refine Ca (Li rfl rfl) (Ca (Lc rfl rfl) (Ca (Dc rfl rfl) (Da ?_)))
 refine Bc rfl rfl (fun hc3 => ?_) (fun hc3 => ?_)
 refine Ga (Ca (Pc rfl) (Fa (v := .string (bs (((s1 : Str).drop (k + 1) : Str).drop (1)))) (Gh (1) underlying9 rfl rfl by_Om) (Ca (Ld rfl) (Cb ?_))))
 exact Gb ⟨(((s1 : Str).drop (k + 1) : Str).drop (1)), (decide ((bZ (((s1 : Str).drop (k + 1))) 0 : Int) = (45 : Int))), (by first | (rw [decide_eq_true (show k < s1.length by omega)]; first | exact (Hi (Zd by_Om by_Om)).symm | exact (Ei (Zd by_Om by_Om)).symm | exact (Fi (by first | exact Kc by_Om | exact Jd by_Om) (by first | exact Kc by_Om | exact Jd by_Om)).symm) | (rw [decide_eq_false (show ¬ k < s1.length by omega)]; rfl)), (by first | (rw [decide_eq_true (show k < s1.length by omega), Bool.true_and]; first | exact (Yg by_Om).symm | exact (Kc by_Om).symm) | (rw [decide_eq_false (show ¬ k < s1.length by omega)]; rfl)), Fp, hF⟩
 refine Ra ?_
 exact Gb ⟨((s1 : Str).drop (k + 1)), (decide ((bZ (((s1 : Str).drop (k + 1))) 0 : Int) = (45 : Int))), (by first | (rw [decide_eq_true (show k < s1.length by omega)]; first | exact (Hi (Zd by_Om by_Om)).symm | exact (Ei (Zd by_Om by_Om)).symm | exact (Fi (by first | exact Kc by_Om | exact Jd by_Om) (by first | exact Kc by_Om | exact Jd by_Om)).symm) | (rw [decide_eq_false (show ¬ k < s1.length by omega)]; rfl)), (by first | (rw [decide_eq_true (show k < s1.length by omega), Bool.true_and]; first | exact (Yg by_Om).symm | exact (Kc by_Om).symm) | (rw [decide_eq_false (show ¬ k < s1.length by omega)]; rfl)), Fp, hF⟩
 refine Ea (Ea (Ea (Ca (Dc rfl rfl) (Ca (Dc rfl rfl) (Da (Xe rfl (Ra ?_)))))))
 exact Gb ⟨((s1 : Str).drop (k + 1)), (decide ((bZ (((s1 : Str).drop (k + 1))) 0 : Int) = (45 : Int))), (by first | (rw [decide_eq_true (show k < s1.length by omega)]; first | exact (Hi (Zd by_Om by_Om)).symm | exact (Ei (Zd by_Om by_Om)).symm | exact (Fi (by first | exact Kc by_Om | exact Jd by_Om) (by first | exact Kc by_Om | exact Jd by_Om)).symm) | (rw [decide_eq_false (show ¬ k < s1.length by omega)]; rfl)), (by first | (rw [decide_eq_true (show k < s1.length by omega), Bool.true_and]; first | exact (Yg by_Om).symm | exact (Kc by_Om).symm) | (rw [decide_eq_false (show ¬ k < s1.length by omega)]; rfl)), Fp, hF⟩
 refine Ea (Ea (Ea (Ca (Dc rfl rfl) (Ca (Cc rfl) (Yb (Ca (Jc rfl) (Ca (Jc rfl) (Ca (Pc rfl) (Ca (Hk underlying9 rfl) (Ca (Gn rfl rfl) ?_))))))))))
 refine Ca (Jc rfl) ?_
 refine Mb (d := 65) rfl (fun hg17 => ?_) (fun hg17 => ?_)
 refine Ca (Pc rfl) ?_
 refine Fa (v := .int .u8 (bZ (((s1 : Str).drop (k + 1))) 0)) (by rw [← Nh (s := ((s1 : Str).drop (k + 1))) (p := 0) by_Om]; exact Fd 0 underlying9 rfl rfl by_Om) ?_
 refine Ca (Li rfl rfl) (Ca (Lc rfl rfl) (Ca (Dc rfl rfl) (Da ?_)))
 refine Bc rfl rfl (fun hc3 => ?_) (fun hc3 => ?_)
 refine Ga (Ca (Pc rfl) (Fa (v := .string (bs (((s1 : Str).drop (k + 1) : Str).drop (1)))) (Gh (1) underlying9 rfl rfl by_Om) (Ca (Ld rfl) (Cb ?_))))
 exact Gb ⟨(((s1 : Str).drop (k + 1) : Str).drop (1)), (false), (by first | (rw [decide_eq_true (show k < s1.length by omega)]; first | exact (Hi (Zd by_Om by_Om)).symm | exact (Ei (Zd by_Om by_Om)).symm | exact (Fi (by first | exact Kc by_Om | exact Jd by_Om) (by first | exact Kc by_Om | exact Jd by_Om)).symm) | (rw [decide_eq_false (show ¬ k < s1.length by omega)]; rfl)), (by first | (rw [decide_eq_true (show k < s1.length by omega), Bool.true_and]; first | exact (Yg by_Om).symm | exact (Kc by_Om).symm) | (rw [decide_eq_false (show ¬ k < s1.length by omega)]; rfl)), Fp, hF⟩
 refine Ra ?_
 exact Gb ⟨((s1 : Str).drop (k + 1)), (false), (by first | (rw [decide_eq_true (show k < s1.length by omega)]; first | exact (Hi (Zd by_Om by_Om)).symm | exact (Ei (Zd by_Om by_Om)).symm | exact (Fi (by first | exact Kc by_Om | exact Jd by_Om) (by first | exact Kc by_Om | exact Jd by_Om)).symm) | (rw [decide_eq_false (show ¬ k < s1.length by omega)]; rfl)), (by first | (rw [decide_eq_true (show k < s1.length by omega), Bool.true_and]; first | exact (Yg by_Om).symm | exact (Kc by_Om).symm) | (rw [decide_eq_false (show ¬ k < s1.length by omega)]; rfl)), Fp, hF⟩
 refine Ea (Ea (Ea (Ca (Dc rfl rfl) (Ca (Dc rfl rfl) (Da (Xe rfl (Ra ?_)))))))
 exact Gb ⟨((s1 : Str).drop (k + 1)), (false), (by first | (rw [decide_eq_true (show k < s1.length by omega)]; first | exact (Hi (Zd by_Om by_Om)).symm | exact (Ei (Zd by_Om by_Om)).symm | exact (Fi (by first | exact Kc by_Om | exact Jd by_Om) (by first | exact Kc by_Om | exact Jd by_Om)).symm) | (rw [decide_eq_false (show ¬ k < s1.length by omega)]; rfl)), (by first | (rw [decide_eq_true (show k < s1.length by omega), Bool.true_and]; first | exact (Yg by_Om).symm | exact (Kc by_Om).symm) | (rw [decide_eq_false (show ¬ k < s1.length by omega)]; rfl)), Fp, hF⟩
 refine Ra ?_
 exact Gb ⟨([48]), (false), (by first | (rw [decide_eq_true (show k < s1.length by omega)]; first | exact (Hi (Zd by_Om by_Om)).symm | exact (Ei (Zd by_Om by_Om)).symm | exact (Fi (by first | exact Kc by_Om | exact Jd by_Om) (by first | exact Kc by_Om | exact Jd by_Om)).symm) | (rw [decide_eq_false (show ¬ k < s1.length by omega)]; rfl)), (by first | (rw [decide_eq_true (show k < s1.length by omega), Bool.true_and]; first | exact (Yg by_Om).symm | exact (Kc by_Om).symm) | (rw [decide_eq_false (show ¬ k < s1.length by omega)]; rfl)), Fp, hF⟩
 clear hF; rintro σ w ⟨ex, mi, hex, hmi, hs, hF⟩
 refine Eg.slots hs ?_
 clear hs; intro σ
 have hex2 : ex.length ≤ 140737488355328 := by rw [hex]; unfold Lo; (repeat' split) <;> (try simp) <;> omega
 have hlt : (s1.take k).length ≤ 140737488355328 := by simp; omega
 refine Ja (Ha (Ca (Pc rfl) (Ca (Za rfl) (Fa (v := .string (bs ((s1 : Str).take (k)))) (Vo (k) underlying9 rfl rfl by_Om) (Ca (Ld rfl) (Yb (Ca (Kb rfl) (Da ?_))))))))
 refine Ia ?_
 refine Hf (fun σ w => ∃ (q : Nat), (q ≤ ((s1 : Str).take k).length) ∧ (Ta [46] ((s1 : Str).take k) = ((((s1 : Str).take k).take q), (((s1 : Str).take k).drop (q + 1)), decide (q < ((s1 : Str).take k).length))) ∧ AllEq σ [(0, .string (bs ((s1 : Str).take (k)))), (8, .bool (ng)), (9, .int .i64 ((q : Int))), (10, .string (bs ex)), (11, .bool (mi))] ∧ FR w0 [] [] w) ?_ ?_
 refine Db ?_
 refine Xc (fun μ σ w => ∃ (j : Nat), μ = ((s1 : Str).take k).length - j ∧ (j ≤ ((s1 : Str).take k).length) ∧ (∀ c ∈ ((s1 : Str).take k).take j, ([46] : Str).contains c = false) ∧ AllEq σ [(0, .string (bs ((s1 : Str).take (k)))), (8, .bool (ng)), (9, .int .i64 ((j : Int))), (10, .string (bs ex)), (11, .bool (mi))] ∧ FR w0 [] [] w) _ ⟨0, rfl, (Nat.zero_le _), Sa, Fp, hF⟩ ?_
 clear hF; rintro μ σ w ⟨j, rfl, hj, hno, hs, hF⟩
 refine Cg.slots hs ?_
 clear hs; intro σ
 refine Ia (Ha (Ca (Za rfl) (Ca (Pc rfl) (Ca (Hk underlying9 rfl) (Ca (Fj rfl rfl) (Ca (Jc rfl) ?_))))))
 refine Mb (d := 80) rfl (fun hg18 => ?_) (fun hg18 => ?_)
 refine Ca (Pc rfl) (Ca (Za rfl) (Fa (v := .int .u8 (((((s1 : Str).take (k) : Str)[j]'by_Om).toNat : Int))) (Fd (j) underlying9 rfl rfl by_Om) (Ca (Vs rfl rfl) (Ca (Lc rfl rfl) (Da ?_)))))
 refine Bc rfl rfl (fun hc4 => ?_) (fun hc4 => ?_)
 refine Ra (Ja (Db (Ga (Ca (Za rfl) (Ca (Di (((j + 1 : Nat) : Int)) rfl rfl) (Ca (Kb rfl) (Cb (Wb ?_))))))))
 refine Gb ⟨_, ?_, j + 1, rfl, by_Om, (Uu by_Om hno (JB by_Om)), Fp, hF⟩
 omega
 refine Oc (Nc rfl ?_)
 exact Gb ⟨(j), by_Om, (Vl by_Om hno (fun h => D3 by_Om)), Fp, hF⟩
 refine Ea (Ea (Ea (Ea (Ca (Dc rfl rfl) (Da (Xe rfl ?_))))))
 refine Oc (Nc rfl ?_)
 exact Gb ⟨(j), by_Om, (Vl by_Om hno (fun h => D3 by_Om)), Fp, hF⟩
 clear hF; rintro σ w ⟨q, hq, hcut2, hs, hF⟩
 refine Eg.slots hs ?_
 clear hs; intro σ
 refine Ja (Ha (Ca (Pc rfl) (Ca (Za rfl) (Fa (v := .string (bs (((s1 : Str).take (k) : Str).take (q)))) (Vo (q) underlying9 rfl rfl by_Om) (Ca (Ld rfl) (Yb (Ca (Ld rfl) (Da ?_))))))))
 refine Ia ?_
 refine Hf (fun σ w => ∃ (re : Str), (re = if decide (q < ((s1 : Str).take k).length) = true then (((s1 : Str).take k).drop (q + 1)) else [48]) ∧ AllEq σ [(0, .string (bs ((s1 : Str).take (k)))), (8, .bool (ng)), (9, .int .i64 ((q : Int))), (10, .string (bs ex)), (11, .bool (mi)), (12, .string (bs (((s1 : Str).take (k) : Str).take (q)))), (13, .string (bs re))] ∧ FR w0 [] [] w) ?_ ?_
 refine Ha (Ca (Za rfl) (Ca (Pc rfl) (Ca (Hk underlying9 rfl) (Ca (Fj rfl rfl) (Da ?_)))))
 refine Bc rfl rfl (fun hc5 => ?_) (fun hc5 => ?_)
 refine Ga (Ca (Pc rfl) (Ca (Za rfl) (Ca (Di (((q + 1 : Nat) : Int)) rfl rfl) (Fa (v := .string (bs (((s1 : Str).take (k) : Str).drop (q + 1)))) (Gh (q + 1) underlying9 rfl rfl by_Om) (Ca (Ld rfl) (Cb ?_))))))
 · exact Gb ⟨(((s1 : Str).take (k) : Str).drop (q + 1)), (by first | (rw [if_pos (decide_eq_true (show q < ((s1 : Str).take k).length by omega))]; done) | (rw [if_neg (by rw [decide_eq_false (show ¬ q < ((s1 : Str).take k).length by omega)]; decide)]; done)), SB, hF⟩
 refine Ra ?_
 · exact Gb ⟨([48]), (by first | (rw [if_pos (decide_eq_true (show q < ((s1 : Str).take k).length by omega))]; done) | (rw [if_neg (by rw [decide_eq_false (show ¬ q < ((s1 : Str).take k).length by omega)]; decide)]; done)), SB, hF⟩
 clear hF; rintro σ w ⟨re, hre, hs, hF⟩
 refine Eg.slots hs ?_
 clear hs; intro σ
 have hre2 : re.length ≤ 140737488355328 := by rw [hre]; split <;> (try simp) <;> omega
 refine Ja (Ha (Ca (Pc rfl) ?_))
 refine Va hF (Rl (((s1 : Str).take (k) : Str).take (q)) (by have := hlt; first | omega | (simp only [List.length_take, List.length_drop] at *; omega)) _) (Ua Ut rfl rfl) ?_
 clear hF; intro w hF
 refine Ca (Jc rfl) ?_
 refine Qe (d := 101) rfl (fun hg19 => ?_) (fun hg19 => ?_)
 refine Ca (Pc rfl) ?_
 refine Va hF (Rl (re) hre2 _) (Ua Ut rfl rfl) ?_
 clear hF; intro w hF
 refine Ca (Lc rfl rfl) (Ca (Jc rfl) ?_)
 refine Qe (d := 105) rfl (fun hg20 => ?_) (fun hg20 => ?_)
 refine Ca (Pc rfl) ?_
 refine Va hF (Rl (ex) hex2 _) (Ua Ut rfl rfl) ?_
 clear hF; intro w hF
 refine Ca (Lc rfl rfl) (Ca (Jc rfl) ?_)
 refine Qe (d := 109) rfl (fun hg21 => ?_) (fun hg21 => ?_)
 refine Ca (Pc rfl) (Ca (Mv rfl rfl) (Ca (Jc rfl) ?_))
 refine Mb (d := 112) rfl (fun hg22 => ?_) (fun hg22 => ?_)
 refine Ea (Ea (Ea (Ca (Lc rfl rfl) (Ca (Lc rfl rfl) (Ca (Cc rfl) (Da (Ia (Ha (Ca (Za rfl) (Ca (Pc rfl) (Ca (Hk underlying9 rfl) ?_)))))))))))
 refine Ca (Li rfl rfl) (Da ?_)
 refine Bc rfl rfl (fun hc6 => ?_) (fun hc6 => ?_)
 refine Ga (Ca (Ld rfl) (Yb (Ca (Jc rfl) (Ca (Pc rfl) (Ca (Pc rfl) (Ca (Jc rfl) (Ca (Pc rfl) (Ca (Jc rfl) (Ca (Cc rfl) (Ca (Ld rfl) ?_))))))))))
 refine Ca (Ld rfl) (Ca (Cc rfl) (Ca (Ld rfl) (Ca (Cc rfl) (Da ?_))))
 refine Pb (Ob (Qa (Fk (v1 := .bool _) (v2 := .string (bs (((s1 : Str).take (k) : Str).take (q)))) (v3 := .string (bs [])) (v4 := .bool _) (v5 := .string (bs ex)) (v6 := .bool true) rfl rfl rfl rfl rfl rfl rfl) ?_))
 refine ⟨_, _, _, _, _, _, rfl, ⟨s1, (((s1 : Str).take k).take q), ((s1 : Str).drop (k + 1)), (((s1 : Str).take k).drop (q + 1)), _, _, hng, hs1, by rw [hcut], by rw [hcut]; exact hcut2, rfl, ?_, hmi, hex, ?_⟩, hF.same⟩
 · first | (rw [if_neg (by rw [decide_eq_false (show ¬ q < ((s1 : Str).take k).length by omega)]; decide)]; done) | (rw [if_pos (decide_eq_true (show q < ((s1 : Str).take k).length by omega))] at hre ⊢; exact hre)
 rw [← hre, ← hex]; unfold Pv; simp_all
 refine Ra (Ja (Ha (Ca (Jc rfl) (Ca (Pc rfl) (Ca (Pc rfl) (Ca (Jc rfl) (Ca (Pc rfl) (Ca (Jc rfl) (Ca (Cc rfl) (Ca (Ld rfl) (Ca (Ld rfl) (Ca (Cc rfl) ?_))))))))))))
 refine Ca (Ld rfl) (Ca (Cc rfl) (Da ?_))
 refine Pb (Ob (Qa (Fk (v1 := .bool _) (v2 := .string (bs (((s1 : Str).take (k) : Str).take (q)))) (v3 := .string (bs re)) (v4 := .bool _) (v5 := .string (bs ex)) (v6 := .bool true) rfl rfl rfl rfl rfl rfl rfl) ?_))
 refine ⟨_, _, _, _, _, _, rfl, ⟨s1, (((s1 : Str).take k).take q), ((s1 : Str).drop (k + 1)), (((s1 : Str).take k).drop (q + 1)), _, _, hng, hs1, by rw [hcut], by rw [hcut]; exact hcut2, rfl, ?_, hmi, hex, ?_⟩, hF.same⟩
 · first | (rw [if_neg (by rw [decide_eq_false (show ¬ q < ((s1 : Str).take k).length by omega)]; decide)]; done) | (rw [if_pos (decide_eq_true (show q < ((s1 : Str).take k).length by omega))] at hre ⊢; exact hre)
 rw [← hre, ← hex]; unfold Pv; simp_all
 refine Ca (Pc rfl) ?_
 refine Fa (v := .int .u8 (bZ ((((s1 : Str).take k).take q)) 0)) (by rw [← Nh (s := (((s1 : Str).take k).take q)) (p := 0) (List.length_pos_iff.2 (Mg (by assumption)))]; exact Fd 0 underlying9 rfl rfl (List.length_pos_iff.2 (Mg (by assumption)))) ?_
 refine Ca (Vs rfl rfl) (Ca (Dc rfl rfl) (Ca (Lc rfl rfl) (Ca (Cc rfl) (Da (Ia (Ha (Ca (Za rfl) (Ca (Pc rfl) (Ca (Hk underlying9 rfl) (Ca (Li rfl rfl) (Cb ?_)))))))))))
 refine Ja ?_
 refine Bc rfl rfl (fun hc6 => ?_) (fun hc6 => ?_)
 refine Ga (Ca (Ld rfl) (Yb (Ca (Jc rfl) (Ca (Pc rfl) (Ca (Pc rfl) (Ca (Jc rfl) (Ca (Pc rfl) (Ca (Jc rfl) (Ca (Cc rfl) (Ca (Ld rfl) ?_))))))))))
 refine Ca (Ld rfl) (Ca (Cc rfl) (Ca (Ld rfl) (Ca (Cc rfl) (Da ?_))))
 refine Pb (Ob (Qa (Fk (v1 := .bool _) (v2 := .string (bs (((s1 : Str).take (k) : Str).take (q)))) (v3 := .string (bs [])) (v4 := .bool _) (v5 := .string (bs ex)) (v6 := .bool _) rfl rfl rfl rfl rfl rfl rfl) ?_))
 refine ⟨_, _, _, _, _, _, rfl, ⟨s1, (((s1 : Str).take k).take q), ((s1 : Str).drop (k + 1)), (((s1 : Str).take k).drop (q + 1)), _, _, hng, hs1, by rw [hcut], by rw [hcut]; exact hcut2, rfl, ?_, hmi, hex, ?_⟩, hF.same⟩
 · first | (rw [if_neg (by rw [decide_eq_false (show ¬ q < ((s1 : Str).take k).length by omega)]; decide)]; done) | (rw [if_pos (decide_eq_true (show q < ((s1 : Str).take k).length by omega))] at hre ⊢; exact hre)
 rw [← hre, ← hex]; unfold Pv; simp_all
 refine Ra (Ja (Ha (Ca (Jc rfl) (Ca (Pc rfl) (Ca (Pc rfl) (Ca (Jc rfl) (Ca (Pc rfl) (Ca (Jc rfl) (Ca (Cc rfl) (Ca (Ld rfl) (Ca (Ld rfl) (Ca (Cc rfl) ?_))))))))))))
 refine Ca (Ld rfl) (Ca (Cc rfl) (Da ?_))
 refine Pb (Ob (Qa (Fk (v1 := .bool _) (v2 := .string (bs (((s1 : Str).take (k) : Str).take (q)))) (v3 := .string (bs re)) (v4 := .bool _) (v5 := .string (bs ex)) (v6 := .bool _) rfl rfl rfl rfl rfl rfl rfl) ?_))
 refine ⟨_, _, _, _, _, _, rfl, ⟨s1, (((s1 : Str).take k).take q), ((s1 : Str).drop (k + 1)), (((s1 : Str).take k).drop (q + 1)), _, _, hng, hs1, by rw [hcut], by rw [hcut]; exact hcut2, rfl, ?_, hmi, hex, ?_⟩, hF.same⟩
 · first | (rw [if_neg (by rw [decide_eq_false (show ¬ q < ((s1 : Str).take k).length by omega)]; decide)]; done) | (rw [if_pos (decide_eq_true (show q < ((s1 : Str).take k).length by omega))] at hre ⊢; exact hre)
 rw [← hre, ← hex]; unfold Pv; simp_all
 refine Ea (Ea (Ea (Ea (Ea (Ea (Ea (Ca (Dc rfl rfl) (Ca (Cc rfl) (Da (Ia (Ha ?_)))))))))))
 refine Ca (Za rfl) (Ca (Pc rfl) (Ca (Hk underlying9 rfl) (Ca (Li rfl rfl) (Da ?_))))
 refine Bc rfl rfl (fun hc6 => ?_) (fun hc6 => ?_)
 refine Ga (Ca (Ld rfl) (Yb (Ca (Jc rfl) (Ca (Pc rfl) (Ca (Pc rfl) (Ca (Jc rfl) (Ca (Pc rfl) (Ca (Jc rfl) (Ca (Cc rfl) (Ca (Ld rfl) ?_))))))))))
 refine Ca (Ld rfl) (Ca (Cc rfl) (Ca (Ld rfl) (Ca (Cc rfl) (Da ?_))))
 refine Pb (Ob (Qa (Fk (v1 := .bool _) (v2 := .string (bs (((s1 : Str).take (k) : Str).take (q)))) (v3 := .string (bs [])) (v4 := .bool _) (v5 := .string (bs ex)) (v6 := .bool false) rfl rfl rfl rfl rfl rfl rfl) ?_))
 refine ⟨_, _, _, _, _, _, rfl, ⟨s1, (((s1 : Str).take k).take q), ((s1 : Str).drop (k + 1)), (((s1 : Str).take k).drop (q + 1)), _, _, hng, hs1, by rw [hcut], by rw [hcut]; exact hcut2, rfl, ?_, hmi, hex, ?_⟩, hF.same⟩
 · first | (rw [if_neg (by rw [decide_eq_false (show ¬ q < ((s1 : Str).take k).length by omega)]; decide)]; done) | (rw [if_pos (decide_eq_true (show q < ((s1 : Str).take k).length by omega))] at hre ⊢; exact hre)
 rw [← hre, ← hex]; unfold Pv; simp_all
 refine Ra (Ja (Ha (Ca (Jc rfl) (Ca (Pc rfl) (Ca (Pc rfl) (Ca (Jc rfl) (Ca (Pc rfl) (Ca (Jc rfl) (Ca (Cc rfl) (Ca (Ld rfl) (Ca (Ld rfl) (Ca (Cc rfl) ?_))))))))))))
 refine Ca (Ld rfl) (Ca (Cc rfl) (Da ?_))
 refine Pb (Ob (Qa (Fk (v1 := .bool _) (v2 := .string (bs (((s1 : Str).take (k) : Str).take (q)))) (v3 := .string (bs re)) (v4 := .bool _) (v5 := .string (bs ex)) (v6 := .bool false) rfl rfl rfl rfl rfl rfl rfl) ?_))
 refine ⟨_, _, _, _, _, _, rfl, ⟨s1, (((s1 : Str).take k).take q), ((s1 : Str).drop (k + 1)), (((s1 : Str).take k).drop (q + 1)), _, _, hng, hs1, by rw [hcut], by rw [hcut]; exact hcut2, rfl, ?_, hmi, hex, ?_⟩, hF.same⟩
 · first | (rw [if_neg (by rw [decide_eq_false (show ¬ q < ((s1 : Str).take k).length by omega)]; decide)]; done) | (rw [if_pos (decide_eq_true (show q < ((s1 : Str).take k).length by omega))] at hre ⊢; exact hre)
 rw [← hre, ← hex]; unfold Pv; simp_all
 refine Ea (Ea (Ca (Dc rfl rfl) (Ca (Jc rfl) (Ea (Ea (Ea (Ea (Ea (Ea (Ea (Ca (Dc rfl rfl) (Ca (Cc rfl) (Cb ?_)))))))))))))
 refine Ja (Ia (Ha (Ca (Za rfl) (Ca (Pc rfl) (Ca (Hk underlying9 rfl) (Ca (Li rfl rfl) (Da ?_)))))))
 refine Bc rfl rfl (fun hc6 => ?_) (fun hc6 => ?_)
 refine Ga (Ca (Ld rfl) (Yb (Ca (Jc rfl) (Ca (Pc rfl) (Ca (Pc rfl) (Ca (Jc rfl) (Ca (Pc rfl) (Ca (Jc rfl) (Ca (Cc rfl) (Ca (Ld rfl) ?_))))))))))
 refine Ca (Ld rfl) (Ca (Cc rfl) (Ca (Ld rfl) (Ca (Cc rfl) (Da ?_))))
 refine Pb (Ob (Qa (Fk (v1 := .bool _) (v2 := .string (bs (((s1 : Str).take (k) : Str).take (q)))) (v3 := .string (bs [])) (v4 := .bool _) (v5 := .string (bs ex)) (v6 := .bool false) rfl rfl rfl rfl rfl rfl rfl) ?_))
 refine ⟨_, _, _, _, _, _, rfl, ⟨s1, (((s1 : Str).take k).take q), ((s1 : Str).drop (k + 1)), (((s1 : Str).take k).drop (q + 1)), _, _, hng, hs1, by rw [hcut], by rw [hcut]; exact hcut2, rfl, ?_, hmi, hex, ?_⟩, hF.same⟩
 · first | (rw [if_neg (by rw [decide_eq_false (show ¬ q < ((s1 : Str).take k).length by omega)]; decide)]; done) | (rw [if_pos (decide_eq_true (show q < ((s1 : Str).take k).length by omega))] at hre ⊢; exact hre)
 rw [← hre, ← hex]; unfold Pv; simp_all
 refine Ra (Ja (Ha (Ca (Jc rfl) (Ca (Pc rfl) (Ca (Pc rfl) (Ca (Jc rfl) (Ca (Pc rfl) (Ca (Jc rfl) (Ca (Cc rfl) (Ca (Ld rfl) (Ca (Ld rfl) (Ca (Cc rfl) ?_))))))))))))
 refine Ca (Ld rfl) (Ca (Cc rfl) (Da ?_))
 refine Pb (Ob (Qa (Fk (v1 := .bool _) (v2 := .string (bs (((s1 : Str).take (k) : Str).take (q)))) (v3 := .string (bs re)) (v4 := .bool _) (v5 := .string (bs ex)) (v6 := .bool false) rfl rfl rfl rfl rfl rfl rfl) ?_))
 refine ⟨_, _, _, _, _, _, rfl, ⟨s1, (((s1 : Str).take k).take q), ((s1 : Str).drop (k + 1)), (((s1 : Str).take k).drop (q + 1)), _, _, hng, hs1, by rw [hcut], by rw [hcut]; exact hcut2, rfl, ?_, hmi, hex, ?_⟩, hF.same⟩
 · first | (rw [if_neg (by rw [decide_eq_false (show ¬ q < ((s1 : Str).take k).length by omega)]; decide)]; done) | (rw [if_pos (decide_eq_true (show q < ((s1 : Str).take k).length by omega))] at hre ⊢; exact hre)
 rw [← hre, ← hex]; unfold Pv; simp_all
 refine Ea (Ea (Ca (Dc rfl rfl) (Ca (Jc rfl) (Ea (Ea (Ca (Dc rfl rfl) (Ca (Jc rfl) (Ea (Ea (Ea (Ea (Ea (Ea ?_)))))))))))))
 refine Ea (Ca (Dc rfl rfl) (Ca (Cc rfl) (Da (Ia (Ha (Ca (Za rfl) (Ca (Pc rfl) (Ca (Hk underlying9 rfl) (Ca (Li rfl rfl) (Da ?_))))))))))
 refine Bc rfl rfl (fun hc6 => ?_) (fun hc6 => ?_)
 refine Ga (Ca (Ld rfl) (Yb (Ca (Jc rfl) (Ca (Pc rfl) (Ca (Pc rfl) (Ca (Jc rfl) (Ca (Pc rfl) (Ca (Jc rfl) (Ca (Cc rfl) (Ca (Ld rfl) ?_))))))))))
 refine Ca (Ld rfl) (Ca (Cc rfl) (Ca (Ld rfl) (Ca (Cc rfl) (Da ?_))))
 refine Pb (Ob (Qa (Fk (v1 := .bool _) (v2 := .string (bs (((s1 : Str).take (k) : Str).take (q)))) (v3 := .string (bs [])) (v4 := .bool _) (v5 := .string (bs ex)) (v6 := .bool false) rfl rfl rfl rfl rfl rfl rfl) ?_))
 refine ⟨_, _, _, _, _, _, rfl, ⟨s1, (((s1 : Str).take k).take q), ((s1 : Str).drop (k + 1)), (((s1 : Str).take k).drop (q + 1)), _, _, hng, hs1, by rw [hcut], by rw [hcut]; exact hcut2, rfl, ?_, hmi, hex, ?_⟩, hF.same⟩
 · first | (rw [if_neg (by rw [decide_eq_false (show ¬ q < ((s1 : Str).take k).length by omega)]; decide)]; done) | (rw [if_pos (decide_eq_true (show q < ((s1 : Str).take k).length by omega))] at hre ⊢; exact hre)
 rw [← hre, ← hex]; unfold Pv; simp_all
 refine Ra (Ja (Ha (Ca (Jc rfl) (Ca (Pc rfl) (Ca (Pc rfl) (Ca (Jc rfl) (Ca (Pc rfl) (Ca (Jc rfl) (Ca (Cc rfl) (Ca (Ld rfl) (Ca (Ld rfl) (Ca (Cc rfl) ?_))))))))))))
 refine Ca (Ld rfl) (Ca (Cc rfl) (Da ?_))
 refine Pb (Ob (Qa (Fk (v1 := .bool _) (v2 := .string (bs (((s1 : Str).take (k) : Str).take (q)))) (v3 := .string (bs re)) (v4 := .bool _) (v5 := .string (bs ex)) (v6 := .bool false) rfl rfl rfl rfl rfl rfl rfl) ?_))
 refine ⟨_, _, _, _, _, _, rfl, ⟨s1, (((s1 : Str).take k).take q), ((s1 : Str).drop (k + 1)), (((s1 : Str).take k).drop (q + 1)), _, _, hng, hs1, by rw [hcut], by rw [hcut]; exact hcut2, rfl, ?_, hmi, hex, ?_⟩, hF.same⟩
 · first | (rw [if_neg (by rw [decide_eq_false (show ¬ q < ((s1 : Str).take k).length by omega)]; decide)]; done) | (rw [if_pos (decide_eq_true (show q < ((s1 : Str).take k).length by omega))] at hre ⊢; exact hre)
 rw [← hre, ← hex]; unfold Pv; simp_all
end Go.Scarf
