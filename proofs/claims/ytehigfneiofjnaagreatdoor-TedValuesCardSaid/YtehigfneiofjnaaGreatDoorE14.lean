/- A part of the proof. -/
import Derived.Test.YtehigfneiofjnaaGreatDoorE12
import Derived.Test.YtehigfneiofjnaaGreatDoorX2
set_option linter.all false
set_option maxHeartbeats 8000000
set_option maxRecDepth 10000
namespace Go.Scarf
open Go.RowKit Go.Proofs Go.Proofs.Tryz
def RE (m : Bool) (ind d : Nat) (k : Int) (ks : List Str) (xs : List Tree) : List Str := if k = 6 then Hl m ind xs ks (d + 1) else Bo m ind xs (d + 1)
def tG (m : Bool) (ind d : Nat) (k : Int) (ks : List Str) (xs : List Tree) (j : Nat) : Str := (if k = 6 then 123 else 91) :: Ii m ind d true ((RE m ind d k ks xs).take j)
theorem D5 (m : Bool) (ind d : Nat) (k : Int) (ks : List Str) (xs : List Tree) : (RE m ind d k ks xs).length = xs.length := by
  unfold RE
  split
  · exact Qm _ _ _ _ _
  · rw [Xo, List.length_map]
theorem Pt (m : Bool) (ind d : Nat) : ∀ (ps : List Str) (j : Nat) (h : j < ps.length) (b : Bool), Ii m ind d b (ps.take (j + 1)) = Ii m ind d b (ps.take j) ++ ((if b = true ∧ j = 0 then [] else [44]) ++ (Zg m ind (d + 1) ++ ps[j]))
  | p :: ps, 0, h, b => by cases b <;> simp [Ii]
  | p :: ps, j + 1, h, b => by
    have h1 : j < ps.length := by simpa using h
    rw [List.take_succ_cons, List.take_succ_cons, Ii, Ii, Pt m ind d ps j h1 false]
    simp
theorem J8 (m : Bool) (ind d : Nat) : ∀ (ps : List Str) (j : Nat) (b : Bool), (Ii m ind d b (ps.take j)).length ≤ (Ii m ind d b ps).length
  | [], j, b => by simp
  | p :: ps, 0, b => by simp [Ii]
  | p :: ps, j + 1, b => by
    have := J8 m ind d ps j false
    rw [List.take_succ_cons, Ii, Ii]
    simp only [List.length_append]
    omega
theorem VA (m : Bool) (ind d : Nat) (k : Int) (ks : List Str) (xs : List Tree) : tG m ind d k ks xs 0 = [if k = 6 then 123 else 91] := by rw [tG, List.take_zero, Ii]
theorem JL {m : Bool} {ind d : Nat} {k : Int} {ks : List Str} {xs : List Tree} {j : Nat} (h6 : k = 6 → ks.length = xs.length) (h : j < xs.length) :
    (k = 6 ∧ ∃ hk : j < ks.length, tG m ind d k ks xs (j + 1) = tG m ind d k ks xs j ++ ((if j = 0 then [] else [44]) ++ (Zg m ind (d + 1) ++ (qS ks[j] ++ ([58] ++ ((if m then [32] else []) ++ Ig m ind xs[j] (d + 1))))))) ∨
    (¬ k = 6 ∧ tG m ind d k ks xs (j + 1) = tG m ind d k ks xs j ++ ((if j = 0 then [] else [44]) ++ (Zg m ind (d + 1) ++ Ig m ind xs[j] (d + 1)))) := by
  have h1 : j < (RE m ind d k ks xs).length := by rw [D5]; exact h
  by_cases hk : k = 6
  · have hl : j < ks.length := by have := h6 hk; omega
    refine .inl ⟨hk, hl, ?_⟩
    have h2 : (RE m ind d k ks xs)[j] = qS ks[j] ++ ([58] ++ ((if m then [32] else []) ++ Ig m ind xs[j] (d + 1))) := by
      have e : RE m ind d k ks xs = Hl m ind xs ks (d + 1) := if_pos hk
      rw [List.getElem_of_eq e, Gw m ind (d + 1) xs ks j h hl, R7]
    rw [tG, Pt m ind d _ j h1 true, h2, tG]
    simp
  · refine .inr ⟨hk, ?_⟩
    have h2 : (RE m ind d k ks xs)[j] = Ig m ind xs[j] (d + 1) := by
      have e : RE m ind d k ks xs = Bo m ind xs (d + 1) := if_neg hk
      have e2 := Xo m ind (d + 1) xs
      rw [List.getElem_of_eq (e.trans e2), List.getElem_map]
    rw [tG, Pt m ind d _ j h1 true, h2, tG]
    simp
theorem V_ {m : Bool} {ind d : Nat} {k : Int} {t : Str} {ks : List Str} {xs : List Tree} (hk : k = 5 ∨ k = 6) : Ig m ind (.node k t ks xs) d = tG m ind d k ks xs xs.length ++ ((if xs.length = 0 then [] else Zg m ind d) ++ [if k = 6 then 125 else 93]) := by
  have hl := D5 m ind d k ks xs
  have hn : (RE m ind d k ks xs = []) ↔ xs.length = 0 := by rw [← hl]; exact List.length_eq_zero_iff.symm
  rw [tG, List.take_of_length_le by_Om]
  rcases hk with rfl | rfl
  · rw [Ig, if_neg by_Om, if_neg by_Om, if_pos rfl, Pl]
    have e : RE m ind d 5 ks xs = Bo m ind xs (d + 1) := if_neg by_Om
    have e5 : (if (5 : Int) = 6 then (123 : UInt8) else 91) = 91 := rfl
    have e6 : (if (5 : Int) = 6 then (125 : UInt8) else 93) = 93 := rfl
    rw [← e, e5, e6]
    by_cases h : xs.length = 0
    · rw [if_pos h, if_pos (hn.2 h)]; simp
    · rw [if_neg h, if_neg (fun q => h (hn.1 q))]; simp
  · rw [Ig, if_neg by_Om, if_neg by_Om, if_neg by_Om, if_pos rfl, Pl]
    have e : RE m ind d 6 ks xs = Hl m ind xs ks (d + 1) := if_pos rfl
    have e5 : (if (6 : Int) = 6 then (123 : UInt8) else 91) = 123 := rfl
    have e6 : (if (6 : Int) = 6 then (125 : UInt8) else 93) = 125 := rfl
    rw [← e, e5, e6]
    by_cases h : xs.length = 0
    · rw [if_pos h, if_pos (hn.2 h)]; simp
    · rw [if_neg h, if_neg (fun q => h (hn.1 q))]; simp
theorem WN {m : Bool} {ind d : Nat} {k : Int} {t : Str} {ks : List Str} {xs : List Tree} (hk : k = 5 ∨ k = 6) (j : Nat) : (tG m ind d k ks xs j).length + 1 ≤ (Ig m ind (.node k t ks xs) d).length := by
  have h := congrArg List.length (V_ (m := m) (ind := ind) (d := d) (t := t) (ks := ks) (xs := xs) hk)
  have h3 := J8 m ind d (RE m ind d k ks xs) j true
  have h4 : (tG m ind d k ks xs xs.length).length = (Ii m ind d true (RE m ind d k ks xs)).length + 1 := by rw [tG, List.take_of_length_le (by rw [D5]; exact Nat.le_refl _)]; rfl
  simp only [List.length_append, List.length_cons, List.length_nil, h4] at h
  rw [tG]
  simp only [List.length_cons]
  omega
theorem Nz (n : Nat) : (Lib.repeatL [32] n).length = n := by
  induction n with
  | zero => rfl
  | succ n ih => simp [Lib.repeatL, ih]; try omega
def Kv (m : Bool) (ind : Nat) : Int := if m then (ind : Int) else -1
def E_ (x : Tree) : Prop := ∀ (m : Bool) (ind d : Nat) S w0 cs, Rep S w0 (Gc x) cs → Yd rnodeB x = true → Ae x ≤ 16777216 → ind * (d + Wc x) ≤ 1000000000 → d + Wc x ≤ 1000000000 → (Ig m ind x d).length ≤ 4398046511104 →
  Calls prog 86 #[.agg cs.toArray, .int .i64 (Kv m ind), .int .i64 (d : Nat)] w0 (Ce fun v w' => v = .string (bs (Ig m ind x d)) ∧ Same [] w0 w')
theorem X3 {m : Bool} {ind : Nat} (h : 0 ≤ Kv m ind) : m = true := by unfold Kv at h; cases m <;> simp_all
theorem Dz {m : Bool} {ind : Nat} (h : ¬ 0 ≤ Kv m ind) : m = false := by unfold Kv at h; cases m <;> simp_all
theorem JI {m : Bool} {ind d : Nat} (hm : m = true) (hb : ind * d ≤ 1000000000) : IntKind.i64.wrap (Kv m ind * ((d : Nat) : Int)) = ((ind * d : Nat) : Int) := by
  subst hm
  have e : Kv true ind = ((ind : Nat) : Int) := rfl
  rw [e]
  exact Me Sa by_Om by_Om
theorem By {l : List Str} {j : Nat} (h : j < l.length) : l.getD j [] = l[j] := by simp [List.getD, h]
def kG (m : Bool) (k : Int) (ks : List Str) (j : Nat) : Str := if k = 6 then qS (ks.getD j []) ++ ([58] ++ (if m then [32] else [])) else []
theorem KK {m : Bool} {ind d : Nat} {k : Int} {ks : List Str} {xs : List Tree} {j : Nat} (h6 : k = 6 → ks.length = xs.length) (h : j < xs.length) :
    tG m ind d k ks xs (j + 1) = tG m ind d k ks xs j ++ ((if j = 0 then [] else [44]) ++ (Zg m ind (d + 1) ++ (kG m k ks j ++ Ig m ind xs[j] (d + 1)))) := by
  rcases JL (m := m) (ind := ind) (d := d) h6 h with ⟨hk, hj, e⟩ | ⟨hk, e⟩
  · rw [e, kG, if_pos hk, By hj]; simp
  · rw [e, kG, if_neg hk]; simp
theorem G7 (m : Bool) (ind d : Nat) : (Zg m ind d).length ≤ 1 + ind * d := by
  rw [Zg]; split
  · simp [Nz]; omega
  · simp
theorem N9 {k : Int} {t : Str} {ks : List Str} {xs : List Tree} (h : rnodeB (.node k t ks xs) = true) : 1 ≤ k ∧ k ≤ 6 := by
  rcases Ex h with ⟨h, _⟩ | ⟨h, _⟩ | ⟨h, _⟩ | ⟨h, _⟩ | ⟨h, _⟩ | ⟨h, _⟩ <;> omega
theorem YD {k : Int} {t : Str} {ks : List Str} {xs : List Tree} (h : rnodeB (.node k t ks xs) = true) (hk : k = 6) : ks.length = xs.length := by
  rcases Ex h with ⟨h, _⟩ | ⟨h, _⟩ | ⟨h, _⟩ | ⟨h, _⟩ | ⟨h, _⟩ | ⟨_, _, _, _, h⟩
  all_goals first | exact h | omega
theorem FA (k : Int) (t : Str) (ks : List Str) (xs : List Tree) (ih : ∀ x ∈ xs, E_ x) (m : Bool) (ind d : Nat) (S : Nat → Prop) (w0 : World) (A : Option Addr) (c : Nat) (B : Option Addr) (e : Nat) (hR : Rep S w0 (Gc (.node k t ks xs)) [.int .i64 k, .string (bs t), .slice A ks.length c, .slice B xs.length e]) (hK : Rep S w0 (We ks) [.slice A ks.length c]) (hX : Rep S w0 (.slice (Je xs)) [.slice B xs.length e]) (hn : rnodeB (.node k t ks xs) = true ∧ ∀ x ∈ xs, Yd rnodeB x = true) (hmt : t.length ≤ 16777216) (hmk : Ok ks ≤ 16777216) (hmx : Oj xs ≤ 16777216) (hd : ind * (d + (Hd xs + 1)) ≤ 1000000000) (hd2 : d + (Hd xs + 1) ≤ 1000000000) (hl : (Ig m ind (.node k t ks xs) d).length ≤ 4398046511104) : Calls prog 86 #[.agg #[.int .i64 k, .string (bs t), .slice A ks.length c, .slice B xs.length e], .int .i64 (Kv m ind), .int .i64 (d : Nat)] w0 (Ce fun v w' => v = .string (bs (Ig m ind (.node k t ks xs) d)) ∧ Same [] w0 w') := by
 have hKl := hK.slice_len
 have hXl := hX.slice_len
 have hkk := N9 hn.1
 have h6 : k = 6 → ks.length = xs.length := fun h => YD hn.1 h
 have hbL1 : ind * (d + 1) ≤ 1000000000 := Nat.le_trans (Nat.mul_le_mul_left ind by_Om) hd
 have hbL0 : ind * d ≤ 1000000000 := Nat.le_trans (Nat.mul_le_mul_left ind by_Om) hd
 refine Ma func86 rfl ntmps86 Qb (Bw _ _ _) ?_
 have hF := FR.start w0 []
 refine Ha ?_
 refine Bh hF rfl ?_
 clear hF; rintro b1 w hb1 hF -
 refine Ca (Ld rfl) (Da (Ia (Ha (Ca (Fc Ke rfl) (Uc (Nm isAgg3 rfl hF.F 0 rfl rfl) (Da (Db (Ha (Ca (Li rfl rfl) ?_)))))))))
 refine Ca (Cc rfl) (Da ?_)
 refine Bc rfl rfl (fun hc0 => ?_) (fun hc0 => ?_)
 refine Ha (Ca (Ld rfl) (Da ?_))
 refine Ud (v := .string (bs [110, 117, 108, 108])) rfl rfl ?_
 exact ⟨by rw [Ig, if_pos by_Om], hF.same⟩
 refine Ia (Ha (Ca (Li rfl rfl) (Ca (Cc rfl) (Da ?_))))
 refine Bc rfl rfl (fun hc1 => ?_) (fun hc1 => ?_)
 refine Ra (Ja (Qd rfl (Ha (Ca (Fc Pf rfl) (Uc (Ko isAgg9 rfl hF.F 0 rfl rfl) (Ca (Ld rfl) (Da ?_)))))))
 refine Ud (v := .string (bs t)) rfl rfl ?_
 exact ⟨by rw [Ig, if_neg by_Om, if_neg by_Om, if_neg by_Om, if_neg by_Om], hF.same⟩
 refine Ga (Ca (Li rfl rfl) (Ca (Cc rfl) (Da ?_)))
 refine Bc rfl rfl (fun hc2 => ?_) (fun hc2 => ?_)
 refine Ha (Ca (Fc Pf rfl) (Uc (Ko isAgg9 rfl hF.F 0 rfl rfl) (Ca (Ld rfl) (Da ?_))))
 refine Ud (v := .string (bs t)) rfl rfl ?_
 exact ⟨by rw [Ig, if_neg by_Om, if_neg by_Om, if_neg by_Om, if_neg by_Om], hF.same⟩
 refine Ha (Ca (Li rfl rfl) (Ca (Cc rfl) (Da ?_)))
 refine Bc rfl rfl (fun hc3 => ?_) (fun hc3 => ?_)
 refine Ha (Ca (Fc Pf rfl) (Uc (Ko isAgg9 rfl hF.F 0 rfl rfl) ?_))
 refine Va hF (E8 t by_Om _) (Ua JF rfl rfl) ?_
 clear hF; intro w hF
 refine Ca (Qg rfl) (Ca (M1 rfl rfl) (Ca (Re rfl rfl) (Ca (Ld rfl) (Ca (Kb rfl) (Yb (Ca (Pc rfl) (Ca (Ld rfl) (Da ?_))))))))
 refine Ud (v := .string (bs (qS t))) rfl rfl ?_
 exact ⟨by rw [Ig, if_neg by_Om, if_pos by_Om], hF.same⟩
 refine Ra (Wb (Ja (Ha (Ca (Ld rfl) (Yb (Ca (Ld rfl) (Da ?_)))))))
 have hk56 : k = 5 ∨ k = 6 := by omega
 refine Ia ?_
 refine Hf (fun σ w => ∃ (o : UInt8), ∃ (c9 : UInt8), (o = if k = 6 then 123 else 91) ∧ (c9 = if k = 6 then 125 else 93) ∧ AllEq σ [(1, .int .i64 (Kv m ind)), (2, .int .i64 ((d : Int))), (3, .pointer (some ⟨b1, 0, none⟩)), (9, .string (bs ([o]))), (10, .string (bs ([c9])))] ∧ FR w0 [] [(b1, .cells #[.int .i64 k, .string (bs t), .slice A ks.length c, .slice B xs.length e] 25)] w) ?_ ?_
 refine Ha (Ca (Fc Ke rfl) (Uc (Nm isAgg3 rfl hF.F 0 rfl rfl) (Ca (Li rfl rfl) (Da ?_))))
 refine Bc rfl rfl (fun hc4 => ?_) (fun hc4 => ?_)
 refine Ha (Ca (Ld rfl) (Da (Ga (Ca (Ld rfl) (Cb ?_)))))
 exact Gb ⟨(123), (125), (by first | (rw [if_pos by_Om]) | (rw [if_neg by_Om])), (by first | (rw [if_pos by_Om]) | (rw [if_neg by_Om])), Fp, hF⟩
 refine Ra ?_
 exact Gb ⟨(91), (93), (by first | (rw [if_pos by_Om]) | (rw [if_neg by_Om])), (by first | (rw [if_pos by_Om]) | (rw [if_neg by_Om])), Fp, hF⟩
 clear hF; rintro σ w ⟨o, c9, ho, hc9, hs, hF⟩
 refine Eg.slots hs ?_
 clear hs; intro σ
 refine Ja (Ia (Ha (Ca (Fc Vc rfl) (Uc (Mf isAgg23 rfl hF.F 0 rfl rfl) (Ca (Ji underlying23 rfl) (Ca (Li rfl rfl) (Da ?_)))))))
 refine Bc rfl rfl (fun hc5 => ?_) (fun hc5 => ?_)
 refine Ha (Ca (Pc rfl) (Ca (Pc rfl) ?_))
 refine Fa (v := .string (bs (([o]) ++ ([c9])))) (Tg rfl rfl (by (try simp only [List.length_append, List.length_cons, List.length_nil]); omega)) ?_
 refine Ca (Ld rfl) (Da ?_)
 refine Ud (v := .string (bs (([o]) ++ ([c9])))) rfl rfl ?_
 exact ⟨by rw [V_ hk56, if_pos by_Om, show xs.length = 0 by omega, VA, ho, hc9]; rfl, hF.same⟩
 refine Ra (Ja (Ha (Ca (Pc rfl) (Ca (Ld rfl) (Da (Ia (Ha (Ca (Kb rfl) (Da ?_)))))))))
 refine Db ?_
 refine Xc (fun μ σ w => ∃ (j : Nat), ∃ (s : Str), μ = xs.length - j ∧ (j ≤ xs.length) ∧ (s = tG m ind d k ks xs j) ∧ AllEq σ [(1, .int .i64 (Kv m ind)), (2, .int .i64 ((d : Int))), (3, .pointer (some ⟨b1, 0, none⟩)), (10, .string (bs ([c9]))), (11, .string (bs s)), (12, .int .i64 ((j : Int)))] ∧ FR w0 [] [(b1, .cells #[.int .i64 k, .string (bs t), .slice A ks.length c, .slice B xs.length e] 25)] w) _ ⟨0, [o], rfl, (Nat.zero_le _), (by rw [VA, ho]), Xt, hF⟩ ?_
 clear hF; rintro μ σ w ⟨j, s, rfl, hj, hs, hs, hF⟩
 refine Cg.slots hs ?_
 clear hs; intro σ
 have hsl : s.length + 1 ≤ 4398046511104 := by rw [hs]; exact Nat.le_trans (WN hk56 j) hl
 refine Ia (Ha (Ca (Za rfl) (Ca (Fc Vc rfl) (Uc (Mf isAgg23 rfl hF.F 0 rfl rfl) (Ca (Ji underlying23 rfl) (Ca (Fj rfl rfl) (Da ?_)))))))
 refine Bc rfl rfl (fun hc6 => ?_) (fun hc6 => ?_)
 have hjx : j < xs.length := by omega
 have hsj := KK (m := m) (ind := ind) (d := d) h6 hjx
 have hlj := WN (m := m) (ind := ind) (d := d) (t := t) (ks := ks) (xs := xs) hk56 (j + 1)
 have hls := congrArg List.length hsj
 simp only [List.length_append] at hls
 refine Ra (Ja (Ia (Db (Ia ?_))))
 refine Hf (fun σ w => ∃ (s1 : Str), (s1 = s ++ (if j = 0 then [] else [44])) ∧ AllEq σ [(1, .int .i64 (Kv m ind)), (2, .int .i64 ((d : Int))), (3, .pointer (some ⟨b1, 0, none⟩)), (10, .string (bs ([c9]))), (11, .string (bs s1)), (12, .int .i64 ((j : Int)))] ∧ FR w0 [] [(b1, .cells #[.int .i64 k, .string (bs t), .slice A ks.length c, .slice B xs.length e] 25)] w) ?_ ?_
 refine Ha (Ca (Za rfl) (Ca (Gn rfl rfl) (Da ?_)))
 refine Bc rfl rfl (fun hc7 => ?_) (fun hc7 => ?_)
 refine Ga (Ca (Pc rfl) ?_)
 refine Fa (v := .string (bs ((s) ++ ([44])))) (Tg rfl rfl (by (try simp only [List.length_append, List.length_cons, List.length_nil]); omega)) ?_
 refine Ca (Ld rfl) (Cb ?_)
 exact Gb ⟨((s) ++ ([44])), (by first | (rw [if_neg by_Om]) | (rw [if_pos by_Om]; simp)), Xt, hF⟩
 refine Ra ?_
 exact Gb ⟨(s), (by first | (rw [if_neg by_Om]) | (rw [if_pos by_Om]; simp)), Xt, hF⟩
 clear hF; rintro σ w ⟨s1, hs1, hs, hF⟩
 refine Eg.slots hs ?_
 clear hs; intro σ
 have hl1 : s1.length ≤ s.length + 1 := by rw [hs1, List.length_append]; split <;> simp
 refine Ja (Ia ?_)
 refine Hf (fun σ w => ∃ (s2 : Str), (s2 = s1 ++ Zg m ind (d + 1)) ∧ AllEq σ [(1, .int .i64 (Kv m ind)), (2, .int .i64 ((d : Int))), (3, .pointer (some ⟨b1, 0, none⟩)), (10, .string (bs ([c9]))), (11, .string (bs s2)), (12, .int .i64 ((j : Int)))] ∧ FR w0 [] [(b1, .cells #[.int .i64 k, .string (bs t), .slice A ks.length c, .slice B xs.length e] 25)] w) ?_ ?_
 refine Ha (Ca (Za rfl) (Ca (Zv rfl rfl) (Da ?_)))
 refine Bc rfl rfl (fun hc8 => ?_) (fun hc8 => ?_)
 have hm : m = true := X3 (by assumption)
 refine Ga (Ca (Pc rfl) ?_)
 refine Fa (v := .string (bs ((s1) ++ ([10])))) (Tg rfl rfl (by (try simp only [List.length_append, List.length_cons, List.length_nil]); omega)) ?_
 refine Ca (Za rfl) (Ca (Za rfl) (Ca (Di (((d + 1 : Nat) : Int)) rfl rfl) (Fa (v := .int .i64 (((ind * (d + 1) : Nat) : Int))) (Im rfl rfl (JI hm hbL1)) ?_)))
 refine Va hF (F7 (ind * (d + 1)) by_Om _) (Ua TG rfl rfl) ?_
 clear hF; intro w hF
 refine Fa (v := .string (bs (((s1) ++ ([10])) ++ (Lib.repeatL [32] (ind * (d + 1)))))) (Tg rfl rfl (by rw [Nz]; (try simp only [List.length_append, List.length_cons, List.length_nil]); omega)) ?_
 refine Ca (Ld rfl) (Cb ?_)
 · exact Gb ⟨(((s1) ++ ([10])) ++ (Lib.repeatL [32] (ind * (d + 1)))), (by first | (rw [Zg, if_pos hm]; simp; done) | (rw [Zg, hm]; simp; done)), Xt, hF⟩
 have hm : m = false := Dz (by assumption)
 refine Ra ?_
 · exact Gb ⟨(s1), (by first | (rw [Zg, if_pos hm]; simp; done) | (rw [Zg, hm]; simp; done)), Xt, hF⟩
 clear hF; rintro σ w ⟨s2, hs2, hs, hF⟩
 refine Eg.slots hs ?_
 clear hs; intro σ
 have hl2 : s2.length ≤ s1.length + 1 + ind * (d + 1) := by have := G7 m ind (d + 1); rw [hs2, List.length_append]; omega
 refine Ja (Ia ?_)
 refine Hf (fun σ w => ∃ (s3 : Str), (s3 = s2 ++ kG m k ks j) ∧ AllEq σ [(1, .int .i64 (Kv m ind)), (2, .int .i64 ((d : Int))), (3, .pointer (some ⟨b1, 0, none⟩)), (10, .string (bs ([c9]))), (11, .string (bs s3)), (12, .int .i64 ((j : Int)))] ∧ FR w0 [] [(b1, .cells #[.int .i64 k, .string (bs t), .slice A ks.length c, .slice B xs.length e] 25)] w) ?_ ?_
 refine Ha (Ca (Fc Ke rfl) (Uc (Nm isAgg3 rfl hF.F 0 rfl rfl) (Ca (Li rfl rfl) (Da ?_))))
 refine Bc rfl rfl (fun hc9 => ?_) (fun hc9 => ?_)
 have hk6 : k = 6 := by omega
 have hjk : j < ks.length := by have := h6 hk6; omega
 have hql := Nw ks[j]
 have hkm := Ch (List.getElem_mem hjk)
 refine Ha (Ca (Fc Nf rfl) (Uc (Mf isAgg22 rfl hF.F 0 rfl rfl) (Ca (Za rfl) ?_)))
 obtain ⟨ad0, hA0, hk0, hx0⟩ := hK.str_elem (i := j) by_Om
 refine Fa (v := .pointer (some (ad0.add (j * 1)))) (Ya (i := (j : Int)) Pj rfl hA0 rfl by_Om by_Om) (Fa (v := .string (bs (ks[j]))) (Vb isAgg9 rfl (hF.cell0 hk0)) ?_)
 refine Va hF (E8 ks[j] (by have := Ch (List.getElem_mem hjk); omega) _) (Ua JF rfl rfl) ?_
 clear hF; intro w hF
 refine Ca (Qg rfl) (Ca (M1 rfl rfl) (Ca (Re rfl rfl) (Ca (Ld rfl) (Ca (Kb rfl) (Yb (Ca (Pc rfl) (Ca (Pc rfl) ?_)))))))
 refine Fa (v := .string (bs ((s2) ++ (qS ks[j])))) (Tg rfl rfl (by (try simp only [List.length_append, List.length_cons, List.length_nil]); omega)) ?_
 refine Fa (v := .string (bs (((s2) ++ (qS ks[j])) ++ ([58])))) (Tg rfl rfl (by (try simp only [List.length_append, List.length_cons, List.length_nil]); omega)) ?_
 refine Ca (Ld rfl) (Yb (Ca (Za rfl) (Ca (Zv rfl rfl) (Da ?_))))
 refine Bc rfl rfl (fun hc10 => ?_) (fun hc10 => ?_)
 have hm : m = true := X3 (by assumption)
 refine Ga (Ca (Pc rfl) ?_)
 refine Fa (v := .string (bs ((((s2) ++ (qS ks[j])) ++ ([58])) ++ ([32])))) (Tg rfl rfl (by (try simp only [List.length_append, List.length_cons, List.length_nil]); omega)) ?_
 refine Ca (Ld rfl) (Cb ?_)
 · exact Gb ⟨((((s2) ++ (qS ks[j])) ++ ([58])) ++ ([32])), (by first | (rw [kG, if_pos hk6, By hjk, hm]; simp; done) | (rw [kG, if_neg hk6]; simp; done)), Xt, hF⟩
 have hm : m = false := Dz (by assumption)
 refine Ra ?_
 · exact Gb ⟨(((s2) ++ (qS ks[j])) ++ ([58])), (by first | (rw [kG, if_pos hk6, By hjk, hm]; simp; done) | (rw [kG, if_neg hk6]; simp; done)), Xt, hF⟩
 have hk6 : ¬ k = 6 := by omega
 refine Ra ?_
 · exact Gb ⟨(s2), (by first | (rw [kG, if_pos hk6, By hjk, hm]; simp; done) | (rw [kG, if_neg hk6]; simp; done)), Xt, hF⟩
 clear hF; rintro σ w ⟨s3, hs3, hs, hF⟩
 refine Eg.slots hs ?_
 clear hs; intro σ
 have hl3 : s3.length + (Ig m ind xs[j] (d + 1)).length = (tG m ind d k ks xs (j + 1)).length := by rw [hsj, hs3, hs2, hs1, hs]; simp only [List.length_append]; omega
 refine Ja (Ga (Ca (Pc rfl) (Ca (Fc Vc rfl) (Uc (Mf isAgg23 rfl hF.F 0 rfl rfl) (Ca (Za rfl) ?_)))))
 obtain ⟨ad1, cs1, hA1, hl1, hk1, hx1⟩ := hX.tree_elem (i := j) by_Om
 have ho1 := hx1.one_
 refine Fa (v := .pointer (some (ad1.add (j * 4)))) (Ya (i := (j : Int)) Sj rfl hA1 rfl by_Om by_Om) (Fa (v := .agg (List.toArray cs1)) (Rb (l := cs1) isAgg25 sizeOf25 rfl hl1 (hF.cells0 hk1)) (Ca (Za rfl) (Ca (Za rfl) (Ca (Di (((d + 1 : Nat) : Int)) rfl rfl) ?_))))
 refine Va hF (ih xs[j] (List.getElem_mem hjx) m ind (d + 1) _ _ cs1 (hF.rep hx1) (hn.2 _ (List.getElem_mem hjx)) (by have := Pg (List.getElem_mem hjx); omega) (by have h1 := Lg (List.getElem_mem hjx); exact Nat.le_trans (Nat.mul_le_mul_left ind by_Om) hd) (by have h1 := Lg (List.getElem_mem hjx); omega) by_Om) (Ff QM rfl rfl rfl rfl) ?_
 clear hF; intro w hF
 refine Fa (v := .string (bs ((s3) ++ (Ig m ind xs[j] (d + 1))))) (Tg rfl rfl (by (try simp only [List.length_append, List.length_cons, List.length_nil]); omega)) ?_
 refine Ca (Ld rfl) (Cb (Wb (Ja (Ga (Ca (Za rfl) (Ca (Di (((j + 1 : Nat) : Int)) rfl rfl) (Ca (Kb rfl) (Cb ?_))))))))
 refine Gb ⟨_, ?_, j + 1, (s3) ++ (Ig m ind xs[j] (d + 1)), rfl, (hjx), (by rw [hsj, hs3, hs2, hs1, hs]; simp), Xt, hF⟩
 omega
 obtain rfl : j = xs.length := by omega
 refine Oc (Nc rfl ?_)
 refine Ja (Ia ?_)
 refine Hf (fun σ w => ∃ (s4 : Str), (s4 = s ++ Zg m ind d) ∧ AllEq σ [(10, .string (bs ([c9]))), (11, .string (bs s4))] ∧ FR w0 [] [(b1, .cells #[.int .i64 k, .string (bs t), .slice A ks.length c, .slice B xs.length e] 25)] w) ?_ ?_
 refine Ha (Ca (Za rfl) (Ca (Zv rfl rfl) (Da ?_)))
 refine Bc rfl rfl (fun hc11 => ?_) (fun hc11 => ?_)
 have hm : m = true := X3 (by assumption)
 refine Ga (Ca (Pc rfl) ?_)
 refine Fa (v := .string (bs ((s) ++ ([10])))) (Tg rfl rfl (by (try simp only [List.length_append, List.length_cons, List.length_nil]); omega)) ?_
 refine Ca (Za rfl) (Ca (Za rfl) (Fa (v := .int .i64 (((ind * d : Nat) : Int))) (Im rfl rfl (JI hm hbL0)) ?_))
 refine Va hF (F7 (ind * d) by_Om _) (Ua TG rfl rfl) ?_
 clear hF; intro w hF
 refine Fa (v := .string (bs (((s) ++ ([10])) ++ (Lib.repeatL [32] (ind * d))))) (Tg rfl rfl (by rw [Nz]; (try simp only [List.length_append, List.length_cons, List.length_nil]); omega)) ?_
 refine Ca (Ld rfl) (Cb ?_)
 · exact Gb ⟨(((s) ++ ([10])) ++ (Lib.repeatL [32] (ind * d))), (by first | (rw [Zg, if_pos hm]; simp; done) | (rw [Zg, hm]; simp; done)), Nv, hF⟩
 have hm : m = false := Dz (by assumption)
 refine Ra ?_
 · exact Gb ⟨(s), (by first | (rw [Zg, if_pos hm]; simp; done) | (rw [Zg, hm]; simp; done)), Nv, hF⟩
 clear hF; rintro σ w ⟨s4, hs4, hs, hF⟩
 refine Eg.slots hs ?_
 clear hs; intro σ
 have hl4 : s4.length ≤ s.length + 1 + ind * d := by have := G7 m ind d; rw [hs4, List.length_append]; omega
 refine Ja (Ha (Ca (Pc rfl) (Ca (Pc rfl) ?_)))
 refine Fa (v := .string (bs ((s4) ++ ([c9])))) (Tg rfl rfl (by (try simp only [List.length_append, List.length_cons, List.length_nil]); omega)) ?_
 refine Ca (Ld rfl) (Da ?_)
 refine Ud (v := .string (bs ((s4) ++ ([c9])))) rfl rfl ?_
 exact ⟨by rw [V_ hk56, if_neg by_Om, hs4, hs, hc9]; simp, hF.same⟩
theorem MD (x : Tree) : E_ x := Tree.ind (Q := E_) (fun k t ks xs ih m ind d S w0 cs hR hn hm hd hd2 hl => by
  obtain ⟨A, c, B, e, rfl, hk, ht, hK, hX⟩ := hR.tree_inv
  rw [Ae] at hm
  rw [Wc] at hd hd2
  exact FA k t ks xs ih m ind d S w0 A c B e hR hK hX (Uf hn) by_Om by_Om by_Om hd hd2 hl) x
end Go.Scarf
namespace Go.Scarf
open Go.RowKit Go.Proofs Go.Proofs.Tryz
theorem SD {x : Tree} (h : Yc x = true) (hm : Ae x ≤ 16777216) (m : Bool) (ind d : Nat) (hi : ind ≤ 8) (hd : d ≤ 32) : (Ig m ind x d).length ≤ 4398046511104 := by
  have h1 := Eo h
  have h2 := N1 m ind (Ae x) 64 x d (Nat.le_refl _) by_Om
  have h3 : Ec x ≤ 4096 := F1 (Ol h)
  have h4 : ind * 64 ≤ 8 * 64 := Nat.mul_le_mul_right _ hi
  have h5 : Ec x * (12 * Ae x + 40 + 2 * (ind * 64)) ≤ 4096 * (12 * 16777216 + 40 + 2 * 512) := Nat.mul_le_mul h3 by_Om
  omega
theorem ZL (x : Tree) (m : Bool) (ind d : Nat) (S : Nat → Prop) (w0 : World) (cs : List Value) (hR : Rep S w0 (Gc x) cs) (h : Yc x = true) (hm : Ae x ≤ 16777216) (hi : ind ≤ 8) (hd : d ≤ 32) :
    Calls prog 86 #[.agg cs.toArray, .int .i64 (Kv m ind), .int .i64 (d : Nat)] w0 (Ce fun v w' => v = .string (bs (Ig m ind x d)) ∧ Same [] w0 w') := by
  have h1 := Eo h
  have h2 : Yd rnodeB x = true := by
    have h3 := h
    unfold Yc at h3
    rw [Bool.and_eq_true] at h3
    exact h3.2
  have h4 : ind * (d + Wc x) ≤ 8 * 64 := Nat.mul_le_mul hi by_Om
  exact MD x m ind d S w0 cs hR h2 hm by_Om by_Om (SD h hm m ind d hi hd)
theorem ZA (x : Tree) (hsz : Ec x ≤ 1000000000) (hm : Ae x ≤ 16777216) (S : Nat → Prop) (w0 : World) (cs : List Value) (hR : Rep S w0 (Gc x) cs) : Calls prog 66 #[.agg cs.toArray] w0 (Ce fun v w' => v = .tuple #[.string (bs (Fg x)), .int .i64 (T5 x)] ∧ Same [] w0 w') := by
 have hl : cs.length = 4 := hR.length.trans (Ac x)
 have ho := hR.one_
 refine Ma func66 rfl ntmps66 Qb (Rc _) ?_
 have hF := FR.start w0 []
 refine Ha ?_
 refine Vf (v := .agg (List.toArray cs)) (cs := (List.toArray cs)) hF rfl rfl ?_
 clear hF; rintro b1 w hb1 hF -
 refine Ca (Ld rfl) (Ca (Kb rfl) (Yb (Fa (v := .agg (List.toArray cs)) (Rb (l := cs) isAgg25 sizeOf25 rfl hl (hF.cellsAll 0 rfl)) ?_)))
 refine Va hF (Wy x hsz by_Om _ _ cs (hF.rep hR)) (Ua LG rfl rfl) ?_
 clear hF; intro w hF
 refine Ca (Cc rfl) (Da (Ia (Ha (Ca (Jc rfl) (Ca (Dm rfl) (Da ?_))))))
 refine Vh rfl rfl (fun hc0 => ?_) (fun hc0 => ?_)
 refine Ha (Ca (Ld rfl) (Ca (Kb rfl) (Da ?_)))
 refine Pb (Ob (Qa (Nd (v := .string (bs [])) (x := .int .i64 1) rfl rfl rfl) ?_))
 exact ⟨by rw [Fg, T5, if_neg (by simpa using hc0), if_neg (by simpa using hc0)], hF.same⟩
 refine Ra (Ja (Ha (Fa (v := .agg (List.toArray cs)) (Rb (l := cs) isAgg25 sizeOf25 rfl hl (hF.cellsAll 0 rfl)) ?_)))
 refine Va hF (ZL x false 0 0 _ _ cs (hF.rep hR) (by simpa using hc0) hm by_Om by_Om) (Ff QM rfl rfl rfl rfl) ?_
 clear hF; intro w hF
 refine Ca (Ld rfl) (Ca (Kb rfl) (Da ?_))
 refine Pb (Ob (Qa (Nd (v := .string (bs (Ig false 0 x 0))) (x := .int .i64 0) rfl rfl rfl) ?_))
 exact ⟨by rw [Fg, T5, if_pos (by simpa using hc0), if_pos (by simpa using hc0)], hF.same⟩
end Go.Scarf
