/- A part of the proof. -/
import Derived.Test.YtehigfneiofjnaaGreatDoorE1
import Derived.Test.YtehigfneiofjnaaGreatDoorP1
import Derived.Lib.ParseIntBCases
set_option linter.all false
set_option maxHeartbeats 8000000
set_option maxRecDepth 10000
namespace Go.Scarf
open Go.RowKit Go.Proofs Go.Proofs.Tryz
theorem Xq (s : Str) : Eh s 45 = Lib.hasPrefix s [45] := K8 s 45
theorem IF (s : Str) : Eh s 43 = Lib.hasPrefix s [43] := K8 s 43
theorem Rv (s : Str) (c : UInt8) : Lib.trimPrefix s [c] = if Lib.hasPrefix s [c] = true then s.drop 1 else s := rfl
theorem RK {W : Str} (h : Oh W = true) : decide (¬ bZ W 0 = 48) = decide (W.head? ≠ some 48) := by
  have hp := List.length_pos_iff.2 (Mg h)
  rw [← Nh hp]
  exact decide_eq_decide.2 (not_congr (Uh hp))
theorem F9 {s : Str} {neg : Bool} {whole rest : Str} {minus : Bool} {exp : Str} {ok : Bool} (h : Parts s neg whole rest minus exp ok) :
    ok = (Ub s).2 ∧ (ok = true → neg = (Ub s).1.neg ∧ whole = (Ub s).1.whole ∧ rest = (Ub s).1.rest ∧ minus = (Ub s).1.low ∧ Lib.trimLeftB exp 48 = Lib.trimLeftB (Ub s).1.exp 48 ∧ Oh exp = true ∧ Oh whole = true ∧ rest.all Le = true) := by
  obtain ⟨s1, W, Z, R1, f, g, rfl, rfl, hc, hd, rfl, rfl, rfl, rfl, rfl⟩ := h.h
  have e1 : (if Eh s 45 = true then s.drop 1 else s) = Lib.trimPrefix s [45] := by rw [Rv, Xq]
  rw [e1] at hc hd
  have h2 : (Ta [101, 69] (Lib.trimPrefix s [45])).2.1 = Z := by rw [hc]
  have h3 : (Ta [101, 69] (Lib.trimPrefix s [45])).2.2 = f := by rw [hc]
  have g1 : (Ta [46] (Ta [101, 69] (Lib.trimPrefix s [45])).1).1 = whole := by rw [hd]
  have g2 : (Ta [46] (Ta [101, 69] (Lib.trimPrefix s [45])).1).2.1 = R1 := by rw [hd]
  have g3 : (Ta [46] (Ta [101, 69] (Lib.trimPrefix s [45])).1).2.2 = g := by rw [hd]
  have hr : R1 = if g = true then R1 else [] := by
    cases g with
    | true => rfl
    | false => rw [← g2]; exact Fo [46] _ g3
  have he : ∀ (neg low : Bool) (e : Str), Oe neg low (Ta [101, 69] (Lib.trimPrefix s [45])).1 e = (⟨neg, low, whole, R1, e⟩, Oh whole && (!g || Oh R1) && (decide (whole = [48]) || decide (whole.head? ≠ some 48))) := by
    intro neg low e
    simp only [Oe, g1, g2, g3]
  have hk : ∀ e : Str, Oh e = true → Pv whole (if g = true then R1 else [48]) e = (Oh whole && (!g || Oh R1) && (decide (whole = [48]) || decide (whole.head? ≠ some 48))) := by
    intro e he
    unfold Pv
    rw [he, Bool.true_and]
    by_cases hw : Oh whole = true
    · rw [RK hw, hw, Bool.true_and, Bool.true_and]
      cases g with
      | true => rfl
      | false =>
        have : Oh [48] = true := by decide
        simp [this]
    · rw [Bool.not_eq_true] at hw
      rw [hw]; simp
  have hok : ∀ e : Str, Pv whole (if g = true then R1 else [48]) e = true → Oh e = true ∧ Oh whole = true ∧ (if g = true then R1 else []).all Le = true := by
    intro e h
    unfold Pv at h
    simp only [Bool.and_eq_true] at h
    refine ⟨h.2.2.1, h.1, ?_⟩
    cases g with
    | true => exact Jr h.2.1
    | false => rfl
  have ht : ∀ e : Str, Oh e = false → Pv whole (if g = true then R1 else [48]) e = false := by
    intro e h
    unfold Pv
    rw [h]; simp
  cases f with
  | true =>
    have hex : Lo true Z = (if Lib.hasPrefix Z [45] then Lib.trimPrefix Z [45] else Lib.trimPrefix (Lib.trimPrefix Z [45]) [43]) := by
      rw [Lo, if_pos rfl, Xq, IF, Rv Z 45]
      by_cases h1 : Lib.hasPrefix Z [45] = true
      · simp [h1]
      · simp only [h1, if_false, false_or]
        rw [Rv]
        simp
    have er : Ub s = if Oh (Lo true Z) = true then Oe (Lib.hasPrefix s [45]) (Lib.hasPrefix Z [45]) (Ta [101, 69] (Lib.trimPrefix s [45])).1 (Lo true Z) else (⟨Lib.hasPrefix s [45], Lib.hasPrefix Z [45], [], [], []⟩, false) := by
      unfold Ub
      simp only
      rw [if_pos h3, h2, hex]
    by_cases hx : Oh (Lo true Z) = true
    · rw [if_pos hx, he] at er
      rw [er]
      refine ⟨hk _ hx, fun h => ⟨Xq s, rfl, hr.symm, by rw [Bool.true_and, Xq], rfl, hok _ h⟩⟩
    · rw [if_neg hx] at er
      rw [Bool.not_eq_true] at hx
      rw [er]
      refine ⟨ht _ hx, fun h => ?_⟩
      rw [ht _ hx] at h; cases h
  | false =>
    have hz : Z = [] := by rw [← h2]; exact Fo [101, 69] _ h3
    have er : Ub s = Oe (Lib.hasPrefix s [45]) false (Ta [101, 69] (Lib.trimPrefix s [45])).1 Z := by
      unfold Ub
      simp only
      rw [if_neg (by rw [h3]; decide), h2]
    have hx : Oh (Lo false Z) = true := by rw [Lo, if_neg Oa]; decide
    rw [he] at er
    rw [er]
    refine ⟨hk _ hx, fun h => ⟨Xq s, rfl, hr.symm, rfl, ?_, hok _ h⟩⟩
    subst hz
    rw [Lo, if_neg Oa]
    rfl
theorem XD {s : Str} {neg : Bool} {whole rest : Str} {minus : Bool} {exp : Str} {ok : Bool} (h : Parts s neg whole rest minus exp ok) : whole.length ≤ s.length ∧ rest.length ≤ s.length ∧ exp.length ≤ s.length + 1 := by
  obtain ⟨s1, W, Z, R1, f, g, rfl, rfl, hc, hd, rfl, rfl, rfl, rfl, rfl⟩ := h.h
  have h1 : (if Eh s 45 = true then s.drop 1 else s).length ≤ s.length := by split <;> simp
  have h2 := Rf [101, 69] (if Eh s 45 = true then s.drop 1 else s)
  have h3 := Rf [46] (Ta [101, 69] (if Eh s 45 = true then s.drop 1 else s)).1
  rw [hd] at h3
  have h4 : Z.length ≤ s.length := by rw [hc] at h2; exact Nat.le_trans h2.2 h1
  refine ⟨Nat.le_trans h3.1 (Nat.le_trans h2.1 h1), ?_, ?_⟩
  · split
    · exact Nat.le_trans h3.2 (Nat.le_trans h2.1 h1)
    · exact Nat.zero_le _
  · unfold Lo
    split
    · split
      · simp; omega
      · omega
    · simp
theorem Bz (c : UInt8) (s : Str) : Lib.trimLeftB (c :: s) 48 = if c = 48 then Lib.trimLeftB s 48 else c :: s := by
  unfold Lib.trimLeftB
  rw [List.dropWhile_cons]
  by_cases h : c = 48 <;> simp [h]
theorem Ft {E : Str} (h : 0 < E.length) (h0 : bZ E 0 = 48) : Lib.trimLeftB (E.drop 1) 48 = Lib.trimLeftB E 48 := by
  rw [← Nh h] at h0
  cases E with
  | nil => simp at h
  | cons c s =>
    have : c = 48 := Yq.1 h0
    rw [Bz, if_pos this]; rfl
theorem It {E : Str} (h : 0 < E.length) (h0 : ¬ bZ E 0 = 48) : Lib.trimLeftB E 48 = E := by
  rw [← Nh h] at h0
  cases E with
  | nil => simp at h
  | cons c s =>
    have : ¬ c = 48 := fun e => h0 (Yq.2 e)
    rw [Bz, if_neg this]
theorem C7 {E : Str} (h : E.all Le = true) : (E.drop 1).all Le = true := by
  rw [List.all_eq_true] at h ⊢
  exact fun x hx => h x (List.mem_of_mem_drop hx)
theorem Bs {E : Str} (h : 0 < E.length) (h1 : E.length ≤ 1 ∨ ¬ bZ E 0 = 48) : Md E = Md (Lib.trimLeftB E 48) ∧ ((9 : Int) < (E.length : Int) ↔ 9 < (Lib.trimLeftB E 48).length) := by
  by_cases h0 : bZ E 0 = 48
  · have h2 : E.length = 1 := by rcases h1 with h1 | h1; omega; exact absurd h0 h1
    rw [← Ft h h0]
    match E, h2 with
    | [c], _ =>
      rw [← Nh (s := [c]) (p := 0) Sa] at h0
      have : c = 48 := Yq.1 h0
      subst this
      simp [Lib.trimLeftB, Md]
  · rw [It h h0]
    exact ⟨rfl, by omega⟩
theorem Z_ (l : Str) (a : UInt8) : Lib.trimRightB (l ++ [a]) 48 = if a = 48 then Lib.trimRightB l 48 else l ++ [a] := by
  unfold Lib.trimRightB
  rw [List.reverse_append]
  simp only [List.reverse_cons, List.reverse_nil, List.nil_append, List.cons_append, List.dropWhile_cons]
  by_cases h : a = 48 <;> simp [h]
theorem Lz {d : Str} {m : Nat} (h1 : 1 ≤ m) (h2 : m ≤ d.length) : Lib.trimRightB (d.take m) 48 = if bZ (d.take m) (m - 1) = 48 then Lib.trimRightB (d.take (m - 1)) 48 else d.take m := by
  have h3 : m - 1 < d.length := by omega
  have e : d.take m = d.take (m - 1) ++ [d[m - 1]] := by
    have := List.take_succ_eq_append_getElem h3
    rwa [show m - 1 + 1 = m by omega] at this
  have h4 : bZ (d.take m) (m - 1) = ((d[m - 1].toNat : Nat) : Int) := by
    rw [← Nh (by simp; omega)]
    simp
  rw [h4, e, Z_]
  by_cases h : d[m - 1] = 48
  · rw [if_pos h, if_pos (Yq.2 h)]
  · rw [if_neg h, if_neg (fun hh => h (Yq.1 hh))]
theorem Gy {d : Str} {m i : Nat} (h : i < m) (h2 : m ≤ d.length) : bZ (d.take m) i = bZ d i := by
  rw [← Nh (show i < (d.take m).length by simp; omega), ← Nh (show i < d.length by omega)]
  simp
theorem UF {s : Str} (h : (Ub s).1.low = true) : Wi s = - Md (Lib.trimLeftB (Ub s).1.exp 48) := by unfold Wi; rw [if_pos h]
theorem QD {s : Str} (h : (Ub s).1.low = false) : Wi s = Md (Lib.trimLeftB (Ub s).1.exp 48) := by unfold Wi; rw [if_neg (by rw [h]; decide)]
theorem Et {x : Num} (hd : x.digits.all Le = true) (hp : 0 < x.digits.length) (hl : x.digits.length ≤ 1000) (h0 : ¬ bZ x.digits 0 = 48) (h1 : ¬ bZ x.digits (x.digits.length - 1) = 48) : Sd x = (decide (-1000000 ≤ x.exp) && decide (x.exp ≤ 1000000)) := by
  have hz : ¬ x = Num.zero := by rintro rfl; simp [Num.zero] at hp
  rw [← Nh hp] at h0
  rw [← Nh (show x.digits.length - 1 < x.digits.length by omega)] at h1
  exact On hz (by unfold Oh; rw [hd, decide_eq_true (List.length_pos_iff.1 hp)]; rfl) by_Om hp h0 by_Om h1
theorem YF (s : Str) (hl : s.length ≤ 140737488355327) (w0 : World) : Calls prog 159 #[.string (bs s)] w0 (Ce fun v w' => v = .tuple #[Ml (He s).1, .int .i64 (He s).2] ∧ Same [] w0 w') := by
 refine Ma func159 rfl ntmps159 Qb (Rc _) ?_
 have hF := FR.start w0 []
 refine Ha ?_
 refine Af (cs := #[.bool false, .string (bs []), .int .i64 0]) hF zeroValue49 rfl ?_
 clear hF; rintro b1 w hb1 hF -
 refine Ca (Kb rfl) (Yb (Ca (Pc rfl) ?_))
 refine Zb (BL s by_Om _) (Ua JO rfl rfl) ?_
 rintro _ w ⟨neg, whole, rest, minus, exp, ok, rfl, hp, hE⟩
 obtain ⟨hok, hfs⟩ := F9 hp
 obtain ⟨hl1, hl2, hl3⟩ := XD hp
 replace hF := hF.ext hE
 clear hE
 refine Ca (Qg rfl) (Ca (Xs rfl rfl) (Ca (M1 rfl rfl) (Ca (M1 rfl rfl) (Ca (Xs rfl rfl) (Ca (M1 rfl rfl) (Ca (Xs rfl rfl) (Ca (Cc rfl) (Ca (Ld rfl) (Ca (Ld rfl) (Ca (Cc rfl) (Ca (Ld rfl) (Ca (Cc rfl) (Cb ?_)))))))))))))
 refine Ja (Ia (Ha (Ca (Jc rfl) (Ca (Dm rfl) (Da ?_)))))
 refine Vh rfl rfl (fun hc0 => ?_) (fun hc0 => ?_)
 refine Ha ?_
 refine Fa (w' := w) (v := .agg #[.bool false, .string (bs []), .int .i64 0]) Fb ?_
 refine Ij hF sizeOf49 rfl rfl Dl ?_
 clear hF; rintro w hF -
 refine Ca (Kb rfl) (Da ?_)
 refine Pb (Ob (Qa (Ie rfl (l := [.bool false, .string (bs []), .int .i64 0]) rfl isAgg49 sizeOf49 rfl (hF.cellsAll 0 rfl) (v := .int .i64 2) rfl) ?_))
 exact ⟨by rw [Ng, if_pos (by rw [← hok]; simp_all)]; rfl, hF.same⟩
 have hokt : ok = true := by simp_all
 replace hfs := hfs hokt
 have hwr : whole.length = (Ub s).1.whole.length ∧ rest.length = (Ub s).1.rest.length := ⟨by rw [hfs.2.1], by rw [hfs.2.2.1]⟩
 refine Ra (Ja (Ia (Ha (Ca (Pc rfl) (Ca (Hk underlying9 rfl) (Ca (Pc rfl) (Ca (Hk underlying9 rfl) (Ca (Di (((whole.length + rest.length : Nat) : Int)) rfl rfl) (Ca (Gn rfl rfl) (Da ?_))))))))))
 refine Bc rfl rfl (fun hc1 => ?_) (fun hc1 => ?_)
 refine Ha ?_
 refine Fa (w' := w) (v := .agg #[.bool false, .string (bs []), .int .i64 0]) Fb ?_
 refine Ij hF sizeOf49 rfl rfl Dl ?_
 clear hF; rintro w hF -
 refine Ca (Kb rfl) (Da ?_)
 refine Pb (Ob (Qa (Ie rfl (l := [.bool false, .string (bs []), .int .i64 0]) rfl isAgg49 sizeOf49 rfl (hF.cellsAll 0 rfl) (v := .int .i64 3) rfl) ?_))
 exact ⟨by rw [Ng, if_neg (by rw [← hok, hokt]; decide), if_pos by_Om]; rfl, hF.same⟩
 refine Ra (Ja (Ia ?_))
 refine Hf (fun σ w => ∃ (E : Str), (Md E = Md (Lib.trimLeftB (Ub s).1.exp 48)) ∧ ((9 : Int) < (E.length : Int) ↔ 9 < (Lib.trimLeftB (Ub s).1.exp 48).length) ∧ (E.all Le = true) ∧ (E.length ≤ s.length + 1) ∧ AllEq σ [(2, .pointer (some ⟨b1, 0, none⟩)), (4, .bool (neg)), (5, .string (bs whole)), (6, .string (bs rest)), (7, .bool (minus)), (8, .string (bs E))] ∧ FR w0 [] [(b1, .cells #[.bool false, .string (bs []), .int .i64 0] 49)] w) ?_ ?_
 refine Db ?_
 refine Xc (fun μ σ w => ∃ (E : Str), μ = E.length ∧ (Lib.trimLeftB E 48 = (Lib.trimLeftB (Ub s).1.exp 48)) ∧ (0 < E.length) ∧ (E.all Le = true) ∧ (E.length ≤ exp.length) ∧ AllEq σ [(2, .pointer (some ⟨b1, 0, none⟩)), (4, .bool (neg)), (5, .string (bs whole)), (6, .string (bs rest)), (7, .bool (minus)), (8, .string (bs E))] ∧ FR w0 [] [(b1, .cells #[.bool false, .string (bs []), .int .i64 0] 49)] w) _ ⟨exp, rfl, (hfs.2.2.2.2.1), (List.length_pos_iff.2 (Mg hfs.2.2.2.2.2.1)), (Jr hfs.2.2.2.2.2.1), (Nat.le_refl _), Xt, hF⟩ ?_
 clear hF; rintro μ σ w ⟨E, rfl, hEt, hE0, hE3, hE4, hs, hF⟩
 refine Cg.slots hs ?_
 clear hs; intro σ
 refine Ia (Ha (Ca (Pc rfl) (Ca (Hk underlying9 rfl) (Ca (Gn rfl rfl) (Ca (Jc rfl) ?_)))))
 refine Mb (d := 35) rfl (fun hg0 => ?_) (fun hg0 => ?_)
 refine Ca (Pc rfl) ?_
 refine Fa (v := .int .u8 (bZ (E) 0)) (by rw [← Nh (s := E) (p := 0) by_Om]; exact Fd 0 underlying9 rfl rfl by_Om) ?_
 refine Ca (Li rfl rfl) (Ca (Lc rfl rfl) (Da ?_))
 refine Bc rfl rfl (fun hc2 => ?_) (fun hc2 => ?_)
 refine Ra (Ja (Db (Ga (Ca (Pc rfl) (Fa (v := .string (bs ((E : Str).drop (1)))) (Gh (1) underlying9 rfl rfl by_Om) (Ca (Ld rfl) (Cb (Wb ?_))))))))
 refine Gb ⟨_, ?_, E.drop 1, rfl, (by rw [Ft by_Om by_Om]; exact hEt), (by simp; omega), (C7 hE3), (by simp; omega), Xt, hF⟩
 simp; omega
 refine Oc (Nc rfl ?_)
 exact Gb ⟨(E), (by rw [← hEt]; exact (Bs hE0 by_Om).1), (by rw [← hEt]; exact (Bs hE0 by_Om).2), (hE3), by_Om, Xt, hF⟩
 refine Ea (Ea (Ea (Ca (Dc rfl rfl) (Da (Xe rfl ?_)))))
 refine Oc (Nc rfl ?_)
 exact Gb ⟨(E), (by rw [← hEt]; exact (Bs hE0 by_Om).1), (by rw [← hEt]; exact (Bs hE0 by_Om).2), (hE3), by_Om, Xt, hF⟩
 clear hF; rintro σ w ⟨E, hE1, hE2, hE3, hE4, hs, hF⟩
 refine Eg.slots hs ?_
 clear hs; intro σ
 refine Ja (Ia (Ha (Ca (Pc rfl) (Ca (Hk underlying9 rfl) (Ca (Gn rfl rfl) (Da ?_))))))
 refine Bc rfl rfl (fun hc3 => ?_) (fun hc3 => ?_)
 refine Ha ?_
 refine Fa (w' := w) (v := .agg #[.bool false, .string (bs []), .int .i64 0]) Fb ?_
 refine Ij hF sizeOf49 rfl rfl Dl ?_
 clear hF; rintro w hF -
 refine Ca (Kb rfl) (Da ?_)
 refine Pb (Ob (Qa (Ie rfl (l := [.bool false, .string (bs []), .int .i64 0]) rfl isAgg49 sizeOf49 rfl (hF.cellsAll 0 rfl) (v := .int .i64 4) rfl) ?_))
 exact ⟨by rw [Ng, if_neg (by rw [← hok, hokt]; decide), if_neg by_Om, if_pos by_Om]; rfl, hF.same⟩
 refine Ra (Ja (Ha (Ca (Kb rfl) (Da (Ia (Ha (Ca (Kb rfl) (Da (Db ?_)))))))))
 refine Xc (fun μ σ w => ∃ (q : Nat), μ = E.length - q ∧ (q ≤ E.length) ∧ AllEq σ [(2, .pointer (some ⟨b1, 0, none⟩)), (4, .bool (neg)), (5, .string (bs whole)), (6, .string (bs rest)), (7, .bool (minus)), (8, .string (bs E)), (10, .int .i64 (Md (E.take q))), (11, .int .i64 ((q : Int)))] ∧ FR w0 [] [(b1, .cells #[.bool false, .string (bs []), .int .i64 0] 49)] w) _ ⟨0, rfl, (Nat.zero_le _), NN, hF⟩ ?_
 clear hF; rintro μ σ w ⟨q, rfl, hq, hs, hF⟩
 refine Cg.slots hs ?_
 clear hs; intro σ
 refine Ia (Ha (Ca (Za rfl) (Ca (Pc rfl) (Ca (Hk underlying9 rfl) (Ca (Fj rfl rfl) (Da ?_))))))
 refine Bc rfl rfl (fun hc4 => ?_) (fun hc4 => ?_)
 have hdq := List.all_eq_true.1 hE3 E[q] (List.getElem_mem by_Om)
 unfold Le at hdq
 simp only [Bool.and_eq_true, decide_eq_true_eq] at hdq
 have hbq := UInt8.toNat_lt E[q]
 have hb := Tr (E.take q) (Ep q hE3) (by rw [List.length_take]; omega)
 refine Ra (Ja (Ia (Db (Ga (Ca (Za rfl) (Fa (v := .int .i64 (10 * Md (E.take q))) (Im rfl rfl (Lh by_Om by_Om)) (Ca (Pc rfl) (Ca (Za rfl) (Fa (v := .int .u8 ((((E : Str)[q]'by_Om).toNat : Int))) (Fd (q) underlying9 rfl rfl by_Om) ?_)))))))))
 refine Fa (v := .int .u8 (((E[q].toNat : Nat) : Int) - 48)) (Wu rfl rfl (by rw [IntKind.wrap_u8]; omega)) ?_
 refine Fa (v := .int .i64 (((E[q].toNat : Nat) : Int) - 48)) (Td underlying5 underlying3 rfl (Lh by_Om by_Om)) ?_
 refine Fa (v := .int .i64 (Md (E.take (q + 1)))) (Tq rfl rfl (by rw [Bm _ q by_Om]; exact Lh by_Om by_Om)) ?_
 refine Ca (Kb rfl) (Cb (Wb (Ja (Ga (Ca (Za rfl) (Ca (Di (((q + 1 : Nat) : Int)) rfl rfl) (Ca (Kb rfl) (Cb ?_))))))))
 refine Gb ⟨_, ?_, q + 1, rfl, by_Om, NN, hF⟩
 omega
 refine Oc (Nc rfl ?_)
 refine Ja ?_
 have eT : E.take q = E := List.take_of_length_le by_Om
 have hb := Tr E hE3 by_Om
 have hE : -1000000000 < Wi s ∧ Wi s < 1000000000 := by unfold Wi; rw [← hE1]; split <;> omega
 refine Ia ?_
 refine Hf (fun σ w => AllEq σ [(2, .pointer (some ⟨b1, 0, none⟩)), (4, .bool (neg)), (5, .string (bs whole)), (6, .string (bs rest)), (10, .int .i64 (Wi s))] ∧ FR w0 [] [(b1, .cells #[.bool false, .string (bs []), .int .i64 0] 49)] w) ?_ ?_
 refine Ha (Ca (Jc rfl) (Da ?_))
 refine Vh rfl rfl (fun hc5 => ?_) (fun hc5 => ?_)
 have eE : - Md E = Wi s := by rw [hE1, UF (by rw [← hfs.2.2.2.1]; assumption)]
 rw [eT]
 refine Ga (Ca (Za rfl) ?_)
 refine Fa (v := .int .i64 (Wi s)) (Nx rfl (Me (by rw [← eE]; omega) by_Om by_Om)) ?_
 refine Ca (Kb rfl) (Cb ?_)
 exact Gb ⟨Fp, hF⟩
 have eE : Md E = Wi s := by rw [hE1, QD (by rw [← hfs.2.2.2.1]; assumption)]
 rw [eT, eE]
 refine Ra ?_
 exact Gb ⟨Fp, hF⟩
 clear hF; rintro σ w ⟨hs, hF⟩
 refine Eg.slots hs ?_
 clear hs; intro σ
 refine Ja (Ha (Ca (Za rfl) (Ca (Pc rfl) (Ca (Hk underlying9 rfl) (Ca (Jn rfl rfl) (Ca (Kb rfl) (Yb (Ca (Pc rfl) (Ca (Pc rfl) ?_)))))))))
 refine Fa (v := .string (bs ((whole) ++ (rest)))) (Tg rfl rfl by_Om) (Ca (Ld rfl) (Da (Ia ?_)))
 refine Hf (fun σ w => ∃ (d : Str), (d = (Lib.trimLeftB ((Ub s).1.whole ++ (Ub s).1.rest) 48)) ∧ (0 < d.length → ¬ bZ d 0 = 48) ∧ (d.all Le = true) ∧ (d.length ≤ whole.length + rest.length) ∧ AllEq σ [(2, .pointer (some ⟨b1, 0, none⟩)), (4, .bool (neg)), (10, .int .i64 (Wi s - (rest.length : Nat))), (12, .string (bs d))] ∧ FR w0 [] [(b1, .cells #[.bool false, .string (bs []), .int .i64 0] 49)] w) ?_ ?_
 refine Db ?_
 refine Xc (fun μ σ w => ∃ (D : Str), μ = D.length ∧ (Lib.trimLeftB D 48 = Lib.trimLeftB (whole ++ rest) 48) ∧ (D.all Le = true) ∧ (D.length ≤ whole.length + rest.length) ∧ AllEq σ [(2, .pointer (some ⟨b1, 0, none⟩)), (4, .bool (neg)), (10, .int .i64 (Wi s - (rest.length : Nat))), (12, .string (bs D))] ∧ FR w0 [] [(b1, .cells #[.bool false, .string (bs []), .int .i64 0] 49)] w) _ ⟨(whole ++ rest), rfl, (rfl), (by rw [List.all_append, Jr hfs.2.2.2.2.2.2.1, hfs.2.2.2.2.2.2.2]; rfl), Sa, An, hF⟩ ?_
 clear hF; rintro μ σ w ⟨D, rfl, hDt, hDa, hDl, hs, hF⟩
 refine Cg.slots hs ?_
 clear hs; intro σ
 refine Ia (Ha (Ca (Pc rfl) (Ca (Hk underlying9 rfl) (Ca (Gn rfl rfl) (Ca (Jc rfl) ?_)))))
 refine Mb (d := 73) rfl (fun hg1 => ?_) (fun hg1 => ?_)
 refine Ca (Pc rfl) ?_
 refine Fa (v := .int .u8 (bZ (D) 0)) (by rw [← Nh (s := D) (p := 0) by_Om]; exact Fd 0 underlying9 rfl rfl by_Om) ?_
 refine Ca (Li rfl rfl) (Ca (Lc rfl rfl) (Da ?_))
 refine Bc rfl rfl (fun hc6 => ?_) (fun hc6 => ?_)
 refine Ra (Ja (Db (Ga (Ca (Pc rfl) (Fa (v := .string (bs ((D : Str).drop (1)))) (Gh (1) underlying9 rfl rfl by_Om) (Ca (Ld rfl) (Cb (Wb ?_))))))))
 refine Gb ⟨_, ?_, D.drop 1, rfl, (by rw [Ft by_Om by_Om]; exact hDt), (C7 hDa), (by simp; omega), An, hF⟩
 simp; omega
 refine Oc (Nc rfl ?_)
 exact Gb ⟨(D), (by rw [← hfs.2.1, ← hfs.2.2.1, ← hDt]; first | exact (It by_Om by_Om).symm | (have h0 : D = [] := List.eq_nil_of_length_eq_zero by_Om; rw [h0]; rfl)), (fun h => by omega), (hDa), (hDl), An, hF⟩
 refine Ea (Ea (Ea (Ca (Dc rfl rfl) (Da (Xe rfl ?_)))))
 refine Oc (Nc rfl ?_)
 exact Gb ⟨(D), (by rw [← hfs.2.1, ← hfs.2.2.1, ← hDt]; first | exact (It by_Om by_Om).symm | (have h0 : D = [] := List.eq_nil_of_length_eq_zero by_Om; rw [h0]; rfl)), (fun h => by omega), (hDa), (hDl), An, hF⟩
 clear hF; rintro σ w ⟨d, hd, hd0, hda, hdl, hs, hF⟩
 refine Eg.slots hs ?_
 clear hs; intro σ
 refine Ja (Ia (Ha (Ca (Pc rfl) (Ca (Mv rfl rfl) (Da ?_)))))
 refine Bc rfl rfl (fun hc7 => ?_) (fun hc7 => ?_)
 refine Ha ?_
 refine Fa (w' := w) (v := .agg #[.bool false, .string (bs []), .int .i64 0]) Fb ?_
 refine Ij hF sizeOf49 rfl rfl Dl ?_
 clear hF; rintro w hF -
 refine Ca (Kb rfl) (Da ?_)
 refine Pb (Ob (Qa (Ie rfl (l := [.bool false, .string (bs []), .int .i64 0]) rfl isAgg49 sizeOf49 rfl (hF.cellsAll 0 rfl) (v := .int .i64 0) rfl) ?_))
 exact ⟨by rw [Ng, if_neg (by rw [← hok, hokt]; decide), if_neg by_Om, if_neg by_Om, if_pos (by rw [← hd]; assumption)]; rfl, hF.same⟩
 refine Ra (Ja (Ia ?_))
 refine Hf (fun σ w => ∃ (m : Nat), ∃ (sh : Str), ∃ (ee : Int), (ee = Wi s - (rest.length : Nat) + (d.length - m : Nat)) ∧ (sh = (d : Str).take m) ∧ (1 ≤ m) ∧ (m ≤ d.length) ∧ (Lib.trimRightB d 48 = d.take m) ∧ (¬ bZ ((d : Str).take m) (m - 1) = 48) ∧ AllEq σ [(2, .pointer (some ⟨b1, 0, none⟩)), (4, .bool (neg)), (10, .int .i64 ee), (12, .string (bs sh))] ∧ FR w0 [] [(b1, .cells #[.bool false, .string (bs []), .int .i64 0] 49)] w) ?_ ?_
 refine Db ?_
 have hdp : 0 < d.length := List.length_pos_iff.2 (by assumption)
 refine Xc (fun μ σ w => ∃ (m : Nat), ∃ (D2 : Str), ∃ (ee : Int), μ = m + 1 ∧ (ee = Wi s - (rest.length : Nat) + (d.length - m : Nat)) ∧ (D2 = (d : Str).take m) ∧ (1 ≤ m) ∧ (m ≤ d.length) ∧ (Lib.trimRightB d 48 = Lib.trimRightB (d.take m) 48) ∧ AllEq σ [(2, .pointer (some ⟨b1, 0, none⟩)), (4, .bool (neg)), (10, .int .i64 ee), (12, .string (bs D2))] ∧ FR w0 [] [(b1, .cells #[.bool false, .string (bs []), .int .i64 0] 49)] w) _ ⟨d.length, d, Wi s - (rest.length : Nat), rfl, by_Om, (by rw [List.take_length]), (hdp), (Nat.le_refl _), (by rw [List.take_length]), An, hF⟩ ?_
 clear hF; rintro μ σ w ⟨m, D2, ee, rfl, hee, hD2, hm1, hm2, hmt, hs, hF⟩
 refine Cg.slots hs ?_
 clear hs; intro σ
 have hml : D2.length = m := by rw [hD2, List.length_take]; omega
 refine Ia (Ha (Ca (Pc rfl) (Ca (Pc rfl) (Ca (Hk underlying9 rfl) (Ca (Jy (((m - 1 : Nat) : Int)) rfl rfl) ?_)))))
 refine Fa (v := .int .u8 (bZ (D2) (m - 1))) (by rw [← Nh (s := D2) (p := (m - 1)) by_Om]; exact Fd (m - 1) underlying9 rfl rfl by_Om) ?_
 refine Ca (Li rfl rfl) (Da ?_)
 refine Bc rfl rfl (fun hc8 => ?_) (fun hc8 => ?_)
 refine Ra (Ja (Db (Ha (Ca (Pc rfl) (Ca (Pc rfl) (Ca (Hk underlying9 rfl) (Ca (Jy (((m - 1 : Nat) : Int)) rfl rfl) (Fa (v := .string (bs ((D2 : Str).take (m - 1)))) (Vo (m - 1) underlying9 rfl rfl by_Om) (Ca (Ld rfl) (Da (Ga ?_)))))))))))
 refine Ca (Za rfl) (Ca (Di (ee + 1) rfl rfl) (Ca (Kb rfl) (Cb (Wb ?_))))
 refine Gb ⟨_, ?_, m - 1, D2.take (m - 1), ee + 1, rfl, by_Om, (by rw [hD2, List.take_take, Nat.min_eq_left by_Om]), (by have h := hd0 hdp; rw [← Gy (m := m) by_Om hm2, ← hD2] at h; rcases Nat.lt_or_ge 1 m with h1 | h1; omega; exfalso; have h2 : m - 1 = 0 := by_Om; have h3 : bZ D2 (m - 1) = 48 := (by assumption); rw [h2] at h3; exact absurd h3 h), by_Om, (by rw [hmt, Lz hm1 hm2, if_pos (by rw [← hD2]; assumption)]), An, hF⟩
 omega
 refine Oc (Nc rfl ?_)
 exact Gb ⟨(m), (D2), (ee), (hee), (hD2), (hm1), (hm2), (by rw [hmt, Lz hm1 hm2, if_neg (by rw [← hD2]; assumption)]), (by rw [← hD2]; assumption), An, hF⟩
 clear hF; rintro σ w ⟨m, sh, ee, hee, hsh, hm1, hm2, hmt, hlast, hs, hF⟩
 refine Eg.slots hs ?_
 clear hs; intro σ
 refine Ja (Ia (Ha (Ca (Za rfl) (Ca (Fj rfl rfl) (Ca (Jc rfl) ?_)))))
 refine Mb (d := 98) rfl (fun hg2 => ?_) (fun hg2 => ?_)
 refine Ea (Ea (Ca (Lc rfl rfl) (Da (Qd rfl (Ha ?_)))))
 refine Fa (w' := w) (v := .agg #[.bool false, .string (bs []), .int .i64 0]) Fb ?_
 refine Ij hF sizeOf49 rfl rfl Dl ?_
 clear hF; rintro w hF -
 refine Ca (Kb rfl) (Da ?_)
 refine Pb (Ob (Qa (Ie rfl (l := [.bool false, .string (bs []), .int .i64 0]) rfl isAgg49 sizeOf49 rfl (hF.cellsAll 0 rfl) (v := .int .i64 4) rfl) ?_))
 subst hsh
 subst hee
 have hne : ¬ d = [] := List.length_pos_iff.1 by_Om
 have hrf := Et (x := ⟨(Ub s).1.neg, d.take m, Wi s - (rest.length : Nat) + (d.length - m : Nat)⟩) (Ep m hda) (by simp; omega) (by simp; omega) (by rw [Gy by_Om hm2]; exact hd0 by_Om) (by show ¬ bZ (d.take m) ((d.take m).length - 1) = 48; rw [List.length_take, Nat.min_eq_left hm2]; exact hlast)
 have hfe : Wi s - (rest.length : Nat) + (d.length - m : Nat) = Wi s - (Ub s).1.rest.length + d.length - (d.take m).length := by rw [List.length_take, Nat.min_eq_left hm2, ← hwr.2]; omega
 refine ⟨?_, hF.same⟩
 rw [Ng, if_neg (by rw [← hok, hokt]; decide), if_neg by_Om, if_neg by_Om, ← hd, if_neg hne, hmt, ← hfe, hrf]
 first | (rw [if_pos (by simp; omega)]; rfl) | (rw [if_neg (by simp; omega), hfs.1]; rfl)
 refine Ca (Za rfl) (Ca (Gn rfl rfl) (Ca (Dc rfl rfl) (Da ?_)))
 refine Bc rfl rfl (fun hc9 => ?_) (fun hc9 => ?_)
 refine Ha ?_
 refine Fa (w' := w) (v := .agg #[.bool false, .string (bs []), .int .i64 0]) Fb ?_
 refine Ij hF sizeOf49 rfl rfl Dl ?_
 clear hF; rintro w hF -
 refine Ca (Kb rfl) (Da ?_)
 refine Pb (Ob (Qa (Ie rfl (l := [.bool false, .string (bs []), .int .i64 0]) rfl isAgg49 sizeOf49 rfl (hF.cellsAll 0 rfl) (v := .int .i64 4) rfl) ?_))
 subst hsh
 subst hee
 have hne : ¬ d = [] := List.length_pos_iff.1 by_Om
 have hrf := Et (x := ⟨(Ub s).1.neg, d.take m, Wi s - (rest.length : Nat) + (d.length - m : Nat)⟩) (Ep m hda) (by simp; omega) (by simp; omega) (by rw [Gy by_Om hm2]; exact hd0 by_Om) (by show ¬ bZ (d.take m) ((d.take m).length - 1) = 48; rw [List.length_take, Nat.min_eq_left hm2]; exact hlast)
 have hfe : Wi s - (rest.length : Nat) + (d.length - m : Nat) = Wi s - (Ub s).1.rest.length + d.length - (d.take m).length := by rw [List.length_take, Nat.min_eq_left hm2, ← hwr.2]; omega
 refine ⟨?_, hF.same⟩
 rw [Ng, if_neg (by rw [← hok, hokt]; decide), if_neg by_Om, if_neg by_Om, ← hd, if_neg hne, hmt, ← hfe, hrf]
 first | (rw [if_pos (by simp; omega)]; rfl) | (rw [if_neg (by simp; omega), hfs.1]; rfl)
 refine Ra (Ja (Ha (Ca (Jc rfl) (Ca (Pc rfl) (Ca (Za rfl) ?_)))))
 refine Fa (w' := w) (v := .agg #[.bool (neg), .string (bs sh), .int .i64 ee]) Fb ?_
 refine Ij hF sizeOf49 rfl rfl Dl ?_
 clear hF; rintro w hF -
 refine Ca (Kb rfl) (Da ?_)
 refine Pb (Ob (Qa (Ie rfl (l := [.bool (neg), .string (bs sh), .int .i64 ee]) rfl isAgg49 sizeOf49 rfl (hF.cellsAll 0 rfl) (v := .int .i64 0) rfl) ?_))
 subst hsh
 subst hee
 have hne : ¬ d = [] := List.length_pos_iff.1 by_Om
 have hrf := Et (x := ⟨(Ub s).1.neg, d.take m, Wi s - (rest.length : Nat) + (d.length - m : Nat)⟩) (Ep m hda) (by simp; omega) (by simp; omega) (by rw [Gy by_Om hm2]; exact hd0 by_Om) (by show ¬ bZ (d.take m) ((d.take m).length - 1) = 48; rw [List.length_take, Nat.min_eq_left hm2]; exact hlast)
 have hfe : Wi s - (rest.length : Nat) + (d.length - m : Nat) = Wi s - (Ub s).1.rest.length + d.length - (d.take m).length := by rw [List.length_take, Nat.min_eq_left hm2, ← hwr.2]; omega
 refine ⟨?_, hF.same⟩
 rw [Ng, if_neg (by rw [← hok, hokt]; decide), if_neg by_Om, if_neg by_Om, ← hd, if_neg hne, hmt, ← hfe, hrf]
 first | (rw [if_pos (by simp; omega)]; rfl) | (rw [if_neg (by simp; omega), hfs.1]; rfl)
theorem Qy (s : Str) (hl : s.length ≤ 140737488355327) (w0 : World) : Calls prog 112 #[.string (bs s)] w0 (Ce fun v w' => v = .tuple #[Ml (He s).1, .bool (Ki s)] ∧ Same [] w0 w') := by
 refine Ma func112 rfl ntmps112 Qb (Rc _) ?_
 have hF := FR.start w0 []
 refine Ha ?_
 refine Af (cs := #[.bool false, .string (bs []), .int .i64 0]) hF zeroValue49 rfl ?_
 clear hF; rintro b1 w hb1 hF -
 refine Ca (Cc rfl) (Yb (Ca (Pc rfl) ?_))
 refine Va hF (YF s hl _) (Ua EP rfl rfl) ?_
 clear hF; intro w hF
 refine Ca (Qg rfl) (Ca (Yw rfl rfl) (Ca (Re rfl rfl) ?_))
 refine Hh hF zeroValue49 sizeOf49 rfl ?_
 clear hF; rintro b2 w hb2 hF -
 refine Ca (Kb rfl) (Da (Ia ?_))
 refine De [] (.free 0 (.free 1 (.free 2 (.free 3 (.free 4 (.free 6 (.act 5 (.free 7 (.free 8 (.act 9 (.free 10 .nil))))))))))) hF ?_
 clear hF; rintro w hF -
 refine ⟨fun wq => FR w0 [] [(b2, .cells #[.bool ((He s).1.neg), .string (bs ((He s).1.digits)), .int .i64 ((He s).1.exp)] 49)] wq, hF.sub (.cons_cons _ (.cons _ .slnil)), ?_⟩
 refine Bk rfl (Bi isAgg49 sizeOf49 rfl C0 0 rfl rfl) (Eb rfl (Za rfl) (Eb rfl (Li rfl rfl) (Eb rfl (Jc rfl) ?_)))
 refine Jk (d := 14) rfl (fun hg0 => ?_) (fun hg0 => ?_)
 refine Bk rfl (Bi isAgg49 sizeOf49 rfl C0 0 rfl rfl) (Eb rfl (Pc rfl) ?_)
 refine Wa hF (BM (He s).1 (by have := En s; omega) _) rfl (Ua IQ rfl rfl) ?_
 clear hF; intro w hF
 refine ⟨hF.sub (.cons_cons _ (.cons _ .slnil)), ?_⟩
 refine Eb rfl (Mv rfl rfl) (Eb rfl (Lc rfl rfl) ?_)
 refine Hs rfl hF sizeOf49 rfl rfl Y1 ?_
 clear hF; rintro w hF -
 refine ⟨hF.sub (.cons_cons _ (.cons _ .slnil)), ?_⟩
 refine Eb rfl (Cc rfl) (Ic (Ja ?_))
 refine Pb (Ob (Qa (Ie rfl (l := [.bool ((He s).1.neg), .string (bs ((He s).1.digits)), .int .i64 ((He s).1.exp)]) rfl isAgg49 sizeOf49 rfl (hF.cellsAll 1 rfl) (v := .bool (decide ((Uk (He s).1 : Str) = s))) rfl) ?_))
 exact ⟨by simp_all [Ki, Ml], hF.same⟩
 refine Kg rfl ?_
 refine Kg rfl ?_
 refine AG rfl ?_ (hF.sub (.cons_cons _ (.cons _ .slnil)))
 refine Kg rfl ?_
 refine Eb rfl (Dc rfl rfl) ?_
 refine Hs rfl hF sizeOf49 rfl rfl Y1 ?_
 clear hF; rintro w hF -
 refine ⟨hF.sub (.cons_cons _ (.cons _ .slnil)), ?_⟩
 refine Eb rfl (Cc rfl) (Ic (Ja ?_))
 refine Pb (Ob (Qa (Ie rfl (l := [.bool ((He s).1.neg), .string (bs ((He s).1.digits)), .int .i64 ((He s).1.exp)]) rfl isAgg49 sizeOf49 rfl (hF.cellsAll 1 rfl) (v := .bool false) rfl) ?_))
 exact ⟨by simp_all [Ki, Ml], hF.same⟩
end Go.Scarf
namespace Go.Scarf
open Go.RowKit Go.Proofs Go.Proofs.Tryz
def YJ (s : Str) (i : Nat) : Int := if i < s.length then bZ s i else 48
theorem RJ {s : Str} (h : s.all Le = true) (i : Nat) : 48 ≤ YJ s i ∧ YJ s i ≤ 57 := by
  unfold YJ
  split
  · rename_i hi
    have := List.all_eq_true.1 h s[i] (List.getElem_mem hi)
    unfold Le at this
    simp only [Bool.and_eq_true, decide_eq_true_eq] at this
    rw [← Nh hi]
    omega
  · omega
theorem all_cons {c : UInt8} {s : Str} (h : (c :: s).all Le = true) : Le c = true ∧ s.all Le = true := by simpa using h
theorem N6 {x : Num} (h : Sd x = true) (hd : x.digits ≠ []) : x.digits.all Le = true ∧ ¬ bZ x.digits (x.digits.length - 1) = 48 := by
  have h0 : ¬ x = Num.zero := by rintro rfl; exact hd rfl
  unfold Sd at h
  simp only [Bool.or_eq_true, Bool.and_eq_true, decide_eq_true_eq] at h
  rcases h with h | h
  · exact absurd h h0
  · refine ⟨Jr h.1.1.1.1.1, ?_⟩
    have hl : x.digits.length - 1 < x.digits.length := by have := List.length_pos_iff.2 hd; omega
    intro e
    rw [← Nh hl] at e
    exact h.1.1.2 (by rw [getLast?_get hl, Yq.1 e])
end Go.Scarf
namespace Go.Scarf
open Go.RowKit Go.Proofs Go.Proofs.Tryz
def vN (acc : Nat) (l : Str) : Nat := l.foldl (fun a c => a * 10 + (c.toNat - 48)) acc
theorem Y3 (acc : Nat) (c : UInt8) (l : Str) : vN acc (c :: l) = vN (acc * 10 + (c.toNat - 48)) l := by unfold vN; rw [List.foldl_cons]
theorem JS (l : Str) : ∀ acc : Nat, acc ≤ vN acc l := by
  induction l with
  | nil => exact fun acc => Nat.le_refl _
  | cons c l ih =>
    intro acc
    rw [Y3]
    have := ih (acc * 10 + (c.toNat - 48))
    omega
theorem As {c : UInt8} (h : Le c = true) : 48 ≤ c.toNat ∧ c.toNat ≤ 57 := by
  unfold Le at h
  simpa using h
theorem SF : ∀ (l : Str) (acc : Nat), l.all Le = true → ((vN acc l : Nat) : Int) = l.foldl (fun a c => 10 * a + ((c.toNat : Int) - 48)) (acc : Int)
  | [], _, _ => rfl
  | c :: l, acc, h => by
    obtain ⟨hc, hl⟩ := all_cons h
    have := As hc
    rw [Y3, SF l _ hl, List.foldl_cons]
    congr 1
    omega
theorem UC {l : Str} (h : l.all Le = true) : ((vN 0 l : Nat) : Int) = Md l := SF l 0 h
theorem FN : ∀ (l : Str) (acc : Nat), l.all Le = true → acc ≤ 18446744073709551615 → Lib.parseUintM 18446744073709551615 acc l = if vN acc l ≤ 18446744073709551615 then .ok (vN acc l) else .range
  | [], acc, _, h => by rw [show vN acc [] = acc from rfl, if_pos h]; rfl
  | c :: l, acc, h, ha => by
    obtain ⟨hc, hl⟩ := all_cons h
    have r := As hc
    rw [Lib.parseUintM, if_pos r, Y3]
    have hg := JS l (acc * 10 + (c.toNat - 48))
    by_cases h1 : 1844674407370955162 ≤ acc
    · rw [if_pos h1, if_neg by_Om]
    · rw [if_neg h1]
      by_cases h2 : 18446744073709551615 < acc * 10 + (c.toNat - 48)
      · rw [if_pos h2, if_neg by_Om]
      · rw [if_neg h2]; exact FN l _ hl by_Om
theorem GF {l : Str} (h : l.all Le = true) (hne : l ≠ []) : Lib.parseUintB 64 l = if vN 0 l ≤ 18446744073709551615 then .ok (vN 0 l) else .range := by
  rw [Lib.parseUintB, if_neg hne]
  exact FN l 0 h by_Om
theorem DH {l : Str} (h : l.all Le = true) (hne : l ≠ []) : (pI l).2 = decide (Md l ≤ 9223372036854775807) ∧ (Md l ≤ 9223372036854775807 → (pI l).1 = Md l) := by
  have hu := GF h hne
  rw [← UC h]
  match l, hne with
  | c :: r, _ =>
    have hc := As (all_cons h).1
    have hp := Lib.parseIntB_plain 64 c r by_Om by_Om
    rw [hu] at hp
    generalize vN 0 (c :: r) = n at *
    unfold pI
    rw [hp]
    by_cases h1 : n ≤ 18446744073709551615
    · rw [if_pos h1, Lib.signlessC]
      by_cases h2 : 9223372036854775808 ≤ n
      · rw [if_pos h2]; exact ⟨(decide_eq_false by_Om).symm, fun h => absurd h by_Om⟩
      · rw [if_neg h2]; exact ⟨(decide_eq_true by_Om).symm, fun _ => rfl⟩
    · rw [if_neg h1]; exact ⟨(decide_eq_false by_Om).symm, fun h => absurd h by_Om⟩
theorem DI {l : Str} (h : l.all Le = true) (hne : l ≠ []) : (pI (45 :: l)).2 = decide (Md l ≤ 9223372036854775808) ∧ (Md l ≤ 9223372036854775808 → (pI (45 :: l)).1 = - Md l) := by
  have hu := GF h hne
  rw [← UC h]
  have hp := Lib.parseIntB_minus 64 l
  rw [hu] at hp
  generalize vN 0 l = n at *
  unfold pI
  rw [hp]
  by_cases h1 : n ≤ 18446744073709551615
  · rw [if_pos h1, Lib.signedC]
    by_cases h2 : 9223372036854775808 < n
    · rw [if_pos h2]; exact ⟨(decide_eq_false by_Om).symm, fun h => absurd h by_Om⟩
    · rw [if_neg h2]; exact ⟨(decide_eq_true by_Om).symm, fun _ => rfl⟩
  · rw [if_neg h1]; exact ⟨(decide_eq_false by_Om).symm, fun h => absurd h by_Om⟩
def Ve (x : Num) : Str := x.digits ++ Lib.repeatL [48] x.exp.toNat
theorem Vm (x : Num) : (Ve x).length = x.digits.length + x.exp.toNat := by rw [Ve, List.length_append, Em]
theorem HC : ∀ n : Nat, (Lib.repeatL [48] n).all Le = true
  | 0 => rfl
  | n + 1 => by
    have h := HC n
    simp only [Lib.repeatL, List.all_append, h, Bool.and_true]
    decide
theorem EH : ∀ n : Nat, (Lib.repeatL [48] n).all (fun c => c == 48) = true
  | 0 => rfl
  | n + 1 => by
    have h := EH n
    simp only [Lib.repeatL, List.all_append, h, Bool.and_true]
    decide
theorem XH {x : Num} {j : Nat} (h : j < (Ve x).length) : (((Ve x)[j].toNat : Nat) : Int) = YJ x.digits j := by
  unfold YJ
  by_cases hj : j < x.digits.length
  · rw [if_pos hj, ← Nh hj]
    simp only [Ve]
    rw [List.getElem_append_left hj]
  · rw [if_neg hj]
    simp only [Ve]
    rw [List.getElem_append_right by_Om]
    have := List.all_eq_true.1 (EH x.exp.toNat) _ (List.getElem_mem (show j - x.digits.length < (Lib.repeatL [48] x.exp.toNat).length by rw [Em]; rw [Vm] at h; omega))
    rw [beq_iff_eq.1 this]
    rfl
theorem W9 {x : Num} {j : Nat} (h : j < (Ve x).length) : Md ((Ve x).take (j + 1)) = 10 * Md ((Ve x).take j) + (YJ x.digits j - 48) := by
  rw [Bm _ j h, XH h]
theorem D7 {s : Str} (hs : s.all Le = true) : ∀ k, ∀ j, j + k = s.length → Md (s.take j) ≤ Md s
  | 0, j, h => by rw [List.take_of_length_le by_Om]; exact Int.le_refl _
  | k + 1, j, h => by
    have h1 := D7 hs k (j + 1) by_Om
    have hj : j < s.length := by omega
    rw [Bm s j hj] at h1
    have h2 := As (List.all_eq_true.1 hs s[j] (List.getElem_mem hj))
    have h3 := (Lu (s.take j) (Ep j hs)).1
    omega
theorem MB (x : Num) : Dr x = if x.neg = true then 45 :: Ve x else Ve x := rfl
theorem Gq {x : Num} (h : Sd x = true) : (Ve x).all Le = true := by
  rw [Ve, List.all_append, HC, Bool.and_true]
  by_cases hd : x.digits = []
  · rw [hd]; rfl
  · exact (N6 h hd).1
theorem AE {x : Num} (h : Sd x = true) (hn : Ve x = []) : x.neg = false := by
  have : x.digits = [] := by have := congrArg List.length hn; rw [Vm, List.length_nil] at this; exact List.eq_nil_of_length_eq_zero by_Om
  have := L3 h this
  subst this; rfl
theorem Z3 {x : Num} (h : Sd x = false ∨ x.exp < 0 ∨ 19 < (x.digits.length : Int) + x.exp) : Gu x = (0, false) := by rw [Ui, if_pos h]
theorem UA {x : Num} (h : ¬ (Sd x = false ∨ x.exp < 0 ∨ 19 < (x.digits.length : Int) + x.exp)) (hn : x.neg = true) : Gu x = if Md (Ve x) ≤ 9223372036854775808 then (- Md (Ve x), true) else (0, false) := by
  have hr : Sd x = true := by cases hh : Sd x with | true => rfl | false => exact absurd (.inl hh) h
  have hne : Ve x ≠ [] := fun e => by have := AE hr e; rw [this] at hn; cases hn
  obtain ⟨p1, p2⟩ := DI (Gq hr) hne
  have e : Dr x = 45 :: Ve x := by rw [MB, if_pos hn]
  rw [Ui, if_neg h, e, if_neg Sa, p1]
  by_cases hv : Md (Ve x) ≤ 9223372036854775808
  · rw [if_pos hv, if_neg (by rw [decide_eq_true hv]; decide), p2 hv]
  · rw [if_neg hv, if_pos (by rw [decide_eq_false hv])]
theorem L4 {x : Num} (h : ¬ (Sd x = false ∨ x.exp < 0 ∨ 19 < (x.digits.length : Int) + x.exp)) (hn : x.neg = false) : Gu x = if Md (Ve x) ≤ 9223372036854775807 then (Md (Ve x), true) else (0, false) := by
  have hr : Sd x = true := by cases hh : Sd x with | true => rfl | false => exact absurd (.inl hh) h
  have e : Dr x = Ve x := by rw [MB, if_neg (by rw [hn]; decide)]
  rw [Ui, if_neg h, e]
  by_cases hne : Ve x = []
  · rw [if_pos hne, hne]; rfl
  · obtain ⟨p1, p2⟩ := DH (Gq hr) hne
    rw [if_neg hne, p1]
    by_cases hv : Md (Ve x) ≤ 9223372036854775807
    · rw [if_pos hv, if_neg (by rw [decide_eq_true hv]; decide), p2 hv]
    · rw [if_neg hv, if_pos (by rw [decide_eq_false hv])]
theorem XG {x : Num} (h : ¬ (Sd x = false ∨ x.exp < 0 ∨ 19 < (x.digits.length : Int) + x.exp)) {j : Nat} (hj : j ≤ (Ve x).length) (hv : 9223372036854775808 < Md ((Ve x).take j)) : Gu x = (0, false) := by
  have hr : Sd x = true := by cases hh : Sd x with | true => rfl | false => exact absurd (.inl hh) h
  have := D7 (Gq hr) ((Ve x).length - j) j by_Om
  cases hn : x.neg with
  | true => rw [UA h hn, if_neg by_Om]
  | false => rw [L4 h hn, if_neg by_Om]
theorem QE (d : Int) (h0 : 0 ≤ d) (h9 : d ≤ 9) : (-9223372036854775808 + d).tdiv 10 = -((9223372036854775808 - d) / 10) := by
  rw [show -9223372036854775808 + d = -(9223372036854775808 - d) by omega, Int.neg_tdiv, Int.tdiv_eq_ediv_of_nonneg by_Om]
theorem GP (x : Num) (hl : x.digits.length ≤ 140737488355328) (w0 : World) : Calls prog 114 #[Ml x] w0 (Ce fun v w' => v = .tuple #[.int .i64 (Gu x).1, .bool (Gu x).2] ∧ Same [] w0 w') := by
 refine Ma func114 rfl ntmps114 Qb (Rc _) ?_
 have hF := FR.start w0 []
 refine Ha ?_
 refine Bh hF rfl ?_
 clear hF; rintro b1 w hb1 hF -
 refine Ca (Kb rfl) (Ca (Cc rfl) (Yb (Uc (Bi isAgg49 sizeOf49 rfl hF.F 0 rfl rfl) ?_)))
 refine Va hF (W6 x hl _) (Ua DG rfl rfl) ?_
 clear hF; intro w hF
 refine Ca (Cc rfl) (Da (Ia (Ha (Ca (Jc rfl) (Ca (Dm rfl) (Ca (Jc rfl) ?_))))))
 refine Qe (d := 12) rfl (fun hg0 => ?_) (fun hg0 => ?_)
 refine Ea (Ea (Ea (Ca (Lc rfl rfl) (Ca (Jc rfl) (Ea (Ea (Ea (Ea (Ea (Ea (Ea (Ca (Lc rfl rfl) (Cb ?_)))))))))))))
 refine Ja (Qd rfl (Ha (Ca (Kb rfl) (Ca (Cc rfl) (Da ?_)))))
 refine Pb (Ob (Qa (Nd (v := .int .i64 0) (x := .bool false) rfl rfl rfl) ?_))
 exact ⟨by rw [Z3 (.inl (by simpa using hg0))], hF.same⟩
 refine Ca (Fc Ih rfl) (Uc (Nm isAgg3 rfl hF.F 0 rfl rfl) (Ca (Fj rfl rfl) (Ca (Dc rfl rfl) (Ca (Jc rfl) ?_))))
 refine Mb (d := 17) rfl (fun hg1 => ?_) (fun hg1 => ?_)
 refine Ea (Ea (Ea (Ea (Ea (Ea (Ea (Ca (Lc rfl rfl) (Da (Qd rfl (Ha (Ca (Kb rfl) ?_)))))))))))
 refine Ca (Cc rfl) (Da ?_)
 refine Pb (Ob (Qa (Nd (v := .int .i64 0) (x := .bool false) rfl rfl rfl) ?_))
 exact ⟨by rw [Z3 (.inr (.inl hg1))], hF.same⟩
 refine Ca (Fc Dj rfl) (Uc (Ko isAgg9 rfl hF.F 0 rfl rfl) (Ca (Hk underlying9 rfl) (Ca (Fc Ih rfl) (Uc (Nm isAgg3 rfl hF.F 0 rfl rfl) ?_))))
 have hrl := Id (x := x) (by simp_all)
 refine Ca (El rfl rfl) (Ca (Gn rfl rfl) (Ca (Dc rfl rfl) (Da ?_)))
 refine Bc rfl rfl (fun hc0 => ?_) (fun hc0 => ?_)
 refine Ha (Ca (Kb rfl) (Ca (Cc rfl) (Da ?_)))
 refine Pb (Ob (Qa (Nd (v := .int .i64 0) (x := .bool false) rfl rfl rfl) ?_))
 exact ⟨by rw [Z3 (.inr (.inr by_Om))], hF.same⟩
 refine Ra (Ja (Ha (Ca (Kb rfl) (Da (Ia (Ha (Ca (Kb rfl) (Da (Db ?_)))))))))
 have hrt : Sd x = true := by simp_all
 have hnb : ¬ (Sd x = false ∨ x.exp < 0 ∨ 19 < (x.digits.length : Int) + x.exp) := by rw [hrt]; simp; omega
 have hwd := Gq hrt
 have hdx : x.digits.all Le = true := by rw [Ve, List.all_append, Bool.and_eq_true] at hwd; exact hwd.1
 have hrl := Id hrt
 refine Xc (fun μ σ w => ∃ (j : Nat), ∃ (v : Int), μ = ((x.digits.length : Int) + x.exp - j).toNat ∧ ((j : Int) ≤ (x.digits.length : Int) + x.exp) ∧ (v = - Md ((Ve x).take j)) ∧ (v ≤ 0) ∧ (-9223372036854775808 ≤ v) ∧ AllEq σ [(1, .pointer (some ⟨b1, 0, none⟩)), (5, .int .i64 v), (6, .int .i64 ((j : Int)))] ∧ FR w0 [] [(b1, .cells #[.bool (x.neg), .string (bs (x.digits)), .int .i64 (x.exp)] 49)] w) _ ⟨0, 0, rfl, by_Om, (rfl), by_Om, by_Om, St, hF⟩ ?_
 clear hF; rintro μ σ w ⟨j, v, rfl, hj, hv, hv0, hvm, hs, hF⟩
 refine Cg.slots hs ?_
 clear hs; intro σ
 refine Ia (Ha (Ca (Za rfl) (Ca (Fc Dj rfl) (Uc (Ko isAgg9 rfl hF.F 0 rfl rfl) (Ca (Hk underlying9 rfl) (Ca (Fc Ih rfl) (Uc (Nm isAgg3 rfl hF.F 0 rfl rfl) (Ca (El rfl rfl) (Ca (Fj rfl rfl) (Da ?_))))))))))
 refine Bc rfl rfl (fun hc1 => ?_) (fun hc1 => ?_)
 refine Ra (Ja (Ia (Db (Ha (Ca (Kb rfl) (Da (Ia ?_)))))))
 refine Hf (fun σ w => ∃ (d : Int), (d = YJ x.digits j - 48) ∧ AllEq σ [(1, .pointer (some ⟨b1, 0, none⟩)), (5, .int .i64 v), (6, .int .i64 ((j : Int))), (7, .int .i64 d)] ∧ FR w0 [] [(b1, .cells #[.bool (x.neg), .string (bs (x.digits)), .int .i64 (x.exp)] 49)] w) ?_ ?_
 refine Ha (Ca (Za rfl) (Ca (Fc Dj rfl) (Uc (Ko isAgg9 rfl hF.F 0 rfl rfl) (Ca (Hk underlying9 rfl) (Ca (Fj rfl rfl) (Da ?_))))))
 refine Bc rfl rfl (fun hc2 => ?_) (fun hc2 => ?_)
 refine Ga (Ca (Fc Dj rfl) (Uc (Ko isAgg9 rfl hF.F 0 rfl rfl) (Ca (Za rfl) ?_)))
 refine Fa (v := .int .u8 (bZ (x.digits) j)) (by rw [← Nh (s := x.digits) (p := j) by_Om]; exact Fd j underlying9 rfl rfl by_Om) ?_
 refine Fa (v := .int .u8 (bZ x.digits j - 48)) (Wu rfl rfl (by have := RJ (s := x.digits) hdx j; unfold YJ at this; rw [if_pos by_Om] at this; rw [IntKind.wrap_u8]; omega)) ?_
 refine Fa (v := .int .i64 (bZ x.digits j - 48)) (Td underlying5 underlying3 rfl (by have := Wh x.digits j; exact Lh by_Om by_Om)) ?_
 refine Ca (Kb rfl) (Cb ?_)
 · exact Gb ⟨(bZ x.digits j - 48), (by unfold YJ; first | (rw [if_pos by_Om]; done) | (rw [if_neg by_Om]; rfl)), An, hF⟩
 refine Ra ?_
 · exact Gb ⟨(0), (by unfold YJ; first | (rw [if_pos by_Om]; done) | (rw [if_neg by_Om]; rfl)), An, hF⟩
 clear hF; rintro σ w ⟨d, hd, hs, hF⟩
 refine Eg.slots hs ?_
 clear hs; intro σ
 have hdg := RJ hdx j
 have hjw : j < (Ve x).length := by rw [Vm]; omega
 have hst := W9 hjw
 refine Ja (Ia (Ha (Ca (Za rfl) (Ca (Za rfl) (Ca (El rfl rfl) (Fa (v := .int .i64 (-((9223372036854775808 - d) / 10))) (OC rfl rfl Oa (Me (QE d by_Om by_Om) by_Om by_Om)) (Ca (Fj rfl rfl) (Da ?_))))))))
 refine Bc rfl rfl (fun hc3 => ?_) (fun hc3 => ?_)
 refine Ha (Ca (Kb rfl) (Ca (Cc rfl) (Da ?_)))
 refine Pb (Ob (Qa (Nd (v := .int .i64 0) (x := .bool false) rfl rfl rfl) ?_))
 exact ⟨by rw [XG hnb (j := j + 1) by_Om (by rw [hst]; omega)], hF.same⟩
 refine Ra (Ja (Ga (Ca (Za rfl) (Fa (v := .int .i64 (10 * v)) (Im rfl rfl (Lh by_Om by_Om)) (Ca (Za rfl) (Ca (Jn rfl rfl) (Ca (Kb rfl) (Cb (Wb (Ja (Ga (Ca (Za rfl) (Ca (Di (((j + 1 : Nat) : Int)) rfl rfl) ?_)))))))))))))
 refine Ca (Kb rfl) (Cb ?_)
 refine Gb ⟨_, ?_, j + 1, 10 * v - d, rfl, by_Om, (by rw [hst]; omega), by_Om, by_Om, St, hF⟩
 omega
 refine Oc (Nc rfl ?_)
 refine Ja (Ia (Ha (Ca (Fc Ly rfl) (Uc (NO isAgg4 rfl hF.F 0 rfl rfl) (Da ?_)))))
 refine Vh rfl rfl (fun hc4 => ?_) (fun hc4 => ?_)
 refine Ha (Ca (Za rfl) (Ca (Kb rfl) (Ca (Cc rfl) (Da ?_))))
 refine Pb (Ob (Qa (Nd (v := .int .i64 v) (x := .bool true) rfl rfl rfl) ?_))
 have eT : (Ve x).take j = Ve x := List.take_of_length_le (by rw [Vm]; omega)
 rw [eT] at hv
 exact ⟨by rw [UA hnb (by assumption), if_pos by_Om, hv], hF.same⟩
 refine Ra (Ja (Ia (Ha (Ca (Za rfl) (Ca (Li rfl rfl) (Da ?_))))))
 refine Bc rfl rfl (fun hc5 => ?_) (fun hc5 => ?_)
 refine Ha (Ca (Kb rfl) (Ca (Cc rfl) (Da ?_)))
 refine Pb (Ob (Qa (Nd (v := .int .i64 0) (x := .bool false) rfl rfl rfl) ?_))
 have eT : (Ve x).take j = Ve x := List.take_of_length_le (by rw [Vm]; omega)
 rw [eT] at hv
 exact ⟨by rw [L4 hnb (by assumption), if_neg by_Om], hF.same⟩
 refine Ra (Ja (Ha (Ca (Za rfl) (Fa (v := .int .i64 (-v)) (Nx rfl (Me by_Om by_Om by_Om)) (Ca (Kb rfl) (Ca (Cc rfl) (Da ?_)))))))
 refine Pb (Ob (Qa (Nd (v := .int .i64 (-v)) (x := .bool true) rfl rfl rfl) ?_))
 have eT : (Ve x).take j = Ve x := List.take_of_length_le (by rw [Vm]; omega)
 rw [eT] at hv
 exact ⟨by rw [L4 hnb (by assumption), if_pos by_Om, hv, Int.neg_neg], hF.same⟩
end Go.Scarf
