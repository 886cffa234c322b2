/- A part of the proof. -/
import Derived.Test.YtehigfneiofjnaaGreatDoorE9
set_option linter.all false
set_option maxHeartbeats 8000000
set_option maxRecDepth 10000
namespace Go.Scarf
open Go.RowKit Go.Proofs Go.Proofs.Tryz
def Z8 (x : Tree) : Prop := ∀ S w0 cs, Rep S w0 (Gc x) cs → Yd nodeB x = true → Ec x ≤ 1000000000 → VL 69 #[.agg cs.toArray] (Gc (Mh x)) w0
theorem CD {ks : List Str} {j : Nat} (h : j < ks.length) : (ks.take (j + 1)).map (fun s => Value.string (bs s)) = (ks.take j).map (fun s => Value.string (bs s)) ++ [Value.string (bs ks[j])] := by
  rw [List.take_succ_eq_append_getElem h, List.map_append]; rfl
theorem T4 {S : Nat → Prop} {wx : World} : ∀ {q : List Str}, (∀ s ∈ q, s.length ≤ 9223372036854775807) → RepL S wx (q.map Wn) (q.map fun s => Value.string (bs s))
  | [], _ => RepL.nil_mk
  | s :: q, h => RepL.cons_mk (Rep.lit_mk (v := .string (bs s)) (h s Sa)) (T4 fun x hx => h x (by simp [hx]))
theorem U9 (k : Int) (t : Str) (ks : List Str) (xs : List Tree) (ih : ∀ x, x ∈ xs → Z8 x) : Z8 (.node k t ks xs) := by
 intro S w0 cs hR hnx hsz
 replace hR := hR.old
 have hkl_ := AD _ hnx
 rw [Jo] at hkl_
 rw [Ec] at hsz hkl_
 have hxn := Bn xs
 replace hnx := Uf hnx
 obtain ⟨A, c, B, e, rfl, hk, ht, hK, hX⟩ := hR.tree_inv
 have hXl := hX.slice_len
 have hKn : k = 6 → ks.length = xs.length := fun e => (Kq (e ▸ hnx.1)).2
 obtain ⟨eK, hrK, hKl, hKc⟩ := hK.slice_open (LD ks)
 have hks2 : ∀ s ∈ Sf ks, s.length ≤ 9223372036854775807 := fun s hs => by obtain ⟨q, hq, rfl⟩ := List.mem_iff_getElem.1 (Wo.1 hs); obtain ⟨_, _, _, h⟩ := hK.str_elem hq; exact h
 refine Ma func69 rfl ntmps69 Qb (Rc _) ?_
 have hF := FR.start w0 []
 refine Ha ?_
 refine Bh hF rfl ?_
 clear hF; rintro b1 w hb1 hF -
 refine Af (cs := #[.int .i64 0, .string (bs []), .slice none 0 0, .slice none 0 0]) hF zeroValue25 rfl ?_
 clear hF; rintro b2 w hb2 hF -
 refine Yb (Ca (Fc Ke rfl) (Uc (Nm isAgg3 rfl hF.F 1 rfl rfl) (Ca (Fc Pf rfl) (Uc (Ko isAgg9 rfl hF.F 1 rfl rfl) ?_))))
 refine Fa (w' := w) (v := .agg #[.int .i64 k, .string (bs t), .slice none 0 0, .slice none 0 0]) Fb ?_
 refine Hh hF zeroValue25 sizeOf25 rfl ?_
 clear hF; rintro b3 w hb3 hF -
 refine Yb ?_
 refine Yh 0 hF (L0 underlying22 sizeOf9) ?_
 clear hF; rintro b4 w hb4 hF -
 refine Ca (Fc Nf rfl) (Uc (Mf isAgg22 rfl hF.F 3 rfl rfl) ?_)
 have hS0 : SlB 9 1 (some ⟨b4, 0, none⟩) 0 0 [] [(b4, .cells #[] 9)] := ⟨by simp, .inr ⟨b4, #[], rfl, rfl, Nat.le_refl _, Nat.zero_le _, by simp, by simp⟩⟩
 replace hF := hF.toseg 0 rfl
 refine Rg [(b3, .cells #[.int .i64 k, .string (bs t), .slice none 0 0, .slice none 0 0] 25), (b2, .cells #[.int .i64 0, .string (bs []), .slice none 0 0, .slice none 0 0] 25), (b1, .cells #[.int .i64 k, .string (bs t), .slice A ks.length c, .slice B xs.length e] 25)] [] (news := eK) (len' := ks.length) (ys := eK) Dn hF hS0 rfl rfl (by rw [hKl]) (fun hk => by obtain ⟨ad, hA, hc⟩ := hKc hk; exact ⟨ad, hA, Qc (hF.cells0 hc)⟩) (Cu hrK.one_) (by simp only [maxLen]; omega) (Nat.zero_add _) (rfl) by_Om ?_
 clear hF; intro A0 c0 a_0 w hS0_a hF hE hnew
 clear hE hnew
 refine Ca (Nt rfl) (Da (Ia (Db ?_)))
 have hL : RX w0 [b3, b2, b1] w [We ks] [.slice A0 ks.length c0] := AF hF hS0_a hrK rfl
 replace hF := hF.noseg
 refine Xc (fun μ σ w => ∃ (j : Nat), ∃ (l : List Str), ∃ (nl : Nat), ∃ (AL : Option Addr), ∃ (cl : Nat), ∃ (AK : Option Addr), ∃ (cK : Nat), ∃ (AI : Option Addr), ∃ (cI : Nat), ∃ (sq : List (Nat × Obj)), ∃ (si : List (Nat × Obj)), ∃ (cs1 : List Value), μ = nl + 1 ∧ (j ≤ ks.length) ∧ (k ≠ 6 → j = 0) ∧ (nl = l.length) ∧ (l.Perm ((Sf ks).drop j)) ∧ (RX w0 ([b3, b2, b1] ++ (sq.map (·.1) ++ si.map (·.1))) w [We l] [.slice AL nl cl]) ∧ (SlB 9 1 AK j cK (((Sf ks).take j).map fun s => Value.string (bs s)) sq) ∧ (SlB 25 4 AI j cI cs1 si) ∧ (RX w0 ([b3, b2, b1] ++ (sq.map (·.1) ++ si.map (·.1))) w (Je ((Jw ks xs).take j)) cs1) ∧ AllEq σ [(1, .pointer (some ⟨b1, 0, none⟩)), (2, .pointer (some ⟨b2, 0, none⟩)), (3, .pointer (some ⟨b3, 0, none⟩)), (4, .slice AL nl cl)] ∧ FR w0 [] ([(b3, .cells #[.int .i64 k, .string (bs t), .slice AK j cK, .slice AI j cI] 25), (b2, .cells #[.int .i64 0, .string (bs []), .slice none 0 0, .slice none 0 0] 25), (b1, .cells #[.int .i64 k, .string (bs t), .slice A ks.length c, .slice B xs.length e] 25)] ++ (sq ++ (si ++ []))) w) _ ⟨0, ks, ks.length, _, _, none, 0, none, 0, [], [], [], rfl, (Nat.zero_le _), (fun _ => rfl), (rfl), (by rw [List.drop_zero]; exact (Ln ks).symm), (by simpa using hL), (SlB.nil _ _), (SlB.nil _ _), (RX.nil), An, hF⟩ ?_
 clear hF; rintro μ σ w ⟨j, l, nl, AL, cl, AK, cK, AI, cI, sq, si, cs1, rfl, hj, hk6, hnl, hlp, hL, hSq, hSi, hDX, hs, hF⟩
 refine Cg.slots hs ?_
 clear hs; intro σ
 have hLc := hL.rep.slice_len.2
 refine Ia (Ha (Ca (Fc Ke rfl) (Uc (Nm isAgg3 rfl hF.F 2 rfl rfl) (Ca (Li rfl rfl) (Ca (Jc rfl) ?_)))))
 refine Mb (d := 20) rfl (fun hg1 => ?_) (fun hg1 => ?_)
 refine Ca (No rfl) (Ca (Ji underlying22 rfl) (Ca (Gn rfl rfl) (Ca (Lc rfl rfl) (Da ?_))))
 refine Bc rfl rfl (fun hc0 => ?_) (fun hc0 => ?_)
 refine Ra (Ja (Db (Ha (Ca (Kb rfl) (Da (Ia (Ha (Ca (Kb rfl) (Da ?_)))))))))
 refine Db ?_
 have h6 : k = 6 := by omega
 refine Xc (fun μ σ w => ∃ (m : Nat), ∃ (i : Nat), μ = nl - i ∧ (m < l.length) ∧ (i ≤ nl ∧ 1 ≤ i) ∧ (RX w0 ([b3, b2, b1] ++ (sq.map (·.1) ++ si.map (·.1))) w [We l] [.slice AL nl cl]) ∧ (RX w0 ([b3, b2, b1] ++ (sq.map (·.1) ++ si.map (·.1))) w (Je ((Jw ks xs).take j)) cs1) ∧ (∀ (hm : m < l.length) q (h : q < l.length), q < i → Yo l[q] l[m] = false) ∧ AllEq σ [(1, .pointer (some ⟨b1, 0, none⟩)), (2, .pointer (some ⟨b2, 0, none⟩)), (3, .pointer (some ⟨b3, 0, none⟩)), (4, .slice AL nl cl), (5, .int .i64 ((m : Int))), (6, .int .i64 ((i : Int)))] ∧ FR w0 [] ([(b3, .cells #[.int .i64 k, .string (bs t), .slice AK j cK, .slice AI j cI] 25), (b2, .cells #[.int .i64 0, .string (bs []), .slice none 0 0, .slice none 0 0] 25), (b1, .cells #[.int .i64 k, .string (bs t), .slice A ks.length c, .slice B xs.length e] 25)] ++ (sq ++ (si ++ []))) w) _ ⟨0, 1, rfl, by_Om, by_Om, (hL), (hDX), (fun hm q h hq => by obtain rfl : q = 0 := by_Om; rw [Cr, decide_eq_false_iff_not]; exact List.lt_irrefl _), Xt, hF⟩ ?_
 clear hF; rintro μ σ w ⟨m, i, rfl, hm, hi, hL, hDX, hmin, hs, hF⟩
 refine Cg.slots hs ?_
 clear hs; intro σ
 refine Ia (Ha (Ca (Za rfl) (Ca (No rfl) (Ca (Ji underlying22 rfl) (Ca (Fj rfl rfl) (Da ?_))))))
 refine Bc rfl rfl (fun hc1 => ?_) (fun hc1 => ?_)
 refine Ra (Ja (Ia (Db (Ia ?_))))
 obtain ⟨ad, hAd⟩ := Uw hL by_Om
 refine De [] (.free 0 (.free 1 (.free 2 (.free 3 (.free 4 (.free 5 (.free 6 (.free 7 (.free 8 .nil))))))))) hF ?_
 clear hF; intro w hF hE
 replace hL := hL.ext hE
 replace hDX := hDX.ext hE
 clear hE
 refine ⟨fun wq => FR w0 [] [(b3, .cells #[.int .i64 k, .string (bs t), .slice AK j cK, .slice AI j cI] 25), (b2, .cells #[.int .i64 0, .string (bs []), .slice none 0 0, .slice none 0 0] 25), (b1, .cells #[.int .i64 k, .string (bs t), .slice A ks.length c, .slice B xs.length e] 25)] wq ∧ ∀ q (h : q < l.length), wq.cell? (ad.add (q * 1)) = some (.string (bs l[q])), ⟨hF.sub (.cons_cons _ (.cons_cons _ (.cons_cons _ (List.nil_sublist _)))), Xh hL hAd⟩, ?_⟩
 refine Eb rfl (No rfl) (Eb rfl (Za rfl) (Ib rfl (v := .pointer (some (ad.add (i * 1)))) (fun w hC => Ya (i := (i : Int)) Pj rfl hAd rfl by_Om by_Om) (Ib rfl (v := .string (bs ((l[i]'by_Om)))) (fun w hC => Vb isAgg9 rfl (hC.2 i by_Om)) (Eb rfl (No rfl) (Eb rfl (Za rfl) (Ib rfl (v := .pointer (some (ad.add (m * 1)))) (fun w hC => Ya (i := (m : Int)) Pj rfl hAd rfl by_Om by_Om) (Ib rfl (v := .string (bs ((l[m]'by_Om)))) (fun w hC => Vb isAgg9 rfl (hC.2 m by_Om)) (Eb rfl (FU rfl rfl) (Ic (Ja ?_))))))))))
 refine Vh rfl rfl (fun hc2 => ?_) (fun hc2 => ?_)
 refine Ga (Ca (Za rfl) (Ca (Kb rfl) (Cb (Wb (Ja (Ga (Ca (Za rfl) (Ca (Di (((i + 1 : Nat) : Int)) rfl rfl) (Ca (Kb rfl) (Cb ?_))))))))))
 refine Gb ⟨_, ?_, i, i + 1, rfl, by_Om, by_Om, (hL), (hDX), (fun _ => NL hm by_Om (hmin hm) (by assumption)), Xt, hF⟩
 omega
 refine Ra (Wb (Ja (Ga (Ca (Za rfl) (Ca (Di (((i + 1 : Nat) : Int)) rfl rfl) (Ca (Kb rfl) (Cb ?_)))))))
 refine Gb ⟨_, ?_, m, i + 1, rfl, by_Om, by_Om, (hL), (hDX), (fun _ => KG hm by_Om (hmin hm) (by assumption)), Xt, hF⟩
 omega
 refine Oc (Nc rfl ?_)
 refine Ja (Ia ?_)
 obtain ⟨hjs, hmj⟩ := AH hlp (m := m) hm (fun q h => hmin hm q h by_Om)
 obtain ⟨ad, hAd⟩ := Uw hL by_Om
 refine De [9] (.free 0 (.free 1 (.free 2 (.free 3 (.free 4 (.free 5 (.act 6 (.act 7 (.free 8 (.act 9 .nil)))))))))) hF ?_
 clear hF; intro w hF hE
 replace hL := hL.ext hE
 replace hDX := hDX.ext hE
 clear hE
 refine ⟨fun wq => FR w0 [] [(b3, .cells #[.int .i64 k, .string (bs t), .slice AK j cK, .slice AI j cI] 25), (b2, .cells #[.int .i64 0, .string (bs []), .slice none 0 0, .slice none 0 0] 25), (b1, .cells #[.int .i64 k, .string (bs t), .slice A ks.length c, .slice B xs.length e] 25)] wq ∧ ∀ q (h : q < l.length), wq.cell? (ad.add (q * 1)) = some (.string (bs l[q])), ⟨hF.sub (.cons_cons _ (.cons_cons _ (.cons_cons _ (List.nil_sublist _)))), Xh hL hAd⟩, ?_⟩
 refine Eb rfl (Fc Nf rfl) (Bk rfl (Mf isAgg22 rfl C1 0 rfl rfl) (Eb rfl (No rfl) (Eb rfl (Za rfl) (Ib rfl (v := .pointer (some (ad.add (m * 1)))) (fun w hC => Ya (i := (m : Int)) Pj rfl hAd rfl by_Om by_Om) (Ib rfl (v := .string (bs ((l[m]'by_Om)))) (fun w hC => Vb isAgg9 rfl (hC.2 m by_Om)) ?_)))))
 refine Xb 1 rfl hF (Ka (cs := #[.string (bs ((l[m]'by_Om)))]) underlying22 sizeOf9 zeroValue9 Oa Oa Fb) ?_
 clear hF; intro b5 w hb5 hF hE
 replace hL := hL.alloc hE hb5
 replace hDX := hDX.alloc hE hb5
 clear hE
 refine ⟨⟨hF.sub (.cons _ (.cons_cons _ (.cons_cons _ (.cons_cons _ (List.nil_sublist _))))), Xh hL hAd⟩, ?_⟩
 refine Bf [(b5, .cells #[.string (bs ((l[m]'by_Om)))] 9), (b3, .cells #[.int .i64 k, .string (bs t), .slice AK j cK, .slice AI j cI] 25), (b2, .cells #[.int .i64 0, .string (bs []), .slice none 0 0, .slice none 0 0] 25), (b1, .cells #[.int .i64 k, .string (bs t), .slice A ks.length c, .slice B xs.length e] 25)] (si ++ []) (news := [.string (bs ((l[m]'by_Om)))]) (len' := j + 1) (ys := ((Sf ks).take (j + 1)).map (fun s => Value.string (bs s))) rfl Dn hF hSq rfl rfl (rfl) (fun _ => ⟨_, rfl, Qc (hF.cellsAll 0 rfl)⟩) (by simp [Value.oneCell']) (by simp only [maxLen]; omega) (rfl) (by rw [CD hjs, ← hmj]) by_Om ?_
 clear hF; intro A2 c2 q_2 w hS2_q hF hE hnew
 replace hL := hL.step (ids' := [b5, b3, b2, b1] ++ (q_2.map (·.1) ++ si.map (·.1))) hE (by grind) (by grind)
 replace hDX := hDX.step (ids' := [b5, b3, b2, b1] ++ (q_2.map (·.1) ++ si.map (·.1))) hE (by grind) (by grind)
 clear hE hnew
 refine ⟨⟨hF.sub (.cons _ (.cons_cons _ (.cons_cons _ (.cons_cons _ (List.nil_sublist _))))), Xh hL hAd⟩, ?_⟩
 refine Eb rfl (Fc Nf rfl) ?_
 refine Fh rfl 1 (l := [.slice (A2) (j + 1) (c2)]) (cs' := #[.int .i64 k, .string (bs t), .slice (A2) (j + 1) (c2), .slice AI j cI]) hF sizeOf22 rfl (v := .slice (A2) (j + 1) (c2)) rfl rfl Se rfl Qb rfl ?_
 clear hF; intro w hF hE
 replace hL := hL.store hE (by grind)
 replace hDX := hDX.store hE (by grind)
 clear hE
 replace hF : FR w0 [] ([(b5, .cells #[.string (bs ((l[m]'by_Om)))] 9), (b3, .cells #[.int .i64 k, .string (bs t), .slice (A2) (j + 1) (c2), .slice AI j cI] 25), (b2, .cells #[.int .i64 0, .string (bs []), .slice none 0 0, .slice none 0 0] 25), (b1, .cells #[.int .i64 k, .string (bs t), .slice A ks.length c, .slice B xs.length e] 25)] ++ (q_2 ++ (si ++ []))) w := hF
 refine Ic (Ja (Ia ?_))
 refine De [16] (.free 0 (.free 1 (.free 2 (.free 3 (.free 4 (.free 5 (.free 6 (.free 7 (.free 8 (.act 9 (.free 10 (.free 11 (.act 12 (.act 13 (.act 14 (.free 15 (.act 16 .nil))))))))))))))))) hF ?_
 clear hF; intro w hF hE
 replace hL := hL.ext hE
 replace hDX := hDX.ext hE
 clear hE
 refine ⟨fun wq => FR w0 [] [(b5, .cells #[.string (bs ((l[m]'by_Om)))] 9), (b3, .cells #[.int .i64 k, .string (bs t), .slice (A2) (j + 1) (c2), .slice AI j cI] 25), (b2, .cells #[.int .i64 0, .string (bs []), .slice none 0 0, .slice none 0 0] 25), (b1, .cells #[.int .i64 k, .string (bs t), .slice A ks.length c, .slice B xs.length e] 25)] wq ∧ ∀ q (h : q < l.length), wq.cell? (ad.add (q * 1)) = some (.string (bs l[q])), ⟨hF.sub (.cons_cons _ (.cons_cons _ (.cons_cons _ (.cons_cons _ (List.nil_sublist _))))), Xh hL hAd⟩, ?_⟩
 refine Eb rfl (Fc Vc rfl) (Bk rfl (Mf isAgg23 rfl C1 1 rfl rfl) (Eb rfl (Fc Vc rfl) (Bk rfl (Mf isAgg23 rfl C1 3 rfl rfl) (Bk rfl (Bi isAgg25 sizeOf25 rfl C1 3 rfl rfl) (Eb rfl (No rfl) (Eb rfl (Za rfl) (Ib rfl (v := .pointer (some (ad.add (m * 1)))) (fun w hC => Ya (i := (m : Int)) Pj rfl hAd rfl by_Om by_Om) (Ib rfl (v := .string (bs ((l[m]'by_Om)))) (fun w hC => Vb isAgg9 rfl (hC.2 m by_Om)) ?_))))))))
 refine Xf rfl (HT k t ks xs (l[m]'by_Om) _ _ _ (hF.rep hR)) (Pa MR rfl rfl rfl) ?_
 rintro _ w ⟨rfl, hE⟩
 obtain ⟨q, hq⟩ : ∃ q : Nat, DM ks (l[m]'by_Om) = (q : Int) := by have hmem : l[m]'by_Om ∈ ks := (by rw [hmj]; exact Wo.1 (List.getElem_mem hjs)); refine ⟨ks.idxOf (l[m]'by_Om), ?_⟩; rw [DM, if_pos hmem]
 rw [hq]
 obtain ⟨hqx, hlook⟩ := HL (xs := xs) (hKn h6) hq
 rw [hmj] at hlook
 replace hF := hF.ext hE
 replace hL := hL.ext hE
 replace hDX := hDX.ext hE
 clear hE
 refine ⟨⟨hF.sub (.cons_cons _ (.cons_cons _ (.cons_cons _ (.cons_cons _ (List.nil_sublist _))))), Xh hL hAd⟩, ?_⟩
 obtain ⟨ad3, XN, hA3, hl3, hk3, hx3⟩ := hX.tree_elem (i := q) (hqx)
 have ho3 := hx3.one_
 refine Ib rfl (v := .pointer (some (ad3.add (q * 4)))) (fun w hC => Ya (i := (q : Int)) Sj rfl hA3 rfl by_Om by_Om) (Ib rfl (v := .agg (List.toArray XN)) (fun w hC => Rb (l := XN) isAgg25 sizeOf25 rfl hl3 (hC.1.cells0 hk3)) ?_)
 refine Xf rfl (ih (xs[q]'hqx) (List.getElem_mem hqx) _ _ XN (hF.rep hx3) (hnx.2 _ (List.getElem_mem hqx)) (by have := If (List.getElem_mem hqx); omega)) (Ua EG rfl rfl) ?_
 rintro _ w ⟨ct, rfl, hRt, hE⟩
 have hlt : ct.length = 4 := hRt.length.trans (Ac _)
 have hot := hRt.one_
 have hYX := RX.made (ids := [b5, b3, b2, b1] ++ (q_2.map (·.1) ++ si.map (·.1))) hF.same.size (fun x hx => hF.lt_ids (by grind)) hRt
 replace hDX := (hDX.ext hE).append hYX
 replace hL := hL.ext hE
 replace hF := hF.ext hE
 clear hE hYX
 refine ⟨⟨hF.sub (.cons_cons _ (.cons_cons _ (.cons_cons _ (.cons_cons _ (List.nil_sublist _))))), Xh hL hAd⟩, ?_⟩
 refine Xb 1 rfl hF (Ul (l := ct) underlying23 sizeOf25 zeroValue25 Oa Oa rfl hlt) ?_
 clear hF; intro b6 w hb6 hF hE
 replace hL := hL.alloc hE hb6
 replace hDX := hDX.alloc hE hb6
 clear hE
 refine ⟨⟨hF.sub (.cons _ (.cons_cons _ (.cons_cons _ (.cons_cons _ (.cons_cons _ (List.nil_sublist _)))))), Xh hL hAd⟩, ?_⟩
 refine Bf ([(b6, .cells (List.toArray ct) 25), (b5, .cells #[.string (bs ((l[m]'by_Om)))] 9), (b3, .cells #[.int .i64 k, .string (bs t), .slice (A2) (j + 1) (c2), .slice AI j cI] 25), (b2, .cells #[.int .i64 0, .string (bs []), .slice none 0 0, .slice none 0 0] 25), (b1, .cells #[.int .i64 k, .string (bs t), .slice A ks.length c, .slice B xs.length e] 25)] ++ q_2) [] (news := ct) (len' := j + 1) (ys := cs1 ++ ct) rfl RA hF hSi rfl rfl (by rw [hlt]) (fun _ => ⟨_, rfl, Qc (hF.cellsAll 0 rfl)⟩) (Cu hot) (by simp only [maxLen]; omega) (rfl) (rfl) by_Om ?_
 clear hF; intro A4 c4 i_4 w hS4_i hF hE hnew
 replace hL := hL.step (ids' := [b6, b5, b3, b2, b1] ++ (q_2.map (·.1) ++ i_4.map (·.1))) hE (by grind) (by grind)
 replace hDX := hDX.step (ids' := [b6, b5, b3, b2, b1] ++ (q_2.map (·.1) ++ i_4.map (·.1))) hE (by grind) (by grind)
 clear hE hnew
 refine ⟨⟨hF.sub (.cons _ (.cons_cons _ (.cons_cons _ (.cons_cons _ (.cons_cons _ (List.nil_sublist _)))))), Xh hL hAd⟩, ?_⟩
 refine Eb rfl (Fc Vc rfl) ?_
 refine Fh rfl 2 (l := [.slice (A4) (j + 1) (c4)]) (cs' := #[.int .i64 k, .string (bs t), .slice (A2) (j + 1) (c2), .slice (A4) (j + 1) (c4)]) hF sizeOf23 rfl (v := .slice (A4) (j + 1) (c4)) rfl rfl Se rfl Qb rfl ?_
 clear hF; intro w hF hE
 replace hL := hL.store hE (by grind)
 replace hDX := hDX.store hE (by grind)
 clear hE
 replace hF : FR w0 [] ([(b6, .cells (List.toArray ct) 25), (b5, .cells #[.string (bs ((l[m]'by_Om)))] 9), (b3, .cells #[.int .i64 k, .string (bs t), .slice (A2) (j + 1) (c2), .slice (A4) (j + 1) (c4)] 25), (b2, .cells #[.int .i64 0, .string (bs []), .slice none 0 0, .slice none 0 0] 25), (b1, .cells #[.int .i64 k, .string (bs t), .slice A ks.length c, .slice B xs.length e] 25)] ++ (q_2 ++ (i_4 ++ []))) w := hF
 refine Ic (Ja ?_)
 refine De [] (.free 0 (.free 1 (.free 2 (.free 3 (.free 4 (.free 5 (.free 6 (.free 7 (.act 8 (.free 9 .nil)))))))))) hF ?_
 clear hF; intro w hF hE
 replace hL := hL.ext hE
 replace hDX := hDX.ext hE
 clear hE
 refine ⟨fun wq => FR w0 [] [(b6, .cells (List.toArray ct) 25), (b5, .cells #[.string (bs ((l[m]'by_Om)))] 9), (b3, .cells #[.int .i64 k, .string (bs t), .slice (A2) (j + 1) (c2), .slice (A4) (j + 1) (c4)] 25), (b2, .cells #[.int .i64 0, .string (bs []), .slice none 0 0, .slice none 0 0] 25), (b1, .cells #[.int .i64 k, .string (bs t), .slice A ks.length c, .slice B xs.length e] 25)] wq, hF.sub (.cons_cons _ (.cons_cons _ (.cons_cons _ (.cons_cons _ (.cons_cons _ (List.nil_sublist _)))))), ?_⟩
 refine Eb rfl (No rfl) (Eb rfl (Za rfl) (Eb rfl (Za rfl) ?_))
 refine Ib rfl (v := .slice AL m m) (fun w hC => GE m Pj rfl rfl rfl (by have := hLc; omega)) ?_
 refine Eb rfl (No rfl) (Eb rfl (Za rfl) (Eb rfl (Di (((m + 1 : Nat) : Int)) rfl rfl) (Ib rfl (v := .slice (if cl = m + 1 then AL else AL.map (·.add ((m + 1) * 1))) (nl - (m + 1)) (cl - (m + 1))) (fun w hC => HD (m + 1) Pj rfl rfl by_Om) ?_)))
 replace hF : FR w0 [] ([(b6, .cells (List.toArray ct) 25), (b5, .cells #[.string (bs ((l[m]'by_Om)))] 9), (b3, .cells #[.int .i64 k, .string (bs t), .slice (A2) (j + 1) (c2), .slice (A4) (j + 1) (c4)] 25), (b2, .cells #[.int .i64 0, .string (bs []), .slice none 0 0, .slice none 0 0] 25), (b1, .cells #[.int .i64 k, .string (bs t), .slice A ks.length c, .slice B xs.length e] 25)] ++ (q_2 ++ (i_4 ++ []))) w := hF
 have hnb := hlp.length_eq
 rw [List.length_drop, Lf] at hnb
 have hkx := hKn h6
 obtain ⟨AL2, cl2, w2, hr2, hL2, hE⟩ := R5 (w := w) (ty := 22) Dn hL (show m < nl by omega) (fun b hb => hF.lt_ids (by grind)) hF.same.size by_Om by_Om
 replace hF := hF.ext hE
 replace hDX := hDX.ext hE
 refine Zh rfl (Zu rfl rfl hr2) (hF.sub (.cons_cons _ (.cons_cons _ (.cons_cons _ (.cons_cons _ (.cons_cons _ (List.nil_sublist _))))))) ?_
 clear hE hr2
 refine Eb rfl (Nt rfl) (Ic (Wb ?_))
 refine Gb ⟨_, ?_, j + 1, l.eraseIdx m, nl - 1, AL2, cl2, A2, c2, A4, c4, q_2, i_4, cs1 ++ ct, rfl, (by rw [Lf] at hjs; omega), (fun h => absurd h6 h), (by rw [List.length_eraseIdx, if_pos by_Om, ← hnl]), (J_ hlp by_Om hjs hmj), (hL2.sub (by grind)), (hS2_q), (hS4_i), (by rw [H1 hjs hlook]; exact hDX.sub (by grind)), An, hF.drop 2⟩
 omega
 refine Oc (Nc rfl ?_)
 refine Ja (Ia (Ha (Ca (Kb rfl) (Da (Db ?_)))))
 refine Xc (fun μ σ w => μ = 0 ∧ (RX w0 ([b3, b2, b1] ++ (sq.map (·.1) ++ si.map (·.1))) w [We l] [.slice AL nl cl]) ∧ (RX w0 ([b3, b2, b1] ++ (sq.map (·.1) ++ si.map (·.1))) w (Je ((Jw ks xs).take j)) cs1) ∧ AllEq σ [(1, .pointer (some ⟨b1, 0, none⟩)), (2, .pointer (some ⟨b2, 0, none⟩)), (3, .pointer (some ⟨b3, 0, none⟩)), (7, .int .i64 ((0 : Int)))] ∧ FR w0 [] ([(b3, .cells #[.int .i64 k, .string (bs t), .slice AK j cK, .slice AI j cI] 25), (b2, .cells #[.int .i64 0, .string (bs []), .slice none 0 0, .slice none 0 0] 25), (b1, .cells #[.int .i64 k, .string (bs t), .slice A ks.length c, .slice B xs.length e] 25)] ++ (sq ++ (si ++ []))) w) _ ⟨rfl, (hL), (hDX), An, hF⟩ ?_
 clear hF; rintro μ σ w ⟨rfl, hL, hDX, hs, hF⟩
 refine Cg.slots hs ?_
 clear hs; intro σ
 refine Ia (Ha (Ca (Za rfl) (Ca (Fc Vc rfl) (Uc (Mf isAgg23 rfl hF.F 2 rfl rfl) (Ca (Ji underlying23 rfl) (Ca (Fj rfl rfl) (Ca (Jc rfl) ?_)))))))
 refine Mb (d := 80) rfl (fun hg5 => ?_) (fun hg5 => ?_)
 refine Ca (Fc Ke rfl) (Uc (Nm isAgg3 rfl hF.F 2 rfl rfl) (Fa (v := .bool false) (Dd (Ri rfl rfl) by_Om) (Ca (Lc rfl rfl) (Da (Xe rfl ?_)))))
 refine Oc (Nc rfl ?_)
 refine Ja (Ha (Uc (Bi isAgg25 sizeOf25 rfl hF.F 0 rfl rfl) ?_))
 refine Pe 1 (l := [.int .i64 k, .string (bs t), .slice AK j cK, .slice AI j cI]) (cs' := #[.int .i64 k, .string (bs t), .slice AK j cK, .slice AI j cI]) hF sizeOf25 rfl (v := .agg #[.int .i64 k, .string (bs t), .slice AK j cK, .slice AI j cI]) rfl rfl Se rfl Qb rfl ?_
 clear hF; intro w hF hE
 replace hL := hL.store hE (by grind)
 replace hDX := hDX.store hE (by grind)
 clear hE
 replace hF : FR w0 [] ([(b3, .cells #[.int .i64 k, .string (bs t), .slice AK j cK, .slice AI j cI] 25), (b2, .cells #[.int .i64 k, .string (bs t), .slice AK j cK, .slice AI j cI] 25), (b1, .cells #[.int .i64 k, .string (bs t), .slice A ks.length c, .slice B xs.length e] 25)] ++ (sq ++ (si ++ []))) w := hF
 refine Da ?_
 refine Pb (Ob (Qa (Qk rfl (l := [.int .i64 k, .string (bs t), .slice AK j cK, .slice AI j cI]) rfl isAgg25 sizeOf25 rfl (hF.cellsAll 1 rfl)) ?_))
 refine ⟨_, rfl, ?_, hF.same⟩
 have h1 := hlp.length_eq
 rw [List.length_drop, Lf] at h1
 have ej : j = ks.length := by omega
 subst ej
 rw [List.take_of_length_le (by rw [Mn]; exact Nat.le_refl _)] at hDX
 rw [List.take_of_length_le (by rw [Lf]; exact Nat.le_refl _)] at hSq
 rw [Mh, if_pos (show k = 6 by omega)]
 have hKX : RX w0 [] w ((Sf ks).map Wn) _ := T4 hks2
 exact Rep.tree_mk hk ht (hSq.rep (pre := [_, _, _]) (post := si ++ []) hF hKX (by rw [List.length_map, Lf])) (hSi.rep (pre := [_, _, _] ++ sq) (post := []) (by simpa using hF) hDX (by rw [Hg]; exact Mn ..))
 refine Ea (Ea (Ea (Ca (Dc rfl rfl) (Da (Xe rfl ?_)))))
 refine Oc (Nc rfl ?_)
 refine Ja (Ha (Uc (Bi isAgg25 sizeOf25 rfl hF.F 0 rfl rfl) ?_))
 refine Pe 1 (l := [.int .i64 k, .string (bs t), .slice AK j cK, .slice AI j cI]) (cs' := #[.int .i64 k, .string (bs t), .slice AK j cK, .slice AI j cI]) hF sizeOf25 rfl (v := .agg #[.int .i64 k, .string (bs t), .slice AK j cK, .slice AI j cI]) rfl rfl Se rfl Qb rfl ?_
 clear hF; intro w hF hE
 replace hL := hL.store hE (by grind)
 replace hDX := hDX.store hE (by grind)
 clear hE
 replace hF : FR w0 [] ([(b3, .cells #[.int .i64 k, .string (bs t), .slice AK j cK, .slice AI j cI] 25), (b2, .cells #[.int .i64 k, .string (bs t), .slice AK j cK, .slice AI j cI] 25), (b1, .cells #[.int .i64 k, .string (bs t), .slice A ks.length c, .slice B xs.length e] 25)] ++ (sq ++ (si ++ []))) w := hF
 refine Da ?_
 refine Pb (Ob (Qa (Qk rfl (l := [.int .i64 k, .string (bs t), .slice AK j cK, .slice AI j cI]) rfl isAgg25 sizeOf25 rfl (hF.cellsAll 1 rfl)) ?_))
 refine ⟨_, rfl, ?_, hF.same⟩
 have h1 := hlp.length_eq
 rw [List.length_drop, Lf] at h1
 have ej : j = ks.length := by omega
 subst ej
 rw [List.take_of_length_le (by rw [Mn]; exact Nat.le_refl _)] at hDX
 rw [List.take_of_length_le (by rw [Lf]; exact Nat.le_refl _)] at hSq
 rw [Mh, if_pos (show k = 6 by omega)]
 have hKX : RX w0 [] w ((Sf ks).map Wn) _ := T4 hks2
 exact Rep.tree_mk hk ht (hSq.rep (pre := [_, _, _]) (post := si ++ []) hF hKX (by rw [List.length_map, Lf])) (hSi.rep (pre := [_, _, _] ++ sq) (post := []) (by simpa using hF) hDX (by rw [Hg]; exact Mn ..))
 refine Ea (Ea (Ea (Ca (Dc rfl rfl) (Da (Xe rfl ?_)))))
 refine Oc (Nc rfl ?_)
 refine Ja (Ia (Ha (Ca (Kb rfl) (Da (Db ?_)))))
 obtain rfl : j = 0 := hk6 (by assumption)
 simp only [List.take_zero, Je] at hDX
 obtain rfl := RepL.nil_inv hDX
 refine Xc (fun μ σ w => ∃ (i2 : Nat), ∃ (AJ : Option Addr), ∃ (cJ : Nat), ∃ (sj : List (Nat × Obj)), ∃ (cs2 : List Value), μ = xs.length - i2 ∧ (i2 ≤ xs.length) ∧ (SlB 25 4 AJ i2 cJ cs2 sj) ∧ (RX w0 ([b3, b2, b1] ++ (sq.map (·.1) ++ sj.map (·.1))) w (Je (Jg (xs.take i2))) cs2) ∧ AllEq σ [(1, .pointer (some ⟨b1, 0, none⟩)), (2, .pointer (some ⟨b2, 0, none⟩)), (3, .pointer (some ⟨b3, 0, none⟩)), (7, .int .i64 ((i2 : Int)))] ∧ FR w0 [] ([(b3, .cells #[.int .i64 k, .string (bs t), .slice AK 0 cK, .slice AJ i2 cJ] 25), (b2, .cells #[.int .i64 0, .string (bs []), .slice none 0 0, .slice none 0 0] 25), (b1, .cells #[.int .i64 k, .string (bs t), .slice A ks.length c, .slice B xs.length e] 25)] ++ (sq ++ (sj ++ []))) w) _ ⟨0, AI, cI, si, [], rfl, (Nat.zero_le _), (hSi), (RX.nil), An, hF⟩ ?_
 clear hF; rintro μ σ w ⟨i2, AJ, cJ, sj, cs2, rfl, hi2, hSj, hDX, hs, hF⟩
 refine Cg.slots hs ?_
 clear hs; intro σ
 refine Ia (Ha (Ca (Za rfl) (Ca (Fc Vc rfl) (Uc (Mf isAgg23 rfl hF.F 2 rfl rfl) (Ca (Ji underlying23 rfl) (Ca (Fj rfl rfl) (Ca (Jc rfl) ?_)))))))
 refine Mb (d := 80) rfl (fun hg6 => ?_) (fun hg6 => ?_)
 refine Ca (Fc Ke rfl) (Uc (Nm isAgg3 rfl hF.F 2 rfl rfl) (Ca (Vs rfl rfl) (Ca (Lc rfl rfl) (Da ?_))))
 refine Bc rfl rfl (fun hc3 => ?_) (fun hc3 => ?_)
 refine Ra (Ja (Ia (Db ?_)))
 refine De [11] (.free 0 (.free 1 (.free 2 (.free 3 (.free 4 (.free 5 (.free 6 (.act 7 (.act 8 (.act 9 (.free 10 (.act 11 .nil)))))))))))) hF ?_
 clear hF; intro w hF hE
 replace hDX := hDX.ext hE
 clear hE
 refine ⟨fun wq => FR w0 [] [(b3, .cells #[.int .i64 k, .string (bs t), .slice AK 0 cK, .slice AJ i2 cJ] 25), (b2, .cells #[.int .i64 0, .string (bs []), .slice none 0 0, .slice none 0 0] 25), (b1, .cells #[.int .i64 k, .string (bs t), .slice A ks.length c, .slice B xs.length e] 25)] wq, hF.sub (.cons_cons _ (.cons_cons _ (.cons_cons _ (List.nil_sublist _)))), ?_⟩
 refine Eb rfl (Fc Vc rfl) (Bk rfl (Mf isAgg23 rfl C0 0 rfl rfl) (Eb rfl (Fc Vc rfl) (Bk rfl (Mf isAgg23 rfl C0 2 rfl rfl) (Eb rfl (Za rfl) ?_))))
 obtain ⟨ad7, cs7, hA7, hl7, hk7, hx7⟩ := hX.tree_elem (i := i2) by_Om
 have ho7 := hx7.one_
 refine Ib rfl (v := .pointer (some (ad7.add (i2 * 4)))) (fun w hC => Ya (i := (i2 : Int)) Sj rfl hA7 rfl by_Om by_Om) (Ib rfl (v := .agg (List.toArray cs7)) (fun w hC => Rb (l := cs7) isAgg25 sizeOf25 rfl hl7 (hC.cells0 hk7)) ?_)
 refine Xf rfl (ih xs[i2] (List.getElem_mem by_Om) _ _ cs7 (hF.rep hx7) (hnx.2 _ (List.getElem_mem by_Om)) (by have := If (List.getElem_mem (l := xs) (n := i2) by_Om); omega)) (Ua EG rfl rfl) ?_
 rintro _ w ⟨ct, rfl, hRt, hE⟩
 have hlt : ct.length = 4 := hRt.length.trans (Ac _)
 have hot := hRt.one_
 have hYX := RX.made (ids := [b3, b2, b1] ++ (sq.map (·.1) ++ sj.map (·.1))) hF.same.size (fun x hx => hF.lt_ids (by grind)) hRt
 replace hDX := (hDX.ext hE).append hYX
 replace hF := hF.ext hE
 clear hE hYX
 refine ⟨hF.sub (.cons_cons _ (.cons_cons _ (.cons_cons _ (List.nil_sublist _)))), ?_⟩
 refine Xb 1 rfl hF (Ul (l := ct) underlying23 sizeOf25 zeroValue25 Oa Oa rfl hlt) ?_
 clear hF; intro b7 w hb7 hF hE
 replace hDX := hDX.alloc hE hb7
 clear hE
 refine ⟨hF.sub (.cons _ (.cons_cons _ (.cons_cons _ (.cons_cons _ (List.nil_sublist _))))), ?_⟩
 refine Bf ([(b7, .cells (List.toArray ct) 25), (b3, .cells #[.int .i64 k, .string (bs t), .slice AK 0 cK, .slice AJ i2 cJ] 25), (b2, .cells #[.int .i64 0, .string (bs []), .slice none 0 0, .slice none 0 0] 25), (b1, .cells #[.int .i64 k, .string (bs t), .slice A ks.length c, .slice B xs.length e] 25)] ++ sq) [] (news := ct) (len' := i2 + 1) (ys := cs2 ++ ct) rfl RA hF hSj rfl rfl (by rw [hlt]) (fun _ => ⟨_, rfl, Qc (hF.cellsAll 0 rfl)⟩) (Cu hot) (by simp only [maxLen]; omega) (rfl) (rfl) by_Om ?_
 clear hF; intro A8 c8 i_8 w hS8_i hF hE hnew
 replace hDX := hDX.step (ids' := [b7, b3, b2, b1] ++ (sq.map (·.1) ++ i_8.map (·.1))) hE (by grind) (by grind)
 clear hE hnew
 refine ⟨hF.sub (.cons _ (.cons_cons _ (.cons_cons _ (.cons_cons _ (List.nil_sublist _))))), ?_⟩
 refine Eb rfl (Fc Vc rfl) ?_
 refine Fh rfl 1 (l := [.slice (A8) (i2 + 1) (c8)]) (cs' := #[.int .i64 k, .string (bs t), .slice AK 0 cK, .slice (A8) (i2 + 1) (c8)]) hF sizeOf23 rfl (v := .slice (A8) (i2 + 1) (c8)) rfl rfl Se rfl Qb rfl ?_
 clear hF; intro w hF hE
 replace hDX := hDX.store hE (by grind)
 clear hE
 replace hF : FR w0 [] ([(b7, .cells (List.toArray ct) 25), (b3, .cells #[.int .i64 k, .string (bs t), .slice AK 0 cK, .slice (A8) (i2 + 1) (c8)] 25), (b2, .cells #[.int .i64 0, .string (bs []), .slice none 0 0, .slice none 0 0] 25), (b1, .cells #[.int .i64 k, .string (bs t), .slice A ks.length c, .slice B xs.length e] 25)] ++ (sq ++ (i_8 ++ []))) w := hF
 refine Ic (Wb (Ja (Ga (Ca (Za rfl) (Ca (Di (((i2 + 1 : Nat) : Int)) rfl rfl) (Ca (Kb rfl) (Cb ?_)))))))
 refine Gb ⟨_, ?_, i2 + 1, A8, c8, i_8, cs2 ++ ct, rfl, by_Om, (hS8_i), (by rw [Gx by_Om]; exact hDX.sub (by grind)), An, hF.drop 1⟩
 omega
 refine Oc (Nc rfl ?_)
 refine Ja (Ha (Uc (Bi isAgg25 sizeOf25 rfl hF.F 0 rfl rfl) ?_))
 refine Pe 1 (l := [.int .i64 k, .string (bs t), .slice AK 0 cK, .slice AJ i2 cJ]) (cs' := #[.int .i64 k, .string (bs t), .slice AK 0 cK, .slice AJ i2 cJ]) hF sizeOf25 rfl (v := .agg #[.int .i64 k, .string (bs t), .slice AK 0 cK, .slice AJ i2 cJ]) rfl rfl Se rfl Qb rfl ?_
 clear hF; intro w hF hE
 replace hDX := hDX.store hE (by grind)
 clear hE
 replace hF : FR w0 [] ([(b3, .cells #[.int .i64 k, .string (bs t), .slice AK 0 cK, .slice AJ i2 cJ] 25), (b2, .cells #[.int .i64 k, .string (bs t), .slice AK 0 cK, .slice AJ i2 cJ] 25), (b1, .cells #[.int .i64 k, .string (bs t), .slice A ks.length c, .slice B xs.length e] 25)] ++ (sq ++ (sj ++ []))) w := hF
 refine Da ?_
 refine Pb (Ob (Qa (Qk rfl (l := [.int .i64 k, .string (bs t), .slice AK 0 cK, .slice AJ i2 cJ]) rfl isAgg25 sizeOf25 rfl (hF.cellsAll 1 rfl)) ?_))
 refine ⟨_, rfl, ?_, hF.same⟩
 have ej : i2 = xs.length := by omega
 subst ej
 rw [List.take_length] at hDX
 rw [Mh, if_neg (by assumption)]
 exact Rep.tree_mk hk ht (hSq.rep (pre := [_, _, _]) (post := sj ++ []) hF (RX.nil (ids := [])) rfl) (hSj.rep (pre := [_, _, _] ++ sq) (post := []) (by simpa using hF) hDX (by rw [Hg, Aj, List.length_map]))
 refine Ea (Ea (Ea (Ca (Dc rfl rfl) (Da (Xe rfl ?_)))))
 refine Oc (Nc rfl ?_)
 refine Ja (Ha (Uc (Bi isAgg25 sizeOf25 rfl hF.F 0 rfl rfl) ?_))
 refine Pe 1 (l := [.int .i64 k, .string (bs t), .slice AK 0 cK, .slice AJ i2 cJ]) (cs' := #[.int .i64 k, .string (bs t), .slice AK 0 cK, .slice AJ i2 cJ]) hF sizeOf25 rfl (v := .agg #[.int .i64 k, .string (bs t), .slice AK 0 cK, .slice AJ i2 cJ]) rfl rfl Se rfl Qb rfl ?_
 clear hF; intro w hF hE
 replace hDX := hDX.store hE (by grind)
 clear hE
 replace hF : FR w0 [] ([(b3, .cells #[.int .i64 k, .string (bs t), .slice AK 0 cK, .slice AJ i2 cJ] 25), (b2, .cells #[.int .i64 k, .string (bs t), .slice AK 0 cK, .slice AJ i2 cJ] 25), (b1, .cells #[.int .i64 k, .string (bs t), .slice A ks.length c, .slice B xs.length e] 25)] ++ (sq ++ (sj ++ []))) w := hF
 refine Da ?_
 refine Pb (Ob (Qa (Qk rfl (l := [.int .i64 k, .string (bs t), .slice AK 0 cK, .slice AJ i2 cJ]) rfl isAgg25 sizeOf25 rfl (hF.cellsAll 1 rfl)) ?_))
 refine ⟨_, rfl, ?_, hF.same⟩
 have ej : i2 = xs.length := by omega
 subst ej
 rw [List.take_length] at hDX
 rw [Mh, if_neg (by assumption)]
 exact Rep.tree_mk hk ht (hSq.rep (pre := [_, _, _]) (post := sj ++ []) hF (RX.nil (ids := [])) rfl) (hSj.rep (pre := [_, _, _] ++ sq) (post := []) (by simpa using hF) hDX (by rw [Hg, Aj, List.length_map]))
theorem WH (x : Tree) : Z8 x := Tree.ind U9 x
end Go.Scarf
