/- A part of the proof. -/
import Derived.Test.YtepbomjpbdbejaaGreatDoorA15
import Derived.Test.YtepbomjpbdbejaaGreatDoorA9
set_option linter.all false
set_option maxHeartbeats 8000000
set_option maxRecDepth 10000
namespace Go.Scarf
open Go.RowKit Go.Proofs Go.Proofs.Tryz
theorem E0 {P : Program} {ρ : Operand → Value} {o : Oper} {w w' : World} {b c : Bool} (h : (execOp ρ o).run P w = .ok (.value (.bool b)) w') (hb : b = c) : (execOp ρ o).run P w = .ok (.value (.bool c)) w' := by rw [h, hb]
theorem Oy (w0 : World) (hG : Gl w0) (n : Int) (m : List (Int × Int)) (A : Option Addr) (c : Nat) (hX : Rep (fun _ => True) w0 (Re m) [.slice A m.length c]) (size : Int) (hm : m.length ≤ 100) : Calls prog 4 #[.int .i64 n, .slice A m.length c, .int .i64 size] w0 (Md fun v w' => v = .bool true ∧ Same [] w0 w') := by
 have hXl := hX.pairs_len
 obtain ⟨N, G, hN, hga, hgb⟩ := EB n m size hm
 obtain ⟨L, hia, hib⟩ := E7 n m hm (fun z hz => by obtain ⟨i, hi, rfl⟩ := List.getElem_of_mem hz; obtain ⟨_, _, _, _, h⟩ := hX.pair_elem hi; exact h.2)
 refine Ka func4 rfl ntmps4 Gb (Pi _ _ _) ?_
 have hF := FR.start w0 []
 refine Ma (Ca (Hc rfl) (Cc ?_))
 refine Rb hF (Oz _ (hG.ext hF.same)) (K_ YK rfl) ?_
 clear hF; intro w hF
 refine Ca (Hc rfl) (Fa (Ja (Ma (Ca (Pd rfl) (Ca (Lf underlying29 rfl) (Ia (v := .bool false) (Ld (Ox rfl rfl) by_Om) (Fa (Jr rfl ?_))))))))
 refine Ma (Ca (Hb rfl) (Ca (Pd rfl) (Ca (Hb rfl) ?_)))
 refine Eb (hga _ _ _ _ (hF.rep hX)) (Bc J9 rfl rfl rfl rfl) ?_
 rintro _ w ⟨Z1, z1, rfl, hr1, hE⟩
 replace hF := hF.ext hE
 clear hE
 refine Ca (Gn rfl) (Ca (R5 rfl rfl) (Ca (Wp rfl rfl) (Ca (Mh rfl) (Ca (Hc rfl) (Cc (Ca (Hb rfl) (Ca (Pd rfl) (Ca (Hb rfl) ?_))))))))
 refine Eb (hgb _ _ _ _ (hF.rep hX)) (Bc HM rfl rfl rfl rfl) ?_
 rintro _ w ⟨Z2, z2, rfl, hr2, hE⟩
 replace hF := hF.ext hE
 replace hr1 := hr1.ext hE
 clear hE
 refine Ca (Gn rfl) (Ca (R5 rfl rfl) (Ca (Wp rfl rfl) (Ca (Mh rfl) (Ca (Hc rfl) (Cc (Ca (Hb rfl) (Ca (Pd rfl) ?_)))))))
 refine Eb (hia _ _ _ _ (hF.rep hX)) (Mb M_ rfl rfl rfl) ?_
 rintro _ w ⟨Z3, z3, rfl, hr3, hE⟩
 replace hF := hF.ext hE
 replace hr1 := hr1.ext hE
 replace hr2 := hr2.ext hE
 clear hE
 refine Ca (Gn rfl) (Ca (R5 rfl rfl) (Ca (Wp rfl rfl) (Ca (Mh rfl) (Ca (Hc rfl) (Cc (Ca (Hb rfl) (Ca (Pd rfl) ?_)))))))
 refine Eb (hib _ _ _ _ (hF.rep hX)) (Mb LM rfl rfl rfl) ?_
 rintro _ w ⟨Z4, z4, rfl, hr4, hE⟩
 replace hF := hF.ext hE
 replace hr1 := hr1.ext hE
 replace hr2 := hr2.ext hE
 replace hr3 := hr3.ext hE
 clear hE
 refine Ca (Gn rfl) (Ca (R5 rfl rfl) (Ca (Wp rfl rfl) (Ca (Mh rfl) (Ca (Hc rfl) (Fa (Ja (Ma (Ca (Kd rfl) (Ca (Kd rfl) (Ia (v := .bool false) (E0 (UD underlying4 rfl rfl) (bne_self_eq_false _)) (Ca (Kd rfl) ?_)))))))))))
 refine Ca (Kd rfl) (Ca (Kd rfl) (Ia (v := .bool false) (E0 (UD underlying4 rfl rfl) (bne_self_eq_false _)) (Ca (Fd rfl rfl) (Ca (Kd rfl) (Ca (Pd rfl) (Ca (Lf underlying36 rfl) (Ca (Pd rfl) (Ca (Lf underlying36 rfl) (Ia (v := .bool false) (Ld (I3 rfl rfl) by_Om) (Ca (Fd rfl rfl) (Ca (Kd rfl) (Ca (Pd rfl) (Ca (Pd rfl) ?_)))))))))))))
 refine Eb (Oe (v' := .bool true) (Jk _ _ _ (L) (L) _ _ _ _ hr3 hr4) (congrArg Value.bool (decide_eq_true rfl))) (Mb Zn rfl rfl rfl) ?_
 rintro _ w ⟨rfl, hE⟩
 replace hF := hF.ext hE
 replace hr1 := hr1.ext hE
 replace hr2 := hr2.ext hE
 replace hr3 := hr3.ext hE
 replace hr4 := hr4.ext hE
 clear hE
 refine Ca (On (b := true) rfl) (Ca (Fd rfl rfl) (Fa (Jr rfl (Ja (Ma (Ca (Pc rfl) (Fa (Ya ?_))))))))
 refine Uc (fun μ σ w => ∃ (i : Nat), μ = N - i ∧ (i ≤ N) ∧ (Rep (fun _ => True) w (Io N G) [.slice Z1 N z1]) ∧ (Rep (fun _ => True) w (Io N G) [.slice Z2 N z2]) ∧ AllEq σ [(7, .bool true), (8, .slice Z1 N z1), (10, .slice Z2 N z2), (16, .int .i64 ((i : Int)))] ∧ FR w0 [] [] w) _ ⟨0, rfl, (Nat.zero_le _), (hr1), (hr2), Dq, hF⟩ ?_
 clear hF; rintro μ σ w ⟨i, rfl, hi, hr1, hr2, hs, hF⟩
 refine Cg.slots hs ?_
 clear hs; intro σ
 refine Ja (Ma (Ca (Hb rfl) (Ca (Pd rfl) (Ca (Lf underlying36 rfl) (Ca (Yk rfl rfl) (Fa ?_))))))
 refine Kc rfl rfl (fun hc2 => ?_) (fun hc2 => ?_)
 refine Cb (Ha (Ja (Ya (Ja ?_))))
 refine Yc [] (.free 0 (.free 1 (.free 2 (.free 4 (.free 5 (.free 6 (.alt 3 (.act 7 (.act 8 (.free 9 .nil))) (.act 7 (.act 3 (.act 8 (.free 9 .nil))))))))))) hF ?_
 clear hF; intro w hF hE
 replace hr1 := hr1.ext hE
 replace hr2 := hr2.ext hE
 clear hE
 refine ⟨fun wq => FR w0 [] _ wq, hF, ?_⟩
 refine Xa rfl (Pd rfl) (Xa rfl (Hb rfl) ?_)
 obtain ⟨ad0, B0, e0, hA0, hk0, hx0⟩ := hr1.gap_elem (i := i) by_Om
 refine Qa rfl (v := .pointer (some (ad0.add (i * 1)))) (fun w hC => Pa (i := (i : Int)) Uf rfl hA0 rfl by_Om by_Om) (Xa rfl (Pd rfl) (Xa rfl (Hb rfl) ?_))
 obtain ⟨ad1, B1, e1, hA1, hk1, hx1⟩ := hr2.gap_elem (i := i) by_Om
 refine Qa rfl (v := .pointer (some (ad1.add (i * 1)))) (fun w hC => Pa (i := (i : Int)) Uf rfl hA1 rfl by_Om by_Om) ?_
 refine Ji ?_ ?_
 refine Cd rfl (v := .slice (B0) ((G i).length) (e0)) (Wa isAgg39 rfl hk0) (hF) ?_
 refine Cd rfl (v := .slice (B1) ((G i).length) (e1)) (Wa isAgg39 rfl hk1) (hF) ?_
 refine Ce rfl (Oe (v' := .bool true) (Jk _ _ _ (G i) (G i) _ _ _ _ hx0 hx1) (congrArg Value.bool (decide_eq_true rfl))) (Mb Zn rfl rfl rfl) ?_
 rintro _ w ⟨rfl, hE⟩
 replace hF := hF.ext hE
 replace hr1 := hr1.ext hE
 replace hr2 := hr2.ext hE
 clear hE
 refine ⟨hF, ?_⟩
 refine Xa rfl (Hc rfl) (Ac (Ha (Ma (Ca (Kd rfl) (Ca (On (b := true) rfl) (Fa (Qg rfl (Cb (Kb (Ha (Ea ?_)))))))))))
 refine Ca (Hb rfl) (Ca (Di (((i + 1 : Nat) : Int)) rfl rfl) (Ca (Pc rfl) (Fb ?_)))
 refine Dc ⟨_, ?_, i + 1, rfl, by_Om, (hr1), (hr2), Dq, hF⟩
 omega
 refine Cd rfl (v := .slice (B1) ((G i).length) (e1)) (Wa isAgg39 rfl hk1) (hF) ?_
 refine Cd rfl (v := .slice (B0) ((G i).length) (e0)) (Wa isAgg39 rfl hk0) (hF) ?_
 refine Ce rfl (Oe (v' := .bool true) (Jk _ _ _ (G i) (G i) _ _ _ _ hx0 hx1) (congrArg Value.bool (decide_eq_true rfl))) (Mb Zn rfl rfl rfl) ?_
 rintro _ w ⟨rfl, hE⟩
 replace hF := hF.ext hE
 replace hr1 := hr1.ext hE
 replace hr2 := hr2.ext hE
 clear hE
 refine ⟨hF, ?_⟩
 refine Xa rfl (Hc rfl) (Ac (Ha (Ma (Ca (Kd rfl) (Ca (On (b := true) rfl) (Fa (Qg rfl (Cb (Kb (Ha (Ea ?_)))))))))))
 refine Ca (Hb rfl) (Ca (Di (((i + 1 : Nat) : Int)) rfl rfl) (Ca (Pc rfl) (Fb ?_)))
 refine Dc ⟨_, ?_, i + 1, rfl, by_Om, (hr1), (hr2), Dq, hF⟩
 omega
 refine Lc (Jc rfl ?_)
 refine Ha (Ma (Ca (Kd rfl) (Ca (Hc rfl) (Fa ?_))))
 refine Ie (v := .bool true) rfl rfl ?_
 exact ⟨rfl, hF.same⟩
theorem Qx (w0 : World) (hG : Gl w0) (n : Int) (m : List (Int × Int)) (A : Option Addr) (c : Nat) (hX : Rep (fun _ => True) w0 (Re m) [.slice A m.length c]) (size : Int) (hm : ¬ m.length ≤ 100) : Calls prog 4 #[.int .i64 n, .slice A m.length c, .int .i64 size] w0 (Md fun v w' => v = .bool true ∧ Same [] w0 w') := by
 have hXl := hX.pairs_len
 refine Ka func4 rfl ntmps4 Gb (Pi _ _ _) ?_
 have hF := FR.start w0 []
 refine Ma (Ca (Hc rfl) (Cc ?_))
 refine Rb hF (Oz _ (hG.ext hF.same)) (K_ YK rfl) ?_
 clear hF; intro w hF
 refine Ca (Hc rfl) (Fa (Ja (Ma (Ca (Pd rfl) (Ca (Lf underlying29 rfl) (Ia (v := .bool true) (Kf (Ox rfl rfl) by_Om) (Fa (Rd rfl (Ma ?_)))))))))
 refine Ca (Kd rfl) (Ca (Hc rfl) (Fa ?_))
 refine Ie (v := .bool true) rfl rfl ?_
 exact ⟨rfl, hF.same⟩
theorem V3 (w0 : World) (hG : Gl w0) (n : Int) (m : List (Int × Int)) (A : Option Addr) (c : Nat) (hX : Rep (fun _ => True) w0 (Re m) [.slice A m.length c]) (size : Int) : Calls prog 4 #[.int .i64 n, .slice A m.length c, .int .i64 size] w0 (Md fun v w' => v = .bool true ∧ Same [] w0 w') := by
  by_cases hm : m.length ≤ 100
  · exact Oy w0 hG n m A c hX size hm
  · exact Qx w0 hG n m A c hX size hm
end Go.Scarf
