/- A part of the proof. -/
import Derived.Test.YtepbomjpbdbejaaGreatDoorA9
set_option linter.all false
set_option maxHeartbeats 8000000
set_option maxRecDepth 10000
namespace Go.Scarf
open Go.RowKit Go.Proofs Go.Proofs.Tryz
def Sl (n size : Int) : Int × Int → List (Int × Int) → Bool
  | _, [] => true
  | q, z :: m => decide (q.1 < z.1 ∧ q.2 < z.2 ∧ z.1 < n ∧ z.2 < size) && Sl n size z m
def Mf (n : Int) (m : List (Int × Int)) (size : Int) : Bool := Sl n size (-1, -1) m && decide (0 ≤ n ∧ n ≤ 64)
def Br (m : List (Int × Int)) (j : Nat) : Int × Int := if h : 0 < j ∧ j - 1 < m.length then m[j - 1] else (-1, -1)
theorem Ft (m : List (Int × Int)) : Br m 0 = (-1, -1) := by simp [Br]
theorem FE {m : List (Int × Int)} {j : Nat} (h : 0 < j) (h2 : j - 1 < m.length) : Br m j = m[j - 1] := by simp [Br, h, h2]
theorem Yt {m : List (Int × Int)} {j : Nat} (h : j < m.length) : Br m (j + 1) = m[j] := by simp [Br, h]
theorem Wf {n size : Int} {m : List (Int × Int)} {j : Nat} (h : j < m.length) : Sl n size (Br m j) (m.drop j) = (decide ((Br m j).1 < m[j].1 ∧ (Br m j).2 < m[j].2 ∧ m[j].1 < n ∧ m[j].2 < size) && Sl n size (Br m (j + 1)) (m.drop (j + 1))) := by
  rw [List.drop_eq_getElem_cons h, Sl, Yt h]
theorem Np (S : Nat → Prop) (w0 : World) (n : Int) (m : List (Int × Int)) (A : Option Addr) (c : Nat) (hX : Rep S w0 (Re m) [.slice A m.length c]) (size : Int) : Calls prog 32 #[.int .i64 n, .slice A m.length c, .int .i64 size] w0 (Md fun v w' => v = .bool (Mf n m size) ∧ Same [] w0 w') := by
 have hXl := hX.pairs_len
 refine Ka func32 rfl ntmps32 Gb (Pi _ _ _) ?_
 have hF := FR.start w0 []
 refine Ma (Ca (Hc rfl) (Fa (Ja (Ma (Ca (Pc rfl) (Fa (Ya ?_)))))))
 refine Uc (fun μ σ w => ∃ (j : Nat), μ = m.length - j ∧ (j ≤ m.length) ∧ (Sl n size (-1, -1) m = Sl n size (Br m j) (m.drop j)) ∧ (-1 ≤ (Br m j).1 ∧ -1 ≤ (Br m j).2) ∧ AllEq σ [(0, .int .i64 n), (1, .slice A m.length c), (2, .int .i64 size), (7, .int .i64 ((j : Int)))] ∧ FR w0 [] [] w) _ ⟨0, rfl, (Nat.zero_le _), (by rw [Ft]; rfl), (by rw [Ft]; decide), Dq, hF⟩ ?_
 clear hF; rintro μ σ w ⟨j, rfl, hj, hr, hlo, hs, hF⟩
 refine Cg.slots hs ?_
 clear hs; intro σ
 refine Ja (Ma (Ca (Hb rfl) (Ca (Pd rfl) (Ca (Lf underlying29 rfl) (Ca (Yk rfl rfl) (Fa ?_))))))
 refine Kc rfl rfl (fun hc0 => ?_) (fun hc0 => ?_)
 refine Cb (Ha (Ja (Ya (Ja ?_))))
 have hpp : (j = 0 ∧ Br m j = (-1, -1)) ∨ (0 < j ∧ ∃ h : j - 1 < m.length, Br m j = m[j - 1]) := by rcases Nat.eq_zero_or_pos j with h | h; (exact .inl ⟨h, by rw [h, Ft]⟩); (exact .inr ⟨h, by omega, FE h by_Om⟩)
 refine Hg (zs := []) (.free 0 (.free 1 (.free 2 (.free 3 (.free 4 (.free 5 (.free 6 (.free 7 (.free 8 (.free 9 (.free 10 (.free 11 (.free 12 (.free 13 (.free 14 (.free 15 (.free 16 (.free 17 (.free 18 (.free 19 (.free 20 (.free 21 (.free 22 (.free 23 (.free 24 (.free 25 (.free 26 (.free 27 (.free 28 (.free 29 (.free 30 (.free 31 (.free 32 (.free 33 (.free 34 (.free 35 (.free 36 (.free 37 (.free 38 (.free 39 (.free 40 (.free 41 (.free 42 (.free 43 (.free 44 (.free 45 (.free 46 (.free 47 (.free 48 (.free 49 (.free 50 (.free 51 (.free 52 (.free 53 (.free 54 (.free 55 (.free 56 (.free 57 (.free 58 (.free 59 (.free 60 (.free 61 (.free 62 (.free 63 .nil)))))))))))))))))))))))))))))))))))))))))))))))))))))))))))))))) hF ?_
 clear hF; intro w hF
 refine Xa rfl (Pd rfl) (Xa rfl (Hb rfl) ?_)
 obtain ⟨ad0, hA0, hk0, hx0⟩ := hX.pair_elem (i := j) by_Om
 refine Qa rfl (v := .pointer (some (ad0.add (j * 2)))) (fun w hC => Pa (i := (j : Int)) Bi rfl hA0 rfl by_Om by_Om) (Qa rfl (v := .pointer (some ((ad0.add (j * 2)).add 0))) (fun w hC => Tc (a := ad0.add (j * 2)) Aj rfl) (Qa rfl (v := .int .i64 ((m[j]).1)) (fun w hC => Wa isAgg3 rfl (hC.cell0 (hk0 0 Gb))) (Xa rfl (Yk rfl rfl) (Xa rfl (Kd rfl) ?_))))
 refine Lg (d := 20) rfl (fun hg1 => ?_) (fun hg1 => ?_)
 refine Sa rfl ?_
 refine Sa rfl ?_
 refine Sa rfl ?_
 refine Sa rfl ?_
 refine Sa rfl ?_
 refine Sa rfl ?_
 refine Sa rfl ?_
 refine Xa rfl (Rc rfl rfl) (Xa rfl (Kd rfl) ?_)
 refine Sa rfl ?_
 refine Sa rfl ?_
 refine Sa rfl ?_
 refine Sa rfl ?_
 refine Sa rfl ?_
 refine Sa rfl ?_
 refine Xa rfl (Rc rfl rfl) (Xa rfl (Kd rfl) ?_)
 refine Sa rfl ?_
 refine Sa rfl ?_
 refine Sa rfl ?_
 refine Sa rfl ?_
 refine Sa rfl ?_
 refine Sa rfl ?_
 refine Sa rfl ?_
 refine Xa rfl (Rc rfl rfl) (Xa rfl (Kd rfl) ?_)
 refine Sa rfl ?_
 refine Sa rfl ?_
 refine Sa rfl ?_
 refine Sa rfl ?_
 refine Sa rfl ?_
 refine Sa rfl ?_
 refine Sa rfl ?_
 refine Sa rfl ?_
 refine Sa rfl ?_
 refine Sa rfl ?_
 refine Sa rfl ?_
 refine Sa rfl ?_
 refine Sa rfl ?_
 refine Sa rfl ?_
 refine Sa rfl ?_
 refine Sa rfl ?_
 refine Sa rfl ?_
 refine Sa rfl ?_
 refine Sa rfl ?_
 refine Sa rfl ?_
 refine Sa rfl ?_
 refine Sa rfl ?_
 refine Sa rfl ?_
 refine Sa rfl ?_
 refine Sa rfl ?_
 refine Sa rfl ?_
 refine Sa rfl ?_
 refine Sa rfl ?_
 refine Sa rfl ?_
 refine Sa rfl ?_
 refine Xa rfl (Rc rfl rfl) (Ac (Ha (Rd rfl (Ma (Ca (Hc rfl) (Fa ?_))))))
 refine Ie (v := .bool false) rfl rfl ?_
 exact ⟨congrArg Value.bool (Eq.symm (by rw [Mf, hr, Wf (j := j) by_Om, decide_eq_false (by rcases hpp with ⟨h1, h2⟩ | ⟨h1, h3, h2⟩ <;> rw [h2] at hlo ⊢ <;> simp only [not_and] <;> omega), Bool.false_and, Bool.false_and])), hF.same⟩
 refine Xa rfl (Pd rfl) (Xa rfl (Hb rfl) ?_)
 obtain ⟨ad2, hA2, hk2, hx2⟩ := hX.pair_elem (i := j) by_Om
 refine Qa rfl (v := .pointer (some (ad2.add (j * 2)))) (fun w hC => Pa (i := (j : Int)) Bi rfl hA2 rfl by_Om by_Om) (Qa rfl (v := .pointer (some ((ad2.add (j * 2)).add 0))) (fun w hC => Tc (a := ad2.add (j * 2)) Aj rfl) (Qa rfl (v := .int .i64 ((m[j]).1)) (fun w hC => Wa isAgg3 rfl (hC.cell0 (hk2 0 Gb))) (Xa rfl (Hb rfl) (Xa rfl (X8 rfl rfl) (Xa rfl (Fd rfl rfl) (Xa rfl (Kd rfl) ?_))))))
 refine Lg (d := 29) rfl (fun hg3 => ?_) (fun hg3 => ?_)
 refine Sa rfl ?_
 refine Sa rfl ?_
 refine Sa rfl ?_
 refine Sa rfl ?_
 refine Sa rfl ?_
 refine Sa rfl ?_
 refine Xa rfl (Rc rfl rfl) (Xa rfl (Kd rfl) ?_)
 refine Sa rfl ?_
 refine Sa rfl ?_
 refine Sa rfl ?_
 refine Sa rfl ?_
 refine Sa rfl ?_
 refine Sa rfl ?_
 refine Sa rfl ?_
 refine Xa rfl (Rc rfl rfl) (Xa rfl (Kd rfl) ?_)
 refine Sa rfl ?_
 refine Sa rfl ?_
 refine Sa rfl ?_
 refine Sa rfl ?_
 refine Sa rfl ?_
 refine Sa rfl ?_
 refine Sa rfl ?_
 refine Sa rfl ?_
 refine Sa rfl ?_
 refine Sa rfl ?_
 refine Sa rfl ?_
 refine Sa rfl ?_
 refine Sa rfl ?_
 refine Sa rfl ?_
 refine Sa rfl ?_
 refine Sa rfl ?_
 refine Sa rfl ?_
 refine Sa rfl ?_
 refine Sa rfl ?_
 refine Sa rfl ?_
 refine Sa rfl ?_
 refine Sa rfl ?_
 refine Sa rfl ?_
 refine Sa rfl ?_
 refine Sa rfl ?_
 refine Sa rfl ?_
 refine Sa rfl ?_
 refine Sa rfl ?_
 refine Sa rfl ?_
 refine Sa rfl ?_
 refine Xa rfl (Rc rfl rfl) (Ac (Ha (Rd rfl (Ma (Ca (Hc rfl) (Fa ?_))))))
 refine Ie (v := .bool false) rfl rfl ?_
 exact ⟨congrArg Value.bool (Eq.symm (by rw [Mf, hr, Wf (j := j) by_Om, decide_eq_false (by rcases hpp with ⟨h1, h2⟩ | ⟨h1, h3, h2⟩ <;> rw [h2] at hlo ⊢ <;> simp only [not_and] <;> omega), Bool.false_and, Bool.false_and])), hF.same⟩
 refine Xa rfl (Pd rfl) (Xa rfl (Hb rfl) ?_)
 obtain ⟨ad4, hA4, hk4, hx4⟩ := hX.pair_elem (i := j) by_Om
 refine Qa rfl (v := .pointer (some (ad4.add (j * 2)))) (fun w hC => Pa (i := (j : Int)) Bi rfl hA4 rfl by_Om by_Om) (Qa rfl (v := .pointer (some ((ad4.add (j * 2)).add 1))) (fun w hC => Tc (a := ad4.add (j * 2)) Jg rfl) (Qa rfl (v := .int .i64 ((m[j]).2)) (fun w hC => Wa isAgg3 rfl (hC.cell0 (hk4 1 Gb))) (Xa rfl (Yk rfl rfl) (Xa rfl (Fd rfl rfl) (Xa rfl (Kd rfl) ?_)))))
 refine Lg (d := 37) rfl (fun hg5 => ?_) (fun hg5 => ?_)
 refine Sa rfl ?_
 refine Sa rfl ?_
 refine Sa rfl ?_
 refine Sa rfl ?_
 refine Sa rfl ?_
 refine Sa rfl ?_
 refine Sa rfl ?_
 refine Xa rfl (Rc rfl rfl) (Xa rfl (Kd rfl) ?_)
 refine Sa rfl ?_
 refine Sa rfl ?_
 refine Sa rfl ?_
 refine Sa rfl ?_
 refine Sa rfl ?_
 refine Sa rfl ?_
 refine Sa rfl ?_
 refine Sa rfl ?_
 refine Sa rfl ?_
 refine Sa rfl ?_
 refine Sa rfl ?_
 refine Sa rfl ?_
 refine Sa rfl ?_
 refine Sa rfl ?_
 refine Sa rfl ?_
 refine Sa rfl ?_
 refine Sa rfl ?_
 refine Sa rfl ?_
 refine Sa rfl ?_
 refine Sa rfl ?_
 refine Sa rfl ?_
 refine Sa rfl ?_
 refine Sa rfl ?_
 refine Sa rfl ?_
 refine Sa rfl ?_
 refine Sa rfl ?_
 refine Sa rfl ?_
 refine Sa rfl ?_
 refine Sa rfl ?_
 refine Sa rfl ?_
 refine Xa rfl (Rc rfl rfl) (Ac (Ha (Rd rfl (Ma (Ca (Hc rfl) (Fa ?_))))))
 refine Ie (v := .bool false) rfl rfl ?_
 exact ⟨congrArg Value.bool (Eq.symm (by rw [Mf, hr, Wf (j := j) by_Om, decide_eq_false (by rcases hpp with ⟨h1, h2⟩ | ⟨h1, h3, h2⟩ <;> rw [h2] at hlo ⊢ <;> simp only [not_and] <;> omega), Bool.false_and, Bool.false_and])), hF.same⟩
 refine Xa rfl (Pd rfl) (Xa rfl (Hb rfl) ?_)
 obtain ⟨ad6, hA6, hk6, hx6⟩ := hX.pair_elem (i := j) by_Om
 refine Qa rfl (v := .pointer (some (ad6.add (j * 2)))) (fun w hC => Pa (i := (j : Int)) Bi rfl hA6 rfl by_Om by_Om) (Qa rfl (v := .pointer (some ((ad6.add (j * 2)).add 1))) (fun w hC => Tc (a := ad6.add (j * 2)) Jg rfl) (Qa rfl (v := .int .i64 ((m[j]).2)) (fun w hC => Wa isAgg3 rfl (hC.cell0 (hk6 1 Gb))) (Xa rfl (Hb rfl) (Xa rfl (X8 rfl rfl) (Xa rfl (Fd rfl rfl) (Xa rfl (Kd rfl) ?_))))))
 refine Lg (d := 46) rfl (fun hg7 => ?_) (fun hg7 => ?_)
 refine Sa rfl ?_
 refine Sa rfl ?_
 refine Sa rfl ?_
 refine Sa rfl ?_
 refine Sa rfl ?_
 refine Sa rfl ?_
 refine Sa rfl ?_
 refine Sa rfl ?_
 refine Sa rfl ?_
 refine Sa rfl ?_
 refine Sa rfl ?_
 refine Sa rfl ?_
 refine Sa rfl ?_
 refine Sa rfl ?_
 refine Sa rfl ?_
 refine Sa rfl ?_
 refine Sa rfl ?_
 refine Sa rfl ?_
 refine Sa rfl ?_
 refine Sa rfl ?_
 refine Sa rfl ?_
 refine Sa rfl ?_
 refine Sa rfl ?_
 refine Sa rfl ?_
 refine Sa rfl ?_
 refine Sa rfl ?_
 refine Sa rfl ?_
 refine Sa rfl ?_
 refine Sa rfl ?_
 refine Sa rfl ?_
 refine Xa rfl (Rc rfl rfl) (Ac (Ha (Rd rfl (Ma (Ca (Hc rfl) (Fa ?_))))))
 refine Ie (v := .bool false) rfl rfl ?_
 exact ⟨congrArg Value.bool (Eq.symm (by rw [Mf, hr, Wf (j := j) by_Om, decide_eq_false (by rcases hpp with ⟨h1, h2⟩ | ⟨h1, h3, h2⟩ <;> rw [h2] at hlo ⊢ <;> simp only [not_and] <;> omega), Bool.false_and, Bool.false_and])), hF.same⟩
 refine Xa rfl (Hb rfl) (Xa rfl (Ey rfl rfl) (Xa rfl (Kd rfl) ?_))
 refine Lg (d := 49) rfl (fun hg8 => ?_) (fun hg8 => ?_)
 refine Xa rfl (Pd rfl) (Xa rfl (Hb rfl) ?_)
 obtain ⟨ad9, hA9, hk9, hx9⟩ := hX.pair_elem (i := j) by_Om
 refine Qa rfl (v := .pointer (some (ad9.add (j * 2)))) (fun w hC => Pa (i := (j : Int)) Bi rfl hA9 rfl by_Om by_Om) (Qa rfl (v := .pointer (some ((ad9.add (j * 2)).add 0))) (fun w hC => Tc (a := ad9.add (j * 2)) Aj rfl) (Qa rfl (v := .int .i64 ((m[j]).1)) (fun w hC => Wa isAgg3 rfl (hC.cell0 (hk9 0 Gb))) (Xa rfl (Pd rfl) (Xa rfl (Hb rfl) (Xa rfl (Kr (((j - 1 : Nat) : Int)) rfl rfl) ?_)))))
 obtain ⟨ad10, hA10, hk10, hx10⟩ := hX.pair_elem (i := (j - 1)) by_Om
 refine Qa rfl (v := .pointer (some (ad10.add ((j - 1) * 2)))) (fun w hC => Pa (i := ((j - 1 : Nat) : Int)) Bi rfl hA10 rfl by_Om by_Om) (Qa rfl (v := .pointer (some ((ad10.add ((j - 1) * 2)).add 0))) (fun w hC => Tc (a := ad10.add ((j - 1) * 2)) Aj rfl) (Qa rfl (v := .int .i64 ((m[j - 1]).1)) (fun w hC => Wa isAgg3 rfl (hC.cell0 (hk10 0 Gb))) (Xa rfl (WF rfl rfl) (Xa rfl (Kd rfl) ?_))))
 refine Lg (d := 62) rfl (fun hg11 => ?_) (fun hg11 => ?_)
 refine Sa rfl ?_
 refine Sa rfl ?_
 refine Sa rfl ?_
 refine Sa rfl ?_
 refine Sa rfl ?_
 refine Sa rfl ?_
 refine Sa rfl ?_
 refine Sa rfl ?_
 refine Sa rfl ?_
 refine Sa rfl ?_
 refine Sa rfl ?_
 refine Sa rfl ?_
 refine Xa rfl (Rc rfl rfl) (Xa rfl (Rc rfl rfl) (Xa rfl (Fd rfl rfl) (Ac (Ha (Rd rfl (Ma (Ca (Hc rfl) (Fa ?_))))))))
 refine Ie (v := .bool false) rfl rfl ?_
 exact ⟨congrArg Value.bool (Eq.symm (by rw [Mf, hr, Wf (j := j) by_Om, decide_eq_false (by rcases hpp with ⟨h1, h2⟩ | ⟨h1, h3, h2⟩ <;> rw [h2] at hlo ⊢ <;> simp only [not_and] <;> omega), Bool.false_and, Bool.false_and])), hF.same⟩
 refine Xa rfl (Pd rfl) (Xa rfl (Hb rfl) ?_)
 obtain ⟨ad12, hA12, hk12, hx12⟩ := hX.pair_elem (i := j) by_Om
 refine Qa rfl (v := .pointer (some (ad12.add (j * 2)))) (fun w hC => Pa (i := (j : Int)) Bi rfl hA12 rfl by_Om by_Om) (Qa rfl (v := .pointer (some ((ad12.add (j * 2)).add 1))) (fun w hC => Tc (a := ad12.add (j * 2)) Jg rfl) (Qa rfl (v := .int .i64 ((m[j]).2)) (fun w hC => Wa isAgg3 rfl (hC.cell0 (hk12 1 Gb))) (Xa rfl (Pd rfl) (Xa rfl (Hb rfl) (Xa rfl (Kr (((j - 1 : Nat) : Int)) rfl rfl) ?_)))))
 obtain ⟨ad13, hA13, hk13, hx13⟩ := hX.pair_elem (i := (j - 1)) by_Om
 refine Qa rfl (v := .pointer (some (ad13.add ((j - 1) * 2)))) (fun w hC => Pa (i := ((j - 1 : Nat) : Int)) Bi rfl hA13 rfl by_Om by_Om) (Qa rfl (v := .pointer (some ((ad13.add ((j - 1) * 2)).add 1))) (fun w hC => Tc (a := ad13.add ((j - 1) * 2)) Jg rfl) (Qa rfl (v := .int .i64 ((m[j - 1]).2)) (fun w hC => Wa isAgg3 rfl (hC.cell0 (hk13 1 Gb))) (Xa rfl (WF rfl rfl) (Xa rfl (Fd rfl rfl) (Xa rfl (Rc rfl rfl) (Xa rfl (Fd rfl rfl) (Ac (Ha ?_))))))))
 refine Kc rfl rfl (fun hc1 => ?_) (fun hc1 => ?_)
 refine Ma (Ca (Hc rfl) (Fa ?_))
 refine Ie (v := .bool false) rfl rfl ?_
 exact ⟨congrArg Value.bool (Eq.symm (by rw [Mf, hr, Wf (j := j) by_Om, decide_eq_false (by rcases hpp with ⟨h1, h2⟩ | ⟨h1, h3, h2⟩ <;> rw [h2] at hlo ⊢ <;> simp only [not_and] <;> omega), Bool.false_and, Bool.false_and])), hF.same⟩
 refine Cb (Kb (Ha (Ea (Ca (Hb rfl) (Ca (Di (((j + 1 : Nat) : Int)) rfl rfl) (Ca (Pc rfl) (Fb ?_)))))))
 refine Dc ⟨_, ?_, j + 1, rfl, by_Om, (by rw [hr, Wf (j := j) by_Om, decide_eq_true (by rcases hpp with ⟨h1, h2⟩ | ⟨h1, h3, h2⟩ <;> rw [h2] <;> (try simp only) <;> omega), Bool.true_and]), (by rw [Yt by_Om]; omega), Dq, hF⟩
 omega
 refine Sa rfl ?_
 refine Sa rfl ?_
 refine Sa rfl ?_
 refine Sa rfl ?_
 refine Sa rfl ?_
 refine Sa rfl ?_
 refine Sa rfl ?_
 refine Sa rfl ?_
 refine Sa rfl ?_
 refine Sa rfl ?_
 refine Sa rfl ?_
 refine Sa rfl ?_
 refine Sa rfl ?_
 refine Sa rfl ?_
 refine Sa rfl ?_
 refine Sa rfl ?_
 refine Sa rfl ?_
 refine Sa rfl ?_
 refine Sa rfl ?_
 refine Sa rfl ?_
 refine Sa rfl ?_
 refine Sa rfl ?_
 refine Sa rfl ?_
 refine Sa rfl ?_
 refine Sa rfl ?_
 refine Sa rfl ?_
 refine Xa rfl (Fd rfl rfl) (Xa rfl (Fd rfl rfl) (Ac (Ha (Qg rfl (Cb (Kb (Ha (Ea (Ca (Hb rfl) (Ca (Di (((j + 1 : Nat) : Int)) rfl rfl) (Ca (Pc rfl) (Fb ?_))))))))))))
 refine Dc ⟨_, ?_, j + 1, rfl, by_Om, (by rw [hr, Wf (j := j) by_Om, decide_eq_true (by rcases hpp with ⟨h1, h2⟩ | ⟨h1, h3, h2⟩ <;> rw [h2] <;> (try simp only) <;> omega), Bool.true_and]), (by rw [Yt by_Om]; omega), Dq, hF⟩
 omega
 refine Lc (Jc rfl ?_)
 refine Ha (Ma (Ca (Hb rfl) (Ca (X8 rfl rfl) (Ca (Kd rfl) ?_))))
 refine Gd (d := 80) rfl (fun hg14 => ?_) (fun hg14 => ?_)
 refine Ca (Hb rfl) (Ca (WF rfl rfl) (Ca (Rc rfl rfl) (Ca (Hc rfl) (Fa ?_))))
 refine Ie (v := .bool _) rfl rfl ?_
 have ej : j = m.length := by omega
 exact ⟨congrArg Value.bool (by rw [Mf, hr, ej, List.drop_length, Sl, Bool.true_and]; first | exact (decide_eq_true by_Om).symm | exact (decide_eq_false by_Om).symm | exact decide_eq_decide.2 by_Om), hF.same⟩
 refine Ra (Ra (Ca (Fd rfl rfl) (Ca (Hc rfl) (Fa ?_))))
 refine Ie (v := .bool false) rfl rfl ?_
 have ej : j = m.length := by omega
 exact ⟨congrArg Value.bool (by rw [Mf, hr, ej, List.drop_length, Sl, Bool.true_and]; first | exact (decide_eq_true by_Om).symm | exact (decide_eq_false by_Om).symm | exact decide_eq_decide.2 by_Om), hF.same⟩
end Go.Scarf
