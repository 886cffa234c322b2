/- A part of the proof. -/
import Derived.Test.YtepbomjpbdbejaaGreatDoorA9
set_option linter.all false
set_option maxHeartbeats 8000000
set_option maxRecDepth 10000
namespace Go.Scarf
open Go.RowKit Go.Proofs Go.Proofs.Tryz
def Dl (n size : Int) : Int × Int → List (Int × Int) → Bool
  | _, [] => true
  | q, z :: m => decide (q.1 < z.1 ∧ q.2 < z.2 ∧ z.1 < n ∧ z.2 < size) && Dl n size z m
def Wg (n : Int) (m : List (Int × Int)) (size : Int) : Bool := Dl n size (-1, -1) m && decide (0 ≤ n ∧ n ≤ 64)
def Vs (m : List (Int × Int)) (j : Nat) : Int × Int := if h : 0 < j ∧ j - 1 < m.length then m[j - 1] else (-1, -1)
theorem Pv (m : List (Int × Int)) : Vs m 0 = (-1, -1) := by simp [Vs]
theorem FL {m : List (Int × Int)} {j : Nat} (h : 0 < j) (h2 : j - 1 < m.length) : Vs m j = m[j - 1] := by simp [Vs, h, h2]
theorem Yv {m : List (Int × Int)} {j : Nat} (h : j < m.length) : Vs m (j + 1) = m[j] := by simp [Vs, h]
theorem Hg {n size : Int} {m : List (Int × Int)} {j : Nat} (h : j < m.length) : Dl n size (Vs m j) (m.drop j) = (decide ((Vs m j).1 < m[j].1 ∧ (Vs m j).2 < m[j].2 ∧ m[j].1 < n ∧ m[j].2 < size) && Dl n size (Vs m (j + 1)) (m.drop (j + 1))) := by
  rw [List.drop_eq_getElem_cons h, Dl, Yv h]
theorem K4 (S : Nat → Prop) (w0 : World) (n : Int) (m : List (Int × Int)) (A : Option Addr) (c : Nat) (hX : Rep S w0 (Kh m) [.slice A m.length c]) (size : Int) : Calls prog 32 #[.int .i64 n, .slice A m.length c, .int .i64 size] w0 (Rd fun v w' => v = .bool (Wg n m size) ∧ Same [] w0 w') := by
 have hXl := hX.pairs_len
 refine Ma func32 rfl ntmps32 Jb (Yi _ _ _) ?_
 have hF := FR.start w0 []
 refine Ka (Ca (Ec rfl) (Ea (Ia (Ka (Ca (Gc rfl) (Ea (Va ?_)))))))
 refine Uc (fun μ σ w => ∃ (j : Nat), μ = m.length - j ∧ (j ≤ m.length) ∧ (Dl n size (-1, -1) m = Dl n size (Vs m j) (m.drop j)) ∧ (-1 ≤ (Vs m j).1 ∧ -1 ≤ (Vs m j).2) ∧ AllEq σ [(0, .int .i64 n), (1, .slice A m.length c), (2, .int .i64 size), (7, .int .i64 ((j : Int)))] ∧ FR w0 [] [] w) _ ⟨0, rfl, (Nat.zero_le _), (by rw [Pv]; rfl), (by rw [Pv]; decide), Gt, hF⟩ ?_
 clear hF; rintro μ σ w ⟨j, rfl, hj, hr, hlo, hs, hF⟩
 refine Cg.slots hs ?_
 clear hs; intro σ
 refine Ia (Ka (Ca (Hb rfl) (Ca (Md rfl) (Ca (Qe underlying29 rfl) (Ca (Nk rfl rfl) (Ea ?_))))))
 refine Pc rfl rfl (fun hc0 => ?_) (fun hc0 => ?_)
 refine Wa (Ha (Ia (Va (Ia ?_))))
 have hpp : (j = 0 ∧ Vs m j = (-1, -1)) ∨ (0 < j ∧ ∃ h : j - 1 < m.length, Vs m j = m[j - 1]) := by rcases Nat.eq_zero_or_pos j with h | h; (exact .inl ⟨h, by rw [h, Pv]⟩); (exact .inr ⟨h, by omega, FL h by_Om⟩)
 refine Uf (zs := []) (.free 0 (.free 1 (.free 2 (.free 3 (.free 4 (.free 5 (.free 6 (.free 7 (.free 8 (.free 9 (.free 10 (.free 11 (.free 12 (.free 13 (.free 14 (.free 15 (.free 16 (.free 17 (.free 18 (.free 19 (.free 20 (.free 21 (.free 22 (.free 23 (.free 24 (.free 25 (.free 26 (.free 27 (.free 28 (.free 29 (.free 30 (.free 31 (.free 32 (.free 33 (.free 34 (.free 35 (.free 36 (.free 37 (.free 38 (.free 39 (.free 40 (.free 41 (.free 42 (.free 43 (.free 44 (.free 45 (.free 46 (.free 47 (.free 48 (.free 49 (.free 50 (.free 51 (.free 52 (.free 53 (.free 54 (.free 55 (.free 56 (.free 57 (.free 58 (.free 59 (.free 60 (.free 61 (.free 62 (.free 63 .nil)))))))))))))))))))))))))))))))))))))))))))))))))))))))))))))))) hF ?_
 clear hF; intro w hF
 refine Xa rfl (Md rfl) (Xa rfl (Hb rfl) ?_)
 obtain ⟨ad0, hA0, hk0, hx0⟩ := hX.pair_elem (i := j) by_Om
 refine Qa rfl (v := .pointer (some (ad0.add (j * 2)))) (fun w hC => Oa (i := (j : Int)) Ik rfl hA0 rfl by_Om by_Om) (Qa rfl (v := .pointer (some ((ad0.add (j * 2)).add 0))) (fun w hC => Nd (a := ad0.add (j * 2)) Ek rfl) (Qa rfl (v := .int .i64 ((m[j]).1)) (fun w hC => Cb isAgg3 rfl (hC.cell0 (hk0 0 Jb))) (Xa rfl (Nk rfl rfl) (Xa rfl (Fd rfl) ?_))))
 refine Bh (d := 20) rfl (fun hg1 => ?_) (fun hg1 => ?_)
 refine Ta rfl ?_
 refine Ta rfl ?_
 refine Ta rfl ?_
 refine Ta rfl ?_
 refine Ta rfl ?_
 refine Ta rfl ?_
 refine Ta rfl ?_
 refine Xa rfl (Oc rfl rfl) (Xa rfl (Fd rfl) ?_)
 refine Ta rfl ?_
 refine Ta rfl ?_
 refine Ta rfl ?_
 refine Ta rfl ?_
 refine Ta rfl ?_
 refine Ta rfl ?_
 refine Xa rfl (Oc rfl rfl) (Xa rfl (Fd rfl) ?_)
 refine Ta rfl ?_
 refine Ta rfl ?_
 refine Ta rfl ?_
 refine Ta rfl ?_
 refine Ta rfl ?_
 refine Ta rfl ?_
 refine Ta rfl ?_
 refine Xa rfl (Oc rfl rfl) (Xa rfl (Fd rfl) ?_)
 refine Ta rfl ?_
 refine Ta rfl ?_
 refine Ta rfl ?_
 refine Ta rfl ?_
 refine Ta rfl ?_
 refine Ta rfl ?_
 refine Ta rfl ?_
 refine Ta rfl ?_
 refine Ta rfl ?_
 refine Ta rfl ?_
 refine Ta rfl ?_
 refine Ta rfl ?_
 refine Ta rfl ?_
 refine Ta rfl ?_
 refine Ta rfl ?_
 refine Ta rfl ?_
 refine Ta rfl ?_
 refine Ta rfl ?_
 refine Ta rfl ?_
 refine Ta rfl ?_
 refine Ta rfl ?_
 refine Ta rfl ?_
 refine Ta rfl ?_
 refine Ta rfl ?_
 refine Ta rfl ?_
 refine Ta rfl ?_
 refine Ta rfl ?_
 refine Ta rfl ?_
 refine Ta rfl ?_
 refine Ta rfl ?_
 refine Xa rfl (Oc rfl rfl) (Jc (Ha (Ae rfl (Ka (Ca (Ec rfl) (Ea ?_))))))
 refine Xd (v := .bool false) rfl rfl ?_
 exact ⟨congrArg Value.bool (Eq.symm (by rw [Wg, hr, Hg (j := j) by_Om, decide_eq_false (by rcases hpp with ⟨h1, h2⟩ | ⟨h1, h3, h2⟩ <;> rw [h2] at hlo ⊢ <;> simp only [not_and] <;> omega), Bool.false_and, Bool.false_and])), hF.same⟩
 refine Xa rfl (Md rfl) (Xa rfl (Hb rfl) ?_)
 obtain ⟨ad2, hA2, hk2, hx2⟩ := hX.pair_elem (i := j) by_Om
 refine Qa rfl (v := .pointer (some (ad2.add (j * 2)))) (fun w hC => Oa (i := (j : Int)) Ik rfl hA2 rfl by_Om by_Om) (Qa rfl (v := .pointer (some ((ad2.add (j * 2)).add 0))) (fun w hC => Nd (a := ad2.add (j * 2)) Ek rfl) (Qa rfl (v := .int .i64 ((m[j]).1)) (fun w hC => Cb isAgg3 rfl (hC.cell0 (hk2 0 Jb))) (Xa rfl (Hb rfl) (Xa rfl (CD rfl rfl) (Xa rfl (Jd rfl rfl) (Xa rfl (Fd rfl) ?_))))))
 refine Bh (d := 29) rfl (fun hg3 => ?_) (fun hg3 => ?_)
 refine Ta rfl ?_
 refine Ta rfl ?_
 refine Ta rfl ?_
 refine Ta rfl ?_
 refine Ta rfl ?_
 refine Ta rfl ?_
 refine Xa rfl (Oc rfl rfl) (Xa rfl (Fd rfl) ?_)
 refine Ta rfl ?_
 refine Ta rfl ?_
 refine Ta rfl ?_
 refine Ta rfl ?_
 refine Ta rfl ?_
 refine Ta rfl ?_
 refine Ta rfl ?_
 refine Xa rfl (Oc rfl rfl) (Xa rfl (Fd rfl) ?_)
 refine Ta rfl ?_
 refine Ta rfl ?_
 refine Ta rfl ?_
 refine Ta rfl ?_
 refine Ta rfl ?_
 refine Ta rfl ?_
 refine Ta rfl ?_
 refine Ta rfl ?_
 refine Ta rfl ?_
 refine Ta rfl ?_
 refine Ta rfl ?_
 refine Ta rfl ?_
 refine Ta rfl ?_
 refine Ta rfl ?_
 refine Ta rfl ?_
 refine Ta rfl ?_
 refine Ta rfl ?_
 refine Ta rfl ?_
 refine Ta rfl ?_
 refine Ta rfl ?_
 refine Ta rfl ?_
 refine Ta rfl ?_
 refine Ta rfl ?_
 refine Ta rfl ?_
 refine Ta rfl ?_
 refine Ta rfl ?_
 refine Ta rfl ?_
 refine Ta rfl ?_
 refine Ta rfl ?_
 refine Ta rfl ?_
 refine Xa rfl (Oc rfl rfl) (Jc (Ha (Ae rfl (Ka (Ca (Ec rfl) (Ea ?_))))))
 refine Xd (v := .bool false) rfl rfl ?_
 exact ⟨congrArg Value.bool (Eq.symm (by rw [Wg, hr, Hg (j := j) by_Om, decide_eq_false (by rcases hpp with ⟨h1, h2⟩ | ⟨h1, h3, h2⟩ <;> rw [h2] at hlo ⊢ <;> simp only [not_and] <;> omega), Bool.false_and, Bool.false_and])), hF.same⟩
 refine Xa rfl (Md rfl) (Xa rfl (Hb rfl) ?_)
 obtain ⟨ad4, hA4, hk4, hx4⟩ := hX.pair_elem (i := j) by_Om
 refine Qa rfl (v := .pointer (some (ad4.add (j * 2)))) (fun w hC => Oa (i := (j : Int)) Ik rfl hA4 rfl by_Om by_Om) (Qa rfl (v := .pointer (some ((ad4.add (j * 2)).add 1))) (fun w hC => Nd (a := ad4.add (j * 2)) Ri rfl) (Qa rfl (v := .int .i64 ((m[j]).2)) (fun w hC => Cb isAgg3 rfl (hC.cell0 (hk4 1 Jb))) (Xa rfl (Nk rfl rfl) (Xa rfl (Jd rfl rfl) (Xa rfl (Fd rfl) ?_)))))
 refine Bh (d := 37) rfl (fun hg5 => ?_) (fun hg5 => ?_)
 refine Ta rfl ?_
 refine Ta rfl ?_
 refine Ta rfl ?_
 refine Ta rfl ?_
 refine Ta rfl ?_
 refine Ta rfl ?_
 refine Ta rfl ?_
 refine Xa rfl (Oc rfl rfl) (Xa rfl (Fd rfl) ?_)
 refine Ta rfl ?_
 refine Ta rfl ?_
 refine Ta rfl ?_
 refine Ta rfl ?_
 refine Ta rfl ?_
 refine Ta rfl ?_
 refine Ta rfl ?_
 refine Ta rfl ?_
 refine Ta rfl ?_
 refine Ta rfl ?_
 refine Ta rfl ?_
 refine Ta rfl ?_
 refine Ta rfl ?_
 refine Ta rfl ?_
 refine Ta rfl ?_
 refine Ta rfl ?_
 refine Ta rfl ?_
 refine Ta rfl ?_
 refine Ta rfl ?_
 refine Ta rfl ?_
 refine Ta rfl ?_
 refine Ta rfl ?_
 refine Ta rfl ?_
 refine Ta rfl ?_
 refine Ta rfl ?_
 refine Ta rfl ?_
 refine Ta rfl ?_
 refine Ta rfl ?_
 refine Ta rfl ?_
 refine Ta rfl ?_
 refine Xa rfl (Oc rfl rfl) (Jc (Ha (Ae rfl (Ka (Ca (Ec rfl) (Ea ?_))))))
 refine Xd (v := .bool false) rfl rfl ?_
 exact ⟨congrArg Value.bool (Eq.symm (by rw [Wg, hr, Hg (j := j) by_Om, decide_eq_false (by rcases hpp with ⟨h1, h2⟩ | ⟨h1, h3, h2⟩ <;> rw [h2] at hlo ⊢ <;> simp only [not_and] <;> omega), Bool.false_and, Bool.false_and])), hF.same⟩
 refine Xa rfl (Md rfl) (Xa rfl (Hb rfl) ?_)
 obtain ⟨ad6, hA6, hk6, hx6⟩ := hX.pair_elem (i := j) by_Om
 refine Qa rfl (v := .pointer (some (ad6.add (j * 2)))) (fun w hC => Oa (i := (j : Int)) Ik rfl hA6 rfl by_Om by_Om) (Qa rfl (v := .pointer (some ((ad6.add (j * 2)).add 1))) (fun w hC => Nd (a := ad6.add (j * 2)) Ri rfl) (Qa rfl (v := .int .i64 ((m[j]).2)) (fun w hC => Cb isAgg3 rfl (hC.cell0 (hk6 1 Jb))) (Xa rfl (Hb rfl) (Xa rfl (CD rfl rfl) (Xa rfl (Jd rfl rfl) (Xa rfl (Fd rfl) ?_))))))
 refine Bh (d := 46) rfl (fun hg7 => ?_) (fun hg7 => ?_)
 refine Ta rfl ?_
 refine Ta rfl ?_
 refine Ta rfl ?_
 refine Ta rfl ?_
 refine Ta rfl ?_
 refine Ta rfl ?_
 refine Ta rfl ?_
 refine Ta rfl ?_
 refine Ta rfl ?_
 refine Ta rfl ?_
 refine Ta rfl ?_
 refine Ta rfl ?_
 refine Ta rfl ?_
 refine Ta rfl ?_
 refine Ta rfl ?_
 refine Ta rfl ?_
 refine Ta rfl ?_
 refine Ta rfl ?_
 refine Ta rfl ?_
 refine Ta rfl ?_
 refine Ta rfl ?_
 refine Ta rfl ?_
 refine Ta rfl ?_
 refine Ta rfl ?_
 refine Ta rfl ?_
 refine Ta rfl ?_
 refine Ta rfl ?_
 refine Ta rfl ?_
 refine Ta rfl ?_
 refine Ta rfl ?_
 refine Xa rfl (Oc rfl rfl) (Jc (Ha (Ae rfl (Ka (Ca (Ec rfl) (Ea ?_))))))
 refine Xd (v := .bool false) rfl rfl ?_
 exact ⟨congrArg Value.bool (Eq.symm (by rw [Wg, hr, Hg (j := j) by_Om, decide_eq_false (by rcases hpp with ⟨h1, h2⟩ | ⟨h1, h3, h2⟩ <;> rw [h2] at hlo ⊢ <;> simp only [not_and] <;> omega), Bool.false_and, Bool.false_and])), hF.same⟩
 refine Xa rfl (Hb rfl) (Xa rfl (X0 rfl rfl) (Xa rfl (Fd rfl) ?_))
 refine Bh (d := 49) rfl (fun hg8 => ?_) (fun hg8 => ?_)
 refine Xa rfl (Md rfl) (Xa rfl (Hb rfl) ?_)
 obtain ⟨ad9, hA9, hk9, hx9⟩ := hX.pair_elem (i := j) by_Om
 refine Qa rfl (v := .pointer (some (ad9.add (j * 2)))) (fun w hC => Oa (i := (j : Int)) Ik rfl hA9 rfl by_Om by_Om) (Qa rfl (v := .pointer (some ((ad9.add (j * 2)).add 0))) (fun w hC => Nd (a := ad9.add (j * 2)) Ek rfl) (Qa rfl (v := .int .i64 ((m[j]).1)) (fun w hC => Cb isAgg3 rfl (hC.cell0 (hk9 0 Jb))) (Xa rfl (Md rfl) (Xa rfl (Hb rfl) (Xa rfl (Zu (((j - 1 : Nat) : Int)) rfl rfl) ?_)))))
 obtain ⟨ad10, hA10, hk10, hx10⟩ := hX.pair_elem (i := (j - 1)) by_Om
 refine Qa rfl (v := .pointer (some (ad10.add ((j - 1) * 2)))) (fun w hC => Oa (i := ((j - 1 : Nat) : Int)) Ik rfl hA10 rfl by_Om by_Om) (Qa rfl (v := .pointer (some ((ad10.add ((j - 1) * 2)).add 0))) (fun w hC => Nd (a := ad10.add ((j - 1) * 2)) Ek rfl) (Qa rfl (v := .int .i64 ((m[j - 1]).1)) (fun w hC => Cb isAgg3 rfl (hC.cell0 (hk10 0 Jb))) (Xa rfl (II rfl rfl) (Xa rfl (Fd rfl) ?_))))
 refine Bh (d := 62) rfl (fun hg11 => ?_) (fun hg11 => ?_)
 refine Ta rfl ?_
 refine Ta rfl ?_
 refine Ta rfl ?_
 refine Ta rfl ?_
 refine Ta rfl ?_
 refine Ta rfl ?_
 refine Ta rfl ?_
 refine Ta rfl ?_
 refine Ta rfl ?_
 refine Ta rfl ?_
 refine Ta rfl ?_
 refine Ta rfl ?_
 refine Xa rfl (Oc rfl rfl) (Xa rfl (Oc rfl rfl) (Xa rfl (Jd rfl rfl) (Jc (Ha (Ae rfl (Ka (Ca (Ec rfl) (Ea ?_))))))))
 refine Xd (v := .bool false) rfl rfl ?_
 exact ⟨congrArg Value.bool (Eq.symm (by rw [Wg, hr, Hg (j := j) by_Om, decide_eq_false (by rcases hpp with ⟨h1, h2⟩ | ⟨h1, h3, h2⟩ <;> rw [h2] at hlo ⊢ <;> simp only [not_and] <;> omega), Bool.false_and, Bool.false_and])), hF.same⟩
 refine Xa rfl (Md rfl) (Xa rfl (Hb rfl) ?_)
 obtain ⟨ad12, hA12, hk12, hx12⟩ := hX.pair_elem (i := j) by_Om
 refine Qa rfl (v := .pointer (some (ad12.add (j * 2)))) (fun w hC => Oa (i := (j : Int)) Ik rfl hA12 rfl by_Om by_Om) (Qa rfl (v := .pointer (some ((ad12.add (j * 2)).add 1))) (fun w hC => Nd (a := ad12.add (j * 2)) Ri rfl) (Qa rfl (v := .int .i64 ((m[j]).2)) (fun w hC => Cb isAgg3 rfl (hC.cell0 (hk12 1 Jb))) (Xa rfl (Md rfl) (Xa rfl (Hb rfl) (Xa rfl (Zu (((j - 1 : Nat) : Int)) rfl rfl) ?_)))))
 obtain ⟨ad13, hA13, hk13, hx13⟩ := hX.pair_elem (i := (j - 1)) by_Om
 refine Qa rfl (v := .pointer (some (ad13.add ((j - 1) * 2)))) (fun w hC => Oa (i := ((j - 1 : Nat) : Int)) Ik rfl hA13 rfl by_Om by_Om) (Qa rfl (v := .pointer (some ((ad13.add ((j - 1) * 2)).add 1))) (fun w hC => Nd (a := ad13.add ((j - 1) * 2)) Ri rfl) (Qa rfl (v := .int .i64 ((m[j - 1]).2)) (fun w hC => Cb isAgg3 rfl (hC.cell0 (hk13 1 Jb))) (Xa rfl (II rfl rfl) (Xa rfl (Jd rfl rfl) (Xa rfl (Oc rfl rfl) (Xa rfl (Jd rfl rfl) (Jc (Ha ?_))))))))
 refine Pc rfl rfl (fun hc1 => ?_) (fun hc1 => ?_)
 refine Ka (Ca (Ec rfl) (Ea ?_))
 refine Xd (v := .bool false) rfl rfl ?_
 exact ⟨congrArg Value.bool (Eq.symm (by rw [Wg, hr, Hg (j := j) by_Om, decide_eq_false (by rcases hpp with ⟨h1, h2⟩ | ⟨h1, h3, h2⟩ <;> rw [h2] at hlo ⊢ <;> simp only [not_and] <;> omega), Bool.false_and, Bool.false_and])), hF.same⟩
 refine Wa (Mb (Ha (Da (Ca (Hb rfl) (Ca (Qi (((j + 1 : Nat) : Int)) rfl rfl) (Ca (Gc rfl) (Ya ?_)))))))
 refine Ic ⟨_, ?_, j + 1, rfl, by_Om, (by rw [hr, Hg (j := j) by_Om, decide_eq_true (by rcases hpp with ⟨h1, h2⟩ | ⟨h1, h3, h2⟩ <;> rw [h2] <;> (try simp only) <;> omega), Bool.true_and]), (by rw [Yv by_Om]; omega), Gt, hF⟩
 omega
 refine Ta rfl ?_
 refine Ta rfl ?_
 refine Ta rfl ?_
 refine Ta rfl ?_
 refine Ta rfl ?_
 refine Ta rfl ?_
 refine Ta rfl ?_
 refine Ta rfl ?_
 refine Ta rfl ?_
 refine Ta rfl ?_
 refine Ta rfl ?_
 refine Ta rfl ?_
 refine Ta rfl ?_
 refine Ta rfl ?_
 refine Ta rfl ?_
 refine Ta rfl ?_
 refine Ta rfl ?_
 refine Ta rfl ?_
 refine Ta rfl ?_
 refine Ta rfl ?_
 refine Ta rfl ?_
 refine Ta rfl ?_
 refine Ta rfl ?_
 refine Ta rfl ?_
 refine Ta rfl ?_
 refine Ta rfl ?_
 refine Xa rfl (Jd rfl rfl) (Xa rfl (Jd rfl rfl) (Jc (Ha (Bg rfl (Wa (Mb (Ha (Da (Ca (Hb rfl) (Ca (Qi (((j + 1 : Nat) : Int)) rfl rfl) (Ca (Gc rfl) (Ya ?_))))))))))))
 refine Ic ⟨_, ?_, j + 1, rfl, by_Om, (by rw [hr, Hg (j := j) by_Om, decide_eq_true (by rcases hpp with ⟨h1, h2⟩ | ⟨h1, h3, h2⟩ <;> rw [h2] <;> (try simp only) <;> omega), Bool.true_and]), (by rw [Yv by_Om]; omega), Gt, hF⟩
 omega
 refine Nc (Lc rfl ?_)
 refine Ha (Ka (Ca (Hb rfl) (Ca (CD rfl rfl) (Ca (Fd rfl) ?_))))
 refine Cd (d := 80) rfl (fun hg14 => ?_) (fun hg14 => ?_)
 refine Ca (Hb rfl) (Ca (II rfl rfl) (Ca (Oc rfl rfl) (Ca (Ec rfl) (Ea ?_))))
 refine Xd (v := .bool _) rfl rfl ?_
 have ej : j = m.length := by omega
 exact ⟨congrArg Value.bool (by rw [Wg, hr, ej, List.drop_length, Dl, Bool.true_and]; first | exact (decide_eq_true by_Om).symm | exact (decide_eq_false by_Om).symm | exact decide_eq_decide.2 by_Om), hF.same⟩
 refine Sa (Sa (Ca (Jd rfl rfl) (Ca (Ec rfl) (Ea ?_))))
 refine Xd (v := .bool false) rfl rfl ?_
 have ej : j = m.length := by omega
 exact ⟨congrArg Value.bool (by rw [Wg, hr, ej, List.drop_length, Dl, Bool.true_and]; first | exact (decide_eq_true by_Om).symm | exact (decide_eq_false by_Om).symm | exact decide_eq_decide.2 by_Om), hF.same⟩
end Go.Scarf
