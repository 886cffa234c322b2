/- A part of the proof. -/
import Derived.Test.YtehigfneiofjnaaGreatDoorE4
import Derived.Test.YtehigfneiofjnaaGreatDoorW19
import Derived.Test.YtehigfneiofjnaaGreatDoorP3
set_option linter.all false
set_option maxHeartbeats 8000000
set_option maxRecDepth 10000
namespace Go.Scarf
open Go.RowKit Go.Proofs Go.Proofs.Tryz
def B9 (x : Tree) : Prop := Ec x ≤ 1000000000 → ∀ S w0 cs, Rep S w0 (Gc x) cs → Calls prog 63 #[.agg cs.toArray] w0 (Ce fun v w' => v = .int .i64 (Ec x : Nat) ∧ Same [] w0 w')
def G5 (x : Tree) : Prop := Ec x ≤ 1000000000 → ∀ S w0 cs, Rep S w0 (Gc x) cs → Calls prog 64 #[.agg cs.toArray] w0 (Ce fun v w' => v = .int .i64 (Wc x : Nat) ∧ Same [] w0 w')
def Iw (h : Bool) (x : Tree) : Bool := nodeB x && (h || decide (x.kind ≠ 7))
theorem XK : Iw true = nodeB := by funext x; simp [Iw]
theorem SH : Iw false = rnodeB := by funext x; simp [Iw, rnodeB, Bool.and_comm]
def GA (x : Tree) : Prop := Ec x ≤ 1000000000 → Ae x ≤ 1073741824 → ∀ (h : Bool) S w0 cs, Rep S w0 (Gc x) cs → Calls prog 65 #[.agg cs.toArray, .bool h] w0 (Ce fun v w' => v = .bool (Yd (Iw h) x) ∧ Same [] w0 w')
theorem Uq : ∀ (xs : List Tree) (j : Nat), Zc (xs.take j) ≤ Zc xs
  | [], j => by simp
  | x :: xs, 0 => by simp [Zc]
  | x :: xs, j + 1 => by
    have := Uq xs j
    rw [List.take_succ_cons, Zc, Zc]; omega
theorem DA (k : Int) (t : Str) (ks : List Str) (xs : List Tree) (ih : ∀ x, x ∈ xs → B9 x) : B9 (.node k t ks xs) := by
 intro hsz S w0 cs hR
 obtain ⟨A, c, B, e, rfl, -, -, -, hX⟩ := hR.tree_inv
 have hXl := hX.slice_len
 have hdl := Ht xs
 rw [Ec] at hsz
 refine Ma func63 rfl ntmps63 Qb (Rc _) ?_
 have hF := FR.start w0 []
 refine Ha ?_
 refine Bh hF rfl ?_
 clear hF; rintro b1 w hb1 hF -
 refine Ca (Kb rfl) (Yb (Ca (Kb rfl) (Da (Ia (Ha (Ca (Kb rfl) (Da ?_)))))))
 refine Db ?_
 refine Xc (fun μ σ w => ∃ (j : Nat), μ = xs.length - j ∧ (j ≤ xs.length) ∧ AllEq σ [(1, .pointer (some ⟨b1, 0, none⟩)), (3, .int .i64 (((1 + Zc (xs.take j) : Nat) : Int))), (4, .int .i64 ((j : Int)))] ∧ FR w0 [] [(b1, .cells #[.int .i64 k, .string (bs t), .slice A ks.length c, .slice B xs.length e] 25)] w) _ ⟨0, rfl, (Nat.zero_le _), St, hF⟩ ?_
 clear hF; rintro μ σ w ⟨j, rfl, hj, hs, hF⟩
 refine Cg.slots hs ?_
 clear hs; intro σ
 refine Ia (Ha (Ca (Za rfl) (Ca (Fc Vc rfl) (Uc (Mf isAgg23 rfl hF.F 0 rfl rfl) (Ca (Ji underlying23 rfl) (Ca (Fj rfl rfl) (Da ?_)))))))
 refine Bc rfl rfl (fun hc0 => ?_) (fun hc0 => ?_)
 refine Ra (Ja (Ia (Db (Ga (Ca (Za rfl) (Ca (Fc Vc rfl) (Uc (Mf isAgg23 rfl hF.F 0 rfl rfl) (Ca (Za rfl) ?_))))))))
 obtain ⟨ad0, cs0, hA0, hl0, hk0, hx0⟩ := hX.tree_elem (i := j) by_Om
 have ho0 := hx0.one_
 refine Fa (v := .pointer (some (ad0.add (j * 4)))) (Ya (i := (j : Int)) Sj rfl hA0 rfl by_Om by_Om) (Fa (v := .agg (List.toArray cs0)) (Rb (l := cs0) isAgg25 sizeOf25 rfl hl0 (hF.cells0 hk0)) ?_)
 refine Va hF (ih _ (List.getElem_mem _) (by have := If (List.getElem_mem (l := xs) (n := j) by_Om); omega) _ _ _ (hF.rep hx0)) (Ua JG rfl rfl) ?_
 clear hF; intro w hF
 refine Fa (v := .int .i64 (((1 + Zc (xs.take (j + 1)) : Nat) : Int))) (Tq rfl rfl (by have h1 := Px xs j by_Om; have h2 := If (List.getElem_mem (l := xs) (n := j) by_Om); have h3 := Uq xs (j + 1); exact Me (by rw [h1]; omega) by_Om by_Om)) ?_
 refine Ca (Kb rfl) (Cb (Wb (Ja (Ga (Ca (Za rfl) (Ca (Di (((j + 1 : Nat) : Int)) rfl rfl) (Ca (Kb rfl) (Cb ?_))))))))
 refine Gb ⟨_, ?_, j + 1, rfl, by_Om, St, hF⟩
 omega
 refine Oc (Nc rfl ?_)
 refine Ja (Ha ?_)
 have eT : xs.take j = xs := List.take_of_length_le by_Om
 refine Ca (Za rfl) (Ca (Kb rfl) (Da ?_))
 refine Pb (Ob (Qa (Do (v := .int .i64 (((1 + Zc (xs.take j) : Nat) : Int))) rfl rfl) ?_))
 exact ⟨by rw [eT, Ec], hF.same⟩
theorem I6 (x : Tree) : B9 x := Tree.ind DA x
theorem N5 (k : Int) (t : Str) (ks : List Str) (xs : List Tree) (ih : ∀ x, x ∈ xs → G5 x) : G5 (.node k t ks xs) := by
 intro hsz S w0 cs hR
 obtain ⟨A, c, B, e, rfl, -, -, -, hX⟩ := hR.tree_inv
 have hXl := hX.slice_len
 have hdl := Ht xs
 rw [Ec] at hsz
 refine Ma func64 rfl ntmps64 Qb (Rc _) ?_
 have hF := FR.start w0 []
 refine Ha ?_
 refine Bh hF rfl ?_
 clear hF; rintro b1 w hb1 hF -
 refine Ca (Kb rfl) (Yb (Ca (Kb rfl) (Da (Ia (Ha (Ca (Kb rfl) (Da ?_)))))))
 refine Db ?_
 refine Xc (fun μ σ w => ∃ (j : Nat), μ = xs.length - j ∧ (j ≤ xs.length) ∧ AllEq σ [(1, .pointer (some ⟨b1, 0, none⟩)), (3, .int .i64 ((Hd (xs.take j) : Nat))), (4, .int .i64 ((j : Int)))] ∧ FR w0 [] [(b1, .cells #[.int .i64 k, .string (bs t), .slice A ks.length c, .slice B xs.length e] 25)] w) _ ⟨0, rfl, (Nat.zero_le _), St, hF⟩ ?_
 clear hF; rintro μ σ w ⟨j, rfl, hj, hs, hF⟩
 refine Cg.slots hs ?_
 clear hs; intro σ
 refine Ia (Ha (Ca (Za rfl) (Ca (Fc Vc rfl) (Uc (Mf isAgg23 rfl hF.F 0 rfl rfl) (Ca (Ji underlying23 rfl) (Ca (Fj rfl rfl) (Da ?_)))))))
 refine Bc rfl rfl (fun hc0 => ?_) (fun hc0 => ?_)
 refine Ra (Ja (Ia (Db (Ga (Ca (Za rfl) (Ca (Fc Vc rfl) (Uc (Mf isAgg23 rfl hF.F 0 rfl rfl) (Ca (Za rfl) ?_))))))))
 obtain ⟨ad0, cs0, hA0, hl0, hk0, hx0⟩ := hX.tree_elem (i := j) by_Om
 have ho0 := hx0.one_
 refine Fa (v := .pointer (some (ad0.add (j * 4)))) (Ya (i := (j : Int)) Sj rfl hA0 rfl by_Om by_Om) (Fa (v := .agg (List.toArray cs0)) (Rb (l := cs0) isAgg25 sizeOf25 rfl hl0 (hF.cells0 hk0)) ?_)
 refine Va hF (ih _ (List.getElem_mem _) (by have := If (List.getElem_mem (l := xs) (n := j) by_Om); omega) _ _ _ (hF.rep hx0)) (Ua IG rfl rfl) ?_
 clear hF; intro w hF
 refine Fa (v := .int .i64 ((Hd (xs.take (j + 1)) : Nat))) (by rw [← show max ((Hd (xs.take j) : Nat) : Int) ((Wc xs[j] : Nat) : Int) = ((Hd (xs.take (j + 1)) : Nat) : Int) from by rw [Hu xs j by_Om]; omega]; exact EJ rfl rfl) ?_
 refine Ca (Kb rfl) (Cb (Wb (Ja (Ga (Ca (Za rfl) (Ca (Di (((j + 1 : Nat) : Int)) rfl rfl) (Ca (Kb rfl) (Cb ?_))))))))
 refine Gb ⟨_, ?_, j + 1, rfl, by_Om, St, hF⟩
 omega
 refine Oc (Nc rfl ?_)
 refine Ja (Ha (Ca (Za rfl) ?_))
 have eT : xs.take j = xs := List.take_of_length_le by_Om
 refine Fa (v := .int .i64 ((Wc (.node k t ks xs) : Nat))) (Tq rfl rfl (by rw [eT, Wc]; exact Me by_Om by_Om by_Om)) ?_
 refine Ca (Kb rfl) (Da ?_)
 refine Ud (v := .int .i64 ((Wc (.node k t ks xs) : Nat))) rfl rfl ?_
 exact ⟨rfl, hF.same⟩
theorem S1 (x : Tree) : G5 x := Tree.ind N5 x
theorem Te {b : Bool} (h : (!b) = false) : b = true := by simpa using h
theorem Gi {b : Bool} (h : (!b) = true) : b = false := by simpa using h
theorem Oz {t : Str} {ks : List Str} {xs : List Tree} : nodeB (.node 6 t ks xs) = (Bl ks xs.length && decide (t = [])) := by simp only [nodeB]; rfl
theorem XL {t : Str} {ks : List Str} {xs : List Tree} {i : Nat} (h : i < ks.length) (hv : Lib.validD ks[i] = false) : nodeB (.node 6 t ks xs) = false := by
  rw [Oz, Bl, CC h hv]; simp
theorem FL {t : Str} {ks : List Str} {xs : List Tree} {i m : Nat} (h : i < ks.length) (hm : m < i) (he : ks[m] = ks[i]) : nodeB (.node 6 t ks xs) = false := by
  have : ¬ ks.Nodup := Wp h (by rw [← he]; exact List.mem_take_iff_getElem.2 ⟨m, by omega, rfl⟩)
  rw [Oz, Bl, decide_eq_false this]; simp
theorem YA {t : Str} {ks : List Str} {xs : List Tree} (hn : ks.Nodup) (hv : ks.all Lib.validD = true) : nodeB (.node 6 t ks xs) = (decide (t = []) && decide (((ks.length : Nat) : Int) = ((xs.length : Nat) : Int))) := by
  rw [Oz, Bl, decide_eq_true hn, hv, Bool.true_and, Bool.true_and, Bool.and_comm]
theorem NF {k : Int} {t : Str} {ks : List Str} {xs : List Tree} (h1 : ¬ k = 1) (h2 : ¬ k = 2) (h3 : ¬ k = 3) (h4 : ¬ k = 4) (h5 : ¬ k = 5) (h6 : ¬ k = 6) (h7 : ¬ k = 7) : nodeB (.node k t ks xs) = false := by
  simp [nodeB, h1, h2, h3, h4, h5, h6, h7]
theorem Ew {k : Int} {t : Str} {ks : List Str} {xs : List Tree} (h : k ≠ 6) (hk : (0 : Int) < ((ks.length : Nat) : Int)) : nodeB (.node k t ks xs) = false := by
  have h1 : ks ≠ [] := by rintro rfl; simp at hk
  by_cases h5 : k = 5 <;> simp [nodeB, h, h5, h1]
theorem Ct {k : Int} {t : Str} {ks : List Str} {xs : List Tree} (h : k ≠ 6) (h5 : k ≠ 5) (hk : (0 : Int) < ((xs.length : Nat) : Int)) : nodeB (.node k t ks xs) = false := by
  have h1 : xs ≠ [] := by rintro rfl; simp at hk
  simp [nodeB, h, h5, h1]
theorem XT {k : Int} {t : Str} {ks : List Str} {xs : List Tree} (h : k = 1) (hk : ks = []) (hx : xs = []) : nodeB (.node k t ks xs) = decide (t = []) := by subst h hk hx; simp [nodeB]
theorem ZT {k : Int} {t : Str} {ks : List Str} {xs : List Tree} (h : k = 5) (hk : ks = []) : nodeB (.node k t ks xs) = decide (t = []) := by subst h hk; simp [nodeB]
theorem YT {k : Int} {t : Str} {ks : List Str} {xs : List Tree} (h : k = 2) (hk : ks = []) (hx : xs = []) : nodeB (.node k t ks xs) = (decide (t = [116, 114, 117, 101]) || decide (t = [102, 97, 108, 115, 101])) := by subst h hk hx; simp [nodeB]
theorem GU {k : Int} {t : Str} {ks : List Str} {xs : List Tree} (h : k = 3) (hk : ks = []) (hx : xs = []) : nodeB (.node k t ks xs) = Ki t := by subst h hk hx; simp [nodeB]
theorem KU {k : Int} {t : Str} {ks : List Str} {xs : List Tree} (h : k = 4) (hk : ks = []) (hx : xs = []) : nodeB (.node k t ks xs) = Lib.validD t := by subst h hk hx; simp [nodeB]
theorem IT {k : Int} {t : Str} {ks : List Str} {xs : List Tree} (h : k = 7) (hk : ks = []) (hx : xs = []) : nodeB (.node k t ks xs) = Lq t := by subst h hk hx; simp [nodeB]
theorem CA {t : Str} (h1 : Ki t = true) (h2 : (Gu (He t).1).2 = true) : Lq t = decide (0 ≤ (Gu (He t).1).1) := by rw [Lq, h1, h2]; rfl
theorem E3 {t : Str} (h1 : Ki t = false) : Lq t = false := by rw [Lq, h1]; rfl
theorem W4 {t : Str} (h2 : (Gu (He t).1).2 = false) : Lq t = false := by rw [Lq, h2, Bool.and_false]; rfl
theorem Rw {ks : List Str} (h : ¬ (0 : Int) < ((ks.length : Nat) : Int)) : ks = [] := List.eq_nil_of_length_eq_zero by_Om
theorem Ow {xs : List Tree} (h : ¬ (0 : Int) < ((xs.length : Nat) : Int)) : xs = [] := List.eq_nil_of_length_eq_zero by_Om
theorem FG (k : Int) (t : Str) (ks : List Str) (xs : List Tree) (S : Nat → Prop) (w0 : World) (cs : List Value) (hR : Rep S w0 (Gc (.node k t ks xs)) cs) (hm : Ae (.node k t ks xs) ≤ 1073741824) : Calls prog 85 #[.agg cs.toArray] w0 (Ce fun v w' => v = .bool (nodeB (.node k t ks xs)) ∧ Same [] w0 w') := by
 obtain ⟨A, c, B, e, rfl, -, -, hK, hX⟩ := hR.tree_inv
 have hKl := hK.slice_len
 have hXl := hX.slice_len
 rw [Ae] at hm
 have hkm : ∀ q (h : q < ks.length), ks[q].length ≤ 1073741824 := fun q h => Nat.le_trans (Ch (List.getElem_mem h)) by_Om
 refine Ma func85 rfl ntmps85 Qb (Rc _) ?_
 have hF := FR.start w0 []
 refine Ha ?_
 refine Bh hF rfl ?_
 clear hF; rintro b1 w hb1 hF -
 refine Ca (Cc rfl) (Da (Ia ?_))
 refine Hf (fun σ w => (k ≠ 6 → ks = []) ∧ (k ≠ 6 → k ≠ 5 → xs = []) ∧ AllEq σ [(1, .pointer (some ⟨b1, 0, none⟩))] ∧ FR w0 [] [(b1, .cells #[.int .i64 k, .string (bs t), .slice A ks.length c, .slice B xs.length e] 25)] w) ?_ ?_
 ·
  refine Ha (Ca (Fc Ke rfl) (Uc (Nm isAgg3 rfl hF.F 0 rfl rfl) (Ca (Vs rfl rfl) (Ca (Jc rfl) ?_))))
  refine Mb (d := 15) rfl (fun hg0 => ?_) (fun hg0 => ?_)
  ·
   refine Ca (Fc Nf rfl) (Uc (Mf isAgg22 rfl hF.F 0 rfl rfl) (Ca (Ji underlying22 rfl) (Ca (Gn rfl rfl) (Ca (Lc rfl rfl) (Ca (Jc rfl) ?_)))))
   refine Mb (d := 21) rfl (fun hg1 => ?_) (fun hg1 => ?_)
   ·
    refine Ea (Ea (Ea (Ea (Ea (Ea (Ea (Ea (Ea (Ea (Ea (Ea (Ea (Ea ?_)))))))))))))
    refine Ca (Lc rfl rfl) (Da (Qd rfl (Ha (Ca (Cc rfl) (Da ?_)))))
    refine Ud (v := .bool false) rfl rfl ?_
    refine ⟨congrArg Value.bool ?_, hF.same⟩
    first | exact (Ew by_Om (by assumption)).symm | exact (Ct by_Om by_Om (by assumption)).symm
   ·
    refine Ca (Fc Ke rfl) (Uc (Nm isAgg3 rfl hF.F 0 rfl rfl) (Ca (Vs rfl rfl) (Ca (Jc rfl) ?_)))
    refine Mb (d := 25) rfl (fun hg2 => ?_) (fun hg2 => ?_)
    ·
     refine Ca (Fc Ke rfl) (Uc (Nm isAgg3 rfl hF.F 0 rfl rfl) (Ca (Vs rfl rfl) (Ca (Lc rfl rfl) (Ca (Jc rfl) ?_))))
     refine Mb (d := 30) rfl (fun hg3 => ?_) (fun hg3 => ?_)
     ·
      refine Ca (Fc Vc rfl) (Uc (Mf isAgg23 rfl hF.F 0 rfl rfl) (Ca (Ji underlying23 rfl) (Ca (Gn rfl rfl) (Ca (Lc rfl rfl) (Ca (Dc rfl rfl) (Da ?_))))))
      refine Bc rfl rfl (fun hc0 => ?_) (fun hc0 => ?_)
      ·
       refine Ha (Ca (Cc rfl) (Da ?_))
       refine Ud (v := .bool false) rfl rfl ?_
       refine ⟨congrArg Value.bool ?_, hF.same⟩
       first | exact (Ew by_Om (by assumption)).symm | exact (Ct by_Om by_Om (by assumption)).symm
      ·
       refine Ra ?_
       exact Gb ⟨(by intro h; first | exact Rw by_Om | (exfalso; omega)), (by intro h h5; first | exact Ow by_Om | (exfalso; omega)), GM, hF⟩
     ·
      refine Ea (Ea (Ea (Ea (Ca (Dc rfl rfl) (Ca (Dc rfl rfl) (Da (Xe rfl (Ra ?_))))))))
      exact Gb ⟨(by intro h; first | exact Rw by_Om | (exfalso; omega)), (by intro h h5; first | exact Ow by_Om | (exfalso; omega)), GM, hF⟩
    ·
     refine Ea (Ea (Ea (Ca (Dc rfl rfl) (Ca (Jc rfl) (Ea (Ea (Ea (Ea (Ca (Dc rfl rfl) (Ca (Dc rfl rfl) (Da (Xe rfl ?_))))))))))))
     refine Ra ?_
     exact Gb ⟨(by intro h; first | exact Rw by_Om | (exfalso; omega)), (by intro h h5; first | exact Ow by_Om | (exfalso; omega)), GM, hF⟩
  ·
   refine Ea (Ea (Ea (Ea (Ca (Dc rfl rfl) (Ca (Jc rfl) (Ca (Fc Ke rfl) (Uc (Nm isAgg3 rfl hF.F 0 rfl rfl) (Ca (Vs rfl rfl) (Ca (Jc rfl) ?_)))))))))
   refine Mb (d := 25) rfl (fun hg4 => ?_) (fun hg4 => ?_)
   ·
    refine Ca (Fc Ke rfl) (Uc (Nm isAgg3 rfl hF.F 0 rfl rfl) (Ca (Vs rfl rfl) (Ca (Lc rfl rfl) (Ca (Jc rfl) ?_))))
    refine Mb (d := 30) rfl (fun hg5 => ?_) (fun hg5 => ?_)
    ·
     refine Ca (Fc Vc rfl) (Uc (Mf isAgg23 rfl hF.F 0 rfl rfl) (Ca (Ji underlying23 rfl) (Ca (Gn rfl rfl) (Ca (Lc rfl rfl) (Ca (Dc rfl rfl) (Da ?_))))))
     refine Bc rfl rfl (fun hc0 => ?_) (fun hc0 => ?_)
     ·
      refine Ha (Ca (Cc rfl) (Da ?_))
      refine Ud (v := .bool false) rfl rfl ?_
      refine ⟨congrArg Value.bool ?_, hF.same⟩
      first | exact (Ew by_Om (by assumption)).symm | exact (Ct by_Om by_Om (by assumption)).symm
     ·
      refine Ra ?_
      exact Gb ⟨(by intro h; first | exact Rw by_Om | (exfalso; omega)), (by intro h h5; first | exact Ow by_Om | (exfalso; omega)), GM, hF⟩
    ·
     refine Ea (Ea (Ea (Ea (Ca (Dc rfl rfl) (Ca (Dc rfl rfl) (Da (Xe rfl (Ra ?_))))))))
     exact Gb ⟨(by intro h; first | exact Rw by_Om | (exfalso; omega)), (by intro h h5; first | exact Ow by_Om | (exfalso; omega)), GM, hF⟩
   ·
    refine Ea (Ea (Ea (Ca (Dc rfl rfl) (Ca (Jc rfl) (Ea (Ea (Ea (Ea (Ca (Dc rfl rfl) (Ca (Dc rfl rfl) (Da (Xe rfl ?_))))))))))))
    refine Ra ?_
    exact Gb ⟨(by intro h; first | exact Rw by_Om | (exfalso; omega)), (by intro h h5; first | exact Ow by_Om | (exfalso; omega)), GM, hF⟩
 clear hF; rintro σ w ⟨hk0, hx0, hs, hF⟩
 refine Eg.slots hs ?_
 clear hs; intro σ
 refine Ja (Ia (Ha (Ca (Fc Ke rfl) (Uc (Nm isAgg3 rfl hF.F 0 rfl rfl) (Da (Db (Ia (Ha (Ca (Li rfl rfl) (Ca (Cc rfl) ?_))))))))))
 refine Da ?_
 refine Bc rfl rfl (fun hc1 => ?_) (fun hc1 => ?_)
 ·
  refine Ra (Ja (Qd rfl (Ha (Ca (Fc Pf rfl) (Uc (Ko isAgg9 rfl hF.F 0 rfl rfl) (Ca (Mv rfl rfl) (Ca (Cc rfl) (Da ?_))))))))
  refine Ud (v := .bool _) rfl rfl ?_
  refine ⟨congrArg Value.bool ?_, hF.same⟩
  first | (exfalso; omega) | exact (ZT by_Om (hk0 by_Om)).symm | exact (XT by_Om (hk0 by_Om) (hx0 by_Om by_Om)).symm
 ·
  refine Ga (Ca (Li rfl rfl) (Ca (Cc rfl) (Da ?_)))
  refine Bc rfl rfl (fun hc2 => ?_) (fun hc2 => ?_)
  ·
   refine Ha (Ca (Fc Pf rfl) (Uc (Ko isAgg9 rfl hF.F 0 rfl rfl) (Ca (Mv rfl rfl) (Ca (Cc rfl) (Da ?_)))))
   refine Ud (v := .bool _) rfl rfl ?_
   refine ⟨congrArg Value.bool ?_, hF.same⟩
   first | (exfalso; omega) | exact (ZT by_Om (hk0 by_Om)).symm | exact (XT by_Om (hk0 by_Om) (hx0 by_Om by_Om)).symm
  ·
   refine Ha (Ca (Li rfl rfl) (Ca (Cc rfl) (Da ?_)))
   refine Bc rfl rfl (fun hc3 => ?_) (fun hc3 => ?_)
   ·
    refine Ha (Ca (Fc Pf rfl) (Uc (Ko isAgg9 rfl hF.F 0 rfl rfl) (Ca (Mv rfl rfl) (Ca (Jc rfl) ?_))))
    refine Mb (d := 50) rfl (fun hg6 => ?_) (fun hg6 => ?_)
    ·
     refine Ea (Ea (Ea (Ca (Lc rfl rfl) (Ca (Cc rfl) (Da ?_)))))
     refine Ud (v := .bool true) rfl rfl ?_
     refine ⟨congrArg Value.bool ?_, hF.same⟩
     first | (exfalso; omega) | rw [YT by_Om (hk0 by_Om) (hx0 by_Om by_Om)]
     all_goals first | (rw [decide_eq_true (show t = [116, 114, 117, 101] by assumption)]; rfl) | (rw [decide_eq_false (show ¬ t = [116, 114, 117, 101] by assumption)]; rfl)
    ·
     refine Ca (Fc Pf rfl) (Uc (Ko isAgg9 rfl hF.F 0 rfl rfl) (Ca (Mv rfl rfl) (Ca (Dc rfl rfl) (Ca (Cc rfl) (Da ?_)))))
     refine Ud (v := .bool _) rfl rfl ?_
     refine ⟨congrArg Value.bool ?_, hF.same⟩
     first | (exfalso; omega) | rw [YT by_Om (hk0 by_Om) (hx0 by_Om by_Om)]
     all_goals first | (rw [decide_eq_true (show t = [116, 114, 117, 101] by assumption)]; rfl) | (rw [decide_eq_false (show ¬ t = [116, 114, 117, 101] by assumption)]; rfl)
   ·
    refine Ha (Ca (Li rfl rfl) (Ca (Cc rfl) (Da ?_)))
    refine Bc rfl rfl (fun hc4 => ?_) (fun hc4 => ?_)
    ·
     refine Ha (Ca (Fc Pf rfl) (Uc (Ko isAgg9 rfl hF.F 0 rfl rfl) ?_))
     refine Va hF (Qy t by_Om _) (Ua CI rfl rfl) ?_
     clear hF; intro w hF
     refine Ca (Qg rfl) (Ca (Yw rfl rfl) (Ca (Xs rfl rfl) ?_))
     refine Hh hF zeroValue49 sizeOf49 rfl ?_
     clear hF; rintro b2 w hb2 hF -
     refine Ca (Cc rfl) (Yb (Ca (Jc rfl) (Ca (Cc rfl) (Da ?_))))
     refine Ud (v := .bool _) rfl rfl ?_
     refine ⟨congrArg Value.bool ?_, hF.same⟩
     first | (exfalso; omega) | exact (GU by_Om (hk0 by_Om) (hx0 by_Om by_Om)).symm
    ·
     refine Ha (Ca (Li rfl rfl) (Ca (Cc rfl) (Da ?_)))
     refine Bc rfl rfl (fun hc5 => ?_) (fun hc5 => ?_)
     ·
      refine Ha (Ca (Fc Pf rfl) (Uc (Ko isAgg9 rfl hF.F 0 rfl rfl) ?_))
      refine Va hF (MM t by_Om _) (Ua IJ rfl rfl) ?_
      clear hF; intro w hF
      refine Ca (Cc rfl) (Da ?_)
      refine Ud (v := .bool _) rfl rfl ?_
      refine ⟨congrArg Value.bool ?_, hF.same⟩
      first | (exfalso; omega) | exact (KU by_Om (hk0 by_Om) (hx0 by_Om by_Om)).symm
     ·
      refine Ha (Ca (Li rfl rfl) (Ca (Cc rfl) (Da ?_)))
      refine Bc rfl rfl (fun hc6 => ?_) (fun hc6 => ?_)
      ·
       refine Ha (Ca (Fc Pf rfl) (Uc (Ko isAgg9 rfl hF.F 0 rfl rfl) ?_))
       refine Va hF (Qy t by_Om _) (Ua CI rfl rfl) ?_
       clear hF; intro w hF
       refine Ca (Qg rfl) (Ca (Yw rfl rfl) (Ca (Xs rfl rfl) ?_))
       refine Hh hF zeroValue49 sizeOf49 rfl ?_
       clear hF; rintro b3 w hb3 hF -
       refine Ca (Cc rfl) (Yb (Uc (Bi isAgg49 sizeOf49 rfl hF.F 0 rfl rfl) ?_))
       refine Va hF (GP (He t).1 (by have := En t; omega) _) (Ua NP rfl rfl) ?_
       clear hF; intro w hF
       refine Ca (Qg rfl) (Ca (Re rfl rfl) (Ca (Xs rfl rfl) (Ca (Kb rfl) (Ca (Cc rfl) (Yb (Ca (Jc rfl) (Ca (Jc rfl) ?_)))))))
       refine Qe (d := 83) rfl (fun hg7 => ?_) (fun hg7 => ?_)
       ·
        refine Ca (Jc rfl) (Ca (Lc rfl rfl) (Ca (Jc rfl) ?_))
        refine Qe (d := 86) rfl (fun hg8 => ?_) (fun hg8 => ?_)
        ·
         refine Ca (Za rfl) (Ca (Zv rfl rfl) (Ca (Lc rfl rfl) (Ca (Cc rfl) (Da ?_))))
         refine Ud (v := .bool _) rfl rfl ?_
         refine ⟨congrArg Value.bool ?_, hF.same⟩
         first | (exfalso; omega) | rw [IT by_Om (hk0 by_Om) (hx0 by_Om by_Om)]
         all_goals first | exact (E3 (by assumption)).symm | exact (W4 (by assumption)).symm | exact (CA (by assumption) (by assumption)).symm
        ·
         refine Ea (Ea (Ca (Dc rfl rfl) (Ca (Cc rfl) (Da ?_))))
         refine Ud (v := .bool false) rfl rfl ?_
         refine ⟨congrArg Value.bool ?_, hF.same⟩
         first | (exfalso; omega) | rw [IT by_Om (hk0 by_Om) (hx0 by_Om by_Om)]
         all_goals first | exact (E3 (by assumption)).symm | exact (W4 (by assumption)).symm | exact (CA (by assumption) (by assumption)).symm
       ·
        refine Ea (Ca (Dc rfl rfl) (Ca (Jc rfl) (Ea (Ea (Ca (Dc rfl rfl) (Ca (Cc rfl) (Da ?_)))))))
        refine Ud (v := .bool false) rfl rfl ?_
        refine ⟨congrArg Value.bool ?_, hF.same⟩
        first | (exfalso; omega) | rw [IT by_Om (hk0 by_Om) (hx0 by_Om by_Om)]
        all_goals first | exact (E3 (by assumption)).symm | exact (W4 (by assumption)).symm | exact (CA (by assumption) (by assumption)).symm
      ·
       refine Ha (Ca (Li rfl rfl) (Ca (Cc rfl) (Da ?_)))
       refine Bc rfl rfl (fun hc7 => ?_) (fun hc7 => ?_)
       ·
        refine Ia (Ha (Ca (Kb rfl) (Da (Db ?_))))
        refine Xc (fun μ σ w => ∃ (i : Nat), μ = ks.length - i ∧ (i ≤ ks.length) ∧ ((ks.take i).all Lib.validD = true) ∧ ((ks.take i).Nodup) ∧ AllEq σ [(1, .pointer (some ⟨b1, 0, none⟩)), (9, .int .i64 ((i : Int)))] ∧ FR w0 [] [(b1, .cells #[.int .i64 k, .string (bs t), .slice A ks.length c, .slice B xs.length e] 25)] w) _ ⟨0, rfl, (Nat.zero_le _), Sa, Sa, Nv, hF⟩ ?_
        clear hF; rintro μ σ w ⟨i, rfl, hi, hva, hnd, hs, hF⟩
        refine Cg.slots hs ?_
        clear hs; intro σ
        refine Ia (Ha (Ca (Za rfl) (Ca (Fc Nf rfl) (Uc (Mf isAgg22 rfl hF.F 0 rfl rfl) (Ca (Ji underlying22 rfl) (Ca (Fj rfl rfl) (Da ?_)))))))
        refine Bc rfl rfl (fun hc8 => ?_) (fun hc8 => ?_)
        ·
         refine Ra (Ja (Ia (Db (Ha (Ca (Fc Nf rfl) (Uc (Mf isAgg22 rfl hF.F 0 rfl rfl) (Ca (Za rfl) ?_)))))))
         obtain ⟨ad9, hA9, hk9, hx9⟩ := hK.str_elem (i := i) by_Om
         refine Fa (v := .pointer (some (ad9.add (i * 1)))) (Ya (i := (i : Int)) Pj rfl hA9 rfl by_Om by_Om) (Fa (v := .string (bs (ks[i]))) (Vb isAgg9 rfl (hF.cell0 hk9)) ?_)
         refine Va hF (MM ks[i] (by have := hkm i by_Om; omega) _) (Ua IJ rfl rfl) ?_
         clear hF; intro w hF
         refine Ca (Cc rfl) (Da (Ia (Ha (Ca (Jc rfl) (Ca (Dm rfl) (Da ?_))))))
         refine Vh rfl rfl (fun hc9 => ?_) (fun hc9 => ?_)
         ·
          refine Ha (Ca (Cc rfl) (Da ?_))
          refine Ud (v := .bool false) rfl rfl ?_
          refine ⟨congrArg Value.bool ?_, hF.same⟩
          have h6 : k = 6 := by_Om
          subst h6
          exact (XL (i := i) by_Om (Gi (by assumption))).symm
         ·
          refine Ra (Ja (Ha (Ca (Kb rfl) (Da (Db ?_)))))
          have hik : i < ks.length := by omega
          refine Xc (fun μ σ w => ∃ (m : Nat), μ = i - m ∧ (m ≤ i) ∧ (∀ q (hq : q < ks.length), q < m → ks[q] ≠ ks[i]'hik) ∧ AllEq σ [(1, .pointer (some ⟨b1, 0, none⟩)), (9, .int .i64 ((i : Int))), (11, .int .i64 ((m : Int)))] ∧ FR w0 [] [(b1, .cells #[.int .i64 k, .string (bs t), .slice A ks.length c, .slice B xs.length e] 25)] w) _ ⟨0, rfl, (Nat.zero_le _), (fun q _ h => absurd h by_Om), St, hF⟩ ?_
          clear hF; rintro μ σ w ⟨m, rfl, hmi, hno, hs, hF⟩
          refine Cg.slots hs ?_
          clear hs; intro σ
          refine Ia (Ha (Ca (Za rfl) (Ca (Za rfl) (Ca (Fj rfl rfl) (Da ?_)))))
          refine Bc rfl rfl (fun hc10 => ?_) (fun hc10 => ?_)
          ·
           refine Ra (Ja (Ia (Db (Ia ?_))))
           refine Ag (zs := []) (.free 0 (.free 1 (.free 2 (.free 3 (.free 4 (.free 5 (.free 6 (.free 7 (.free 8 (.free 9 (.free 10 .nil))))))))))) hF ?_
           clear hF; intro w hF
           refine Eb rfl (Fc Nf rfl) (Bk rfl (Mf isAgg22 rfl C0 0 rfl rfl) (Eb rfl (Za rfl) ?_))
           obtain ⟨ad10, hA10, hk10, hx10⟩ := hK.str_elem (i := m) by_Om
           refine Ib rfl (v := .pointer (some (ad10.add (m * 1)))) (fun w hC => Ya (i := (m : Int)) Pj rfl hA10 rfl by_Om by_Om) (Ib rfl (v := .string (bs (ks[m]))) (fun w hC => Vb isAgg9 rfl (hC.cell0 hk10)) (Eb rfl (Fc Nf rfl) (Bk rfl (Mf isAgg22 rfl C0 0 rfl rfl) (Eb rfl (Za rfl) ?_))))
           obtain ⟨ad11, hA11, hk11, hx11⟩ := hK.str_elem (i := i) by_Om
           refine Ib rfl (v := .pointer (some (ad11.add (i * 1)))) (fun w hC => Ya (i := (i : Int)) Pj rfl hA11 rfl by_Om by_Om) (Ib rfl (v := .string (bs (ks[i]))) (fun w hC => Vb isAgg9 rfl (hC.cell0 hk11)) (Eb rfl (Mv rfl rfl) (Ic (Ja ?_))))
           refine Bc rfl rfl (fun hc11 => ?_) (fun hc11 => ?_)
           ·
            refine Ha (Ca (Cc rfl) (Da ?_))
            refine Ud (v := .bool false) rfl rfl ?_
            refine ⟨congrArg Value.bool ?_, hF.same⟩
            have h6 : k = 6 := by_Om
            subst h6
            exact (FL (i := i) (m := m) by_Om by_Om (by assumption)).symm
           ·
            refine Ra (Wb (Ja (Ga (Ca (Za rfl) (Ca (Di (((m + 1 : Nat) : Int)) rfl rfl) (Ca (Kb rfl) (Cb ?_)))))))
            refine Gb ⟨_, ?_, m + 1, rfl, by_Om, (fun q hq h => by rcases Nat.lt_or_ge q m with h1 | h1; exact hno q hq h1; obtain rfl : q = m := by_Om; assumption), St, hF⟩
            omega
          ·
           refine Oc (Nc rfl ?_)
           refine Wb (Ja (Ga (Ca (Za rfl) (Ca (Di (((i + 1 : Nat) : Int)) rfl rfl) (Ca (Kb rfl) (Cb ?_))))))
           refine Gb ⟨_, ?_, i + 1, rfl, by_Om, (Ps by_Om hva (Te (by assumption))), (Iq by_Om hnd (fun hm => by obtain ⟨q, hq, hq2⟩ := List.mem_take_iff_getElem.1 hm; exact hno q by_Om by_Om hq2)), Nv, hF⟩
           omega
        ·
         refine Oc (Nc rfl ?_)
         refine Ja (Ha (Ca (Fc Pf rfl) (Uc (Ko isAgg9 rfl hF.F 0 rfl rfl) (Ca (Mv rfl rfl) (Ca (Jc rfl) ?_)))))
         refine Mb (d := 126) rfl (fun hg12 => ?_) (fun hg12 => ?_)
         ·
          refine Ca (Fc Nf rfl) (Uc (Mf isAgg22 rfl hF.F 0 rfl rfl) (Ca (Ji underlying22 rfl) (Ca (Fc Vc rfl) (Uc (Mf isAgg23 rfl hF.F 0 rfl rfl) (Ca (Ji underlying23 rfl) (Ca (Li rfl rfl) (Ca (Lc rfl rfl) (Ca (Cc rfl) (Da ?_)))))))))
          refine Ud (v := .bool _) rfl rfl ?_
          refine ⟨congrArg Value.bool ?_, hF.same⟩
          have h6 : k = 6 := by_Om
          subst h6
          have hz := YA (t := t) (ks := ks) (xs := xs) (by rw [← List.take_of_length_le (show ks.length ≤ i by omega)]; exact hnd) (by rw [← List.take_of_length_le (show ks.length ≤ i by omega)]; exact hva)
          rw [hz]
          first | (rw [decide_eq_true (show t = [] by assumption), Bool.true_and]) | (rw [decide_eq_false (show ¬ t = [] by assumption), Bool.false_and])
         ·
          refine Ea (Ea (Ea (Ea (Ea (Ea (Ea (Ca (Dc rfl rfl) (Ca (Cc rfl) (Da ?_)))))))))
          refine Ud (v := .bool false) rfl rfl ?_
          refine ⟨congrArg Value.bool ?_, hF.same⟩
          have h6 : k = 6 := by_Om
          subst h6
          have hz := YA (t := t) (ks := ks) (xs := xs) (by rw [← List.take_of_length_le (show ks.length ≤ i by omega)]; exact hnd) (by rw [← List.take_of_length_le (show ks.length ≤ i by omega)]; exact hva)
          rw [hz]
          first | (rw [decide_eq_true (show t = [] by assumption), Bool.true_and]) | (rw [decide_eq_false (show ¬ t = [] by assumption), Bool.false_and])
       ·
        refine Ra (Wb (Ja (Ha (Ca (Cc rfl) (Da ?_)))))
        refine Ud (v := .bool false) rfl rfl ?_
        refine ⟨congrArg Value.bool ?_, hF.same⟩
        exact (NF by_Om by_Om by_Om by_Om by_Om by_Om by_Om).symm
theorem V5 {α : Type} {f : α → Bool} {l : List α} {j : Nat} (h : j < l.length) (ha : (l.take j).all f = true) (hf : f l[j] = true) : (l.take (j + 1)).all f = true := by
  rw [List.take_succ_eq_append_getElem h, List.all_append, ha, List.all_cons, hf]; rfl
theorem Wm {α : Type} {f : α → Bool} {l : List α} {j : Nat} (h : j < l.length) (hf : f l[j] = false) : l.all f = false := by
  rw [Bool.eq_false_iff]; intro ha
  have := List.all_eq_true.1 ha l[j] (List.getElem_mem h)
  rw [hf] at this; cases this
theorem Vv {h : Bool} {x : Tree} (h1 : (!nodeB x) = true) : Iw h x = false := by rw [Iw, Gi h1]; rfl
theorem Lw {h : Bool} {k : Int} {t : Str} {ks : List Str} {xs : List Tree} (h1 : k = 7) (h2 : h = false) : Iw h (.node k t ks xs) = false := by rw [Iw, h2]; simp [Tree.kind, h1]
theorem Fs {h : Bool} {k : Int} {t : Str} {ks : List Str} {xs : List Tree} (h0 : nodeB (.node k t ks xs) = true) (h1 : ¬ k = 7) : Iw h (.node k t ks xs) = true := by rw [Iw, h0]; simp [Tree.kind, h1]
theorem Xr {h : Bool} {x : Tree} (h0 : nodeB x = true) (h1 : h = true) : Iw h x = true := by rw [Iw, h0, h1]; rfl
theorem Vr (q : Tree → Bool) (k : Int) (t : Str) (ks : List Str) (xs : List Tree) : Yd q (.node k t ks xs) = (q (.node k t ks xs) && xs.all (Yd q)) := by rw [Yd, Ip]
theorem M6 (k : Int) (t : Str) (ks : List Str) (xs : List Tree) (ih : ∀ x, x ∈ xs → GA x) : GA (.node k t ks xs) := by
 intro hsz hm h S w0 cs hR
 obtain ⟨A, c, B, e, rfl, -, -, hK, hX⟩ := hR.tree_inv
 have hR0 := hR
 have hXl := hX.slice_len
 rw [Ec] at hsz
 refine Ma func65 rfl ntmps65 Qb (Wd _ _) ?_
 have hF := FR.start w0 []
 refine Ha ?_
 refine Bh hF rfl ?_
 clear hF; rintro b1 w hb1 hF -
 refine Ca (Cc rfl) (Yb (Uc (Bi isAgg25 sizeOf25 rfl hF.F 0 rfl rfl) ?_))
 refine Va hF (FG k t ks xs _ _ _ (hF.rep hR0) hm) (Ua WR rfl rfl) ?_
 clear hF; intro w hF
 refine Ca (Cc rfl) (Da (Ia (Ha (Ca (Jc rfl) (Ca (Dm rfl) (Ca (Jc rfl) ?_))))))
 refine Qe (d := 12) rfl (fun hg0 => ?_) (fun hg0 => ?_)
 refine Ea (Ea (Ea (Ea (Ea (Ea (Ea (Ca (Lc rfl rfl) (Da (Qd rfl (Ha (Ca (Cc rfl) ?_)))))))))))
 refine Da ?_
 refine Ud (v := .bool false) rfl rfl ?_
 refine ⟨congrArg Value.bool ?_, hF.same⟩
 rw [Vr]
 · first | (rw [Vv (by assumption)]; rfl) | (rw [Lw (by assumption) (Gi (by assumption))]; rfl) | (rw [Wm (f := Yd (Iw h)) (l := xs) (j := j) by_Om (Gi (by assumption))]; simp; done) | (have hz : xs.all (Yd (Iw h)) = true := (by rw [← List.take_of_length_le (show xs.length ≤ j by omega)]; exact ha); rw [hz]; first | (rw [Fs (Te (by assumption)) (by assumption)]; rfl) | (rw [Xr (Te (by assumption)) (Te (by assumption))]; rfl))
 refine Ca (Fc Ke rfl) (Uc (Nm isAgg3 rfl hF.F 0 rfl rfl) (Ca (Li rfl rfl) (Ca (Jc rfl) ?_)))
 refine Mb (d := 16) rfl (fun hg1 => ?_) (fun hg1 => ?_)
 refine Ca (Jc rfl) (Ca (Dm rfl) (Ca (Lc rfl rfl) (Ca (Dc rfl rfl) (Da ?_))))
 refine Vh rfl rfl (fun hc0 => ?_) (fun hc0 => ?_)
 refine Ha (Ca (Cc rfl) (Da ?_))
 refine Ud (v := .bool false) rfl rfl ?_
 refine ⟨congrArg Value.bool ?_, hF.same⟩
 rw [Vr]
 · first | (rw [Vv (by assumption)]; rfl) | (rw [Lw (by assumption) (Gi (by assumption))]; rfl) | (rw [Wm (f := Yd (Iw h)) (l := xs) (j := j) by_Om (Gi (by assumption))]; simp; done) | (have hz : xs.all (Yd (Iw h)) = true := (by rw [← List.take_of_length_le (show xs.length ≤ j by omega)]; exact ha); rw [hz]; first | (rw [Fs (Te (by assumption)) (by assumption)]; rfl) | (rw [Xr (Te (by assumption)) (Te (by assumption))]; rfl))
 refine Ra (Ja (Ia (Ha (Ca (Kb rfl) (Da (Db ?_))))))
 refine Xc (fun μ σ w => ∃ (j : Nat), μ = xs.length - j ∧ (j ≤ xs.length) ∧ ((xs.take j).all (Yd (Iw h)) = true) ∧ AllEq σ [(1, .bool (h)), (2, .pointer (some ⟨b1, 0, none⟩)), (6, .int .i64 ((j : Int)))] ∧ FR w0 [] [(b1, .cells #[.int .i64 k, .string (bs t), .slice A ks.length c, .slice B xs.length e] 25)] w) _ ⟨0, rfl, (Nat.zero_le _), Sa, St, hF⟩ ?_
 clear hF; rintro μ σ w ⟨j, rfl, hj, ha, hs, hF⟩
 refine Cg.slots hs ?_
 clear hs; intro σ
 refine Ia (Ha (Ca (Za rfl) (Ca (Fc Vc rfl) (Uc (Mf isAgg23 rfl hF.F 0 rfl rfl) (Ca (Ji underlying23 rfl) (Ca (Fj rfl rfl) (Da ?_)))))))
 refine Bc rfl rfl (fun hc1 => ?_) (fun hc1 => ?_)
 refine Ra (Ja (Ia (Db (Ha (Ca (Fc Vc rfl) (Uc (Mf isAgg23 rfl hF.F 0 rfl rfl) (Ca (Za rfl) ?_)))))))
 obtain ⟨ad2, cs2, hA2, hl2, hk2, hx2⟩ := hX.tree_elem (i := j) by_Om
 have ho2 := hx2.one_
 refine Fa (v := .pointer (some (ad2.add (j * 4)))) (Ya (i := (j : Int)) Sj rfl hA2 rfl by_Om by_Om) (Fa (v := .agg (List.toArray cs2)) (Rb (l := cs2) isAgg25 sizeOf25 rfl hl2 (hF.cells0 hk2)) (Ca (Jc rfl) ?_))
 refine Va hF (ih _ (List.getElem_mem _) (by have := If (List.getElem_mem (l := xs) (n := j) by_Om); omega) (by have := Pg (List.getElem_mem (l := xs) (n := j) by_Om); rw [Ae] at hm; omega) h _ _ _ (hF.rep hx2)) (Pa PC rfl rfl rfl) ?_
 clear hF; intro w hF
 refine Ca (Cc rfl) (Yb (Ca (Jc rfl) (Ca (Dm rfl) (Da ?_))))
 refine Vh rfl rfl (fun hc2 => ?_) (fun hc2 => ?_)
 refine Ha (Ca (Cc rfl) (Da ?_))
 refine Ud (v := .bool false) rfl rfl ?_
 refine ⟨congrArg Value.bool ?_, hF.same⟩
 rw [Vr]
 · first | (rw [Vv (by assumption)]; rfl) | (rw [Lw (by assumption) (Gi (by assumption))]; rfl) | (rw [Wm (f := Yd (Iw h)) (l := xs) (j := j) by_Om (Gi (by assumption))]; simp; done) | (have hz : xs.all (Yd (Iw h)) = true := (by rw [← List.take_of_length_le (show xs.length ≤ j by omega)]; exact ha); rw [hz]; first | (rw [Fs (Te (by assumption)) (by assumption)]; rfl) | (rw [Xr (Te (by assumption)) (Te (by assumption))]; rfl))
 refine Ra (Wb (Ja (Ga (Ca (Za rfl) (Ca (Di (((j + 1 : Nat) : Int)) rfl rfl) (Ca (Kb rfl) (Cb ?_)))))))
 refine Gb ⟨_, ?_, j + 1, rfl, by_Om, (V5 by_Om ha (Te (by assumption))), St, hF⟩
 omega
 refine Oc (Nc rfl ?_)
 refine Ja (Ha (Ca (Cc rfl) (Da ?_)))
 refine Ud (v := .bool true) rfl rfl ?_
 refine ⟨congrArg Value.bool ?_, hF.same⟩
 rw [Vr]
 · first | (rw [Vv (by assumption)]; rfl) | (rw [Lw (by assumption) (Gi (by assumption))]; rfl) | (rw [Wm (f := Yd (Iw h)) (l := xs) (j := j) by_Om (Gi (by assumption))]; simp; done) | (have hz : xs.all (Yd (Iw h)) = true := (by rw [← List.take_of_length_le (show xs.length ≤ j by omega)]; exact ha); rw [hz]; first | (rw [Fs (Te (by assumption)) (by assumption)]; rfl) | (rw [Xr (Te (by assumption)) (Te (by assumption))]; rfl))
 refine Ea (Ea (Ca (Dc rfl rfl) (Ca (Dc rfl rfl) (Da (Ni rfl (Ia (Ha (Ca (Kb rfl) (Cb ?_)))))))))
 refine Ja (Db ?_)
 refine Xc (fun μ σ w => ∃ (j : Nat), μ = xs.length - j ∧ (j ≤ xs.length) ∧ ((xs.take j).all (Yd (Iw h)) = true) ∧ AllEq σ [(1, .bool (h)), (2, .pointer (some ⟨b1, 0, none⟩)), (6, .int .i64 ((j : Int)))] ∧ FR w0 [] [(b1, .cells #[.int .i64 k, .string (bs t), .slice A ks.length c, .slice B xs.length e] 25)] w) _ ⟨0, rfl, (Nat.zero_le _), Sa, St, hF⟩ ?_
 clear hF; rintro μ σ w ⟨j, rfl, hj, ha, hs, hF⟩
 refine Cg.slots hs ?_
 clear hs; intro σ
 refine Ia (Ha (Ca (Za rfl) (Ca (Fc Vc rfl) (Uc (Mf isAgg23 rfl hF.F 0 rfl rfl) (Ca (Ji underlying23 rfl) (Ca (Fj rfl rfl) (Da ?_)))))))
 refine Bc rfl rfl (fun hc1 => ?_) (fun hc1 => ?_)
 refine Ra (Ja (Ia (Db (Ha (Ca (Fc Vc rfl) (Uc (Mf isAgg23 rfl hF.F 0 rfl rfl) (Ca (Za rfl) ?_)))))))
 obtain ⟨ad3, XN, hA3, hl3, hk3, hx3⟩ := hX.tree_elem (i := j) by_Om
 have ho3 := hx3.one_
 refine Fa (v := .pointer (some (ad3.add (j * 4)))) (Ya (i := (j : Int)) Sj rfl hA3 rfl by_Om by_Om) (Fa (v := .agg (List.toArray XN)) (Rb (l := XN) isAgg25 sizeOf25 rfl hl3 (hF.cells0 hk3)) (Ca (Jc rfl) ?_))
 refine Va hF (ih _ (List.getElem_mem _) (by have := If (List.getElem_mem (l := xs) (n := j) by_Om); omega) (by have := Pg (List.getElem_mem (l := xs) (n := j) by_Om); rw [Ae] at hm; omega) h _ _ _ (hF.rep hx3)) (Pa PC rfl rfl rfl) ?_
 clear hF; intro w hF
 refine Ca (Cc rfl) (Yb (Ca (Jc rfl) (Ca (Dm rfl) (Da ?_))))
 refine Vh rfl rfl (fun hc2 => ?_) (fun hc2 => ?_)
 refine Ha (Ca (Cc rfl) (Da ?_))
 refine Ud (v := .bool false) rfl rfl ?_
 refine ⟨congrArg Value.bool ?_, hF.same⟩
 rw [Vr]
 · first | (rw [Vv (by assumption)]; rfl) | (rw [Lw (by assumption) (Gi (by assumption))]; rfl) | (rw [Wm (f := Yd (Iw h)) (l := xs) (j := j) by_Om (Gi (by assumption))]; simp; done) | (have hz : xs.all (Yd (Iw h)) = true := (by rw [← List.take_of_length_le (show xs.length ≤ j by omega)]; exact ha); rw [hz]; first | (rw [Fs (Te (by assumption)) (by assumption)]; rfl) | (rw [Xr (Te (by assumption)) (Te (by assumption))]; rfl))
 refine Ra (Wb (Ja (Ga (Ca (Za rfl) (Ca (Di (((j + 1 : Nat) : Int)) rfl rfl) (Ca (Kb rfl) (Cb ?_)))))))
 refine Gb ⟨_, ?_, j + 1, rfl, by_Om, (V5 by_Om ha (Te (by assumption))), St, hF⟩
 omega
 refine Oc (Nc rfl ?_)
 refine Ja (Ha (Ca (Cc rfl) (Da ?_)))
 refine Ud (v := .bool true) rfl rfl ?_
 refine ⟨congrArg Value.bool ?_, hF.same⟩
 rw [Vr]
 · first | (rw [Vv (by assumption)]; rfl) | (rw [Lw (by assumption) (Gi (by assumption))]; rfl) | (rw [Wm (f := Yd (Iw h)) (l := xs) (j := j) by_Om (Gi (by assumption))]; simp; done) | (have hz : xs.all (Yd (Iw h)) = true := (by rw [← List.take_of_length_le (show xs.length ≤ j by omega)]; exact ha); rw [hz]; first | (rw [Fs (Te (by assumption)) (by assumption)]; rfl) | (rw [Xr (Te (by assumption)) (Te (by assumption))]; rfl))
theorem O2 (x : Tree) : GA x := Tree.ind M6 x
theorem Wy (x : Tree) (hsz : Ec x ≤ 1000000000) (hm : Ae x ≤ 1073741824) (S : Nat → Prop) (w0 : World) (cs : List Value) (hR : Rep S w0 (Gc x) cs) : Calls prog 38 #[.agg cs.toArray] w0 (Ce fun v w' => v = .bool (Yc x) ∧ Same [] w0 w') := by
 have hl : cs.length = 4 := hR.length.trans (Ac x)
 have ho := hR.one_
 refine Ma func38 rfl ntmps38 Qb (Rc _) ?_
 have hF := FR.start w0 []
 refine Ha ?_
 refine Vf (v := .agg (List.toArray cs)) (cs := (List.toArray cs)) hF rfl rfl ?_
 clear hF; rintro b1 w hb1 hF -
 refine Ca (Cc rfl) (Yb (Fa (v := .agg (List.toArray cs)) (Rb (l := cs) isAgg25 sizeOf25 rfl hl (hF.cellsAll 0 rfl)) ?_))
 refine Va hF (I6 x hsz _ _ cs (hF.rep hR)) (Ua JG rfl rfl) ?_
 clear hF; intro w hF
 refine Ca (T6 rfl rfl) (Ca (Jc rfl) ?_)
 refine Mb (d := 6) rfl (fun hg0 => ?_) (fun hg0 => ?_)
 refine Fa (v := .agg (List.toArray cs)) (Rb (l := cs) isAgg25 sizeOf25 rfl hl (hF.cellsAll 0 rfl)) ?_
 refine Va hF (S1 x hsz _ _ cs (hF.rep hR)) (Ua IG rfl rfl) ?_
 clear hF; intro w hF
 refine Ca (T6 rfl rfl) (Ca (Lc rfl rfl) (Ca (Jc rfl) ?_))
 refine Mb (d := 11) rfl (fun hg1 => ?_) (fun hg1 => ?_)
 refine Fa (v := .agg (List.toArray cs)) (Rb (l := cs) isAgg25 sizeOf25 rfl hl (hF.cellsAll 0 rfl)) ?_
 refine Va hF ((by have h := O2 x hsz hm false _ _ cs (hF.rep hR); rw [SH] at h; exact h)) (Pa PC rfl rfl rfl) ?_
 clear hF; intro w hF
 refine Ca (Lc rfl rfl) (Ca (Cc rfl) (Da ?_))
 refine Ud (v := .bool _) rfl rfl ?_
 refine ⟨congrArg Value.bool ?_, hF.same⟩
 unfold Yc Yj
 · first | (rw [decide_eq_false (show ¬ Ec x ≤ 4096 by omega)]; simp; done) | (rw [decide_eq_false (show ¬ Wc x ≤ 32 by omega)]; simp; done) | (rw [decide_eq_true (show Ec x ≤ 4096 by omega), decide_eq_true (show Wc x ≤ 32 by omega)]; simp; done) | simp_all
 refine Ea (Ea (Ca (Dc rfl rfl) (Ca (Cc rfl) (Da ?_))))
 refine Ud (v := .bool false) rfl rfl ?_
 refine ⟨congrArg Value.bool ?_, hF.same⟩
 unfold Yc Yj
 · first | (rw [decide_eq_false (show ¬ Ec x ≤ 4096 by omega)]; simp; done) | (rw [decide_eq_false (show ¬ Wc x ≤ 32 by omega)]; simp; done) | (rw [decide_eq_true (show Ec x ≤ 4096 by omega), decide_eq_true (show Wc x ≤ 32 by omega)]; simp; done) | simp_all
 refine Ea (Ea (Ea (Ca (Dc rfl rfl) (Ca (Jc rfl) (Ea (Ea (Ca (Dc rfl rfl) (Ca (Cc rfl) (Da ?_)))))))))
 refine Ud (v := .bool false) rfl rfl ?_
 refine ⟨congrArg Value.bool ?_, hF.same⟩
 unfold Yc Yj
 · first | (rw [decide_eq_false (show ¬ Ec x ≤ 4096 by omega)]; simp; done) | (rw [decide_eq_false (show ¬ Wc x ≤ 32 by omega)]; simp; done) | (rw [decide_eq_true (show Ec x ≤ 4096 by omega), decide_eq_true (show Wc x ≤ 32 by omega)]; simp; done) | simp_all
theorem YK (x : Tree) (hsz : Ec x ≤ 1000000000) (hm : Ae x ≤ 1073741824) (S : Nat → Prop) (w0 : World) (cs : List Value) (hR : Rep S w0 (Gc x) cs) : Calls prog 68 #[.agg cs.toArray] w0 (Ce fun v w' => v = .bool (Ti x) ∧ Same [] w0 w') := by
 have hl : cs.length = 4 := hR.length.trans (Ac x)
 have ho := hR.one_
 refine Ma func68 rfl ntmps68 Qb (Rc _) ?_
 have hF := FR.start w0 []
 refine Ha ?_
 refine Vf (v := .agg (List.toArray cs)) (cs := (List.toArray cs)) hF rfl rfl ?_
 clear hF; rintro b1 w hb1 hF -
 refine Ca (Cc rfl) (Yb (Fa (v := .agg (List.toArray cs)) (Rb (l := cs) isAgg25 sizeOf25 rfl hl (hF.cellsAll 0 rfl)) ?_))
 refine Va hF (I6 x hsz _ _ cs (hF.rep hR)) (Ua JG rfl rfl) ?_
 clear hF; intro w hF
 refine Ca (T6 rfl rfl) (Ca (Jc rfl) ?_)
 refine Mb (d := 6) rfl (fun hg0 => ?_) (fun hg0 => ?_)
 refine Fa (v := .agg (List.toArray cs)) (Rb (l := cs) isAgg25 sizeOf25 rfl hl (hF.cellsAll 0 rfl)) ?_
 refine Va hF (S1 x hsz _ _ cs (hF.rep hR)) (Ua IG rfl rfl) ?_
 clear hF; intro w hF
 refine Ca (T6 rfl rfl) (Ca (Lc rfl rfl) (Ca (Jc rfl) ?_))
 refine Mb (d := 11) rfl (fun hg1 => ?_) (fun hg1 => ?_)
 refine Fa (v := .agg (List.toArray cs)) (Rb (l := cs) isAgg25 sizeOf25 rfl hl (hF.cellsAll 0 rfl)) ?_
 refine Va hF ((by have h := O2 x hsz hm true _ _ cs (hF.rep hR); rw [XK] at h; exact h)) (Pa PC rfl rfl rfl) ?_
 clear hF; intro w hF
 refine Ca (Lc rfl rfl) (Ca (Cc rfl) (Da ?_))
 refine Ud (v := .bool _) rfl rfl ?_
 refine ⟨congrArg Value.bool ?_, hF.same⟩
 unfold Ti Yj
 · first | (rw [decide_eq_false (show ¬ Ec x ≤ 4096 by omega)]; simp; done) | (rw [decide_eq_false (show ¬ Wc x ≤ 32 by omega)]; simp; done) | (rw [decide_eq_true (show Ec x ≤ 4096 by omega), decide_eq_true (show Wc x ≤ 32 by omega)]; simp; done) | simp_all
 refine Ea (Ea (Ca (Dc rfl rfl) (Ca (Cc rfl) (Da ?_))))
 refine Ud (v := .bool false) rfl rfl ?_
 refine ⟨congrArg Value.bool ?_, hF.same⟩
 unfold Ti Yj
 · first | (rw [decide_eq_false (show ¬ Ec x ≤ 4096 by omega)]; simp; done) | (rw [decide_eq_false (show ¬ Wc x ≤ 32 by omega)]; simp; done) | (rw [decide_eq_true (show Ec x ≤ 4096 by omega), decide_eq_true (show Wc x ≤ 32 by omega)]; simp; done) | simp_all
 refine Ea (Ea (Ea (Ca (Dc rfl rfl) (Ca (Jc rfl) (Ea (Ea (Ca (Dc rfl rfl) (Ca (Cc rfl) (Da ?_)))))))))
 refine Ud (v := .bool false) rfl rfl ?_
 refine ⟨congrArg Value.bool ?_, hF.same⟩
 unfold Ti Yj
 · first | (rw [decide_eq_false (show ¬ Ec x ≤ 4096 by omega)]; simp; done) | (rw [decide_eq_false (show ¬ Wc x ≤ 32 by omega)]; simp; done) | (rw [decide_eq_true (show Ec x ≤ 4096 by omega), decide_eq_true (show Wc x ≤ 32 by omega)]; simp; done) | simp_all
def DM (ks : List Str) (key : Str) : Int := if key ∈ ks then ((ks.idxOf key : Nat) : Int) else -1
theorem KF : ∀ {ks : List Str} {key : Str} {j : Nat} (h : j < ks.length), (∀ x ∈ ks.take j, x ≠ key) → ks[j] = key → ks.idxOf key = j
  | k :: ks, key, 0, _, _, he => by
    have he' : k = key := he
    rw [List.idxOf_cons, he']; simp
  | k :: ks, key, j + 1, h, hn, he => by
    have h0 : k ≠ key := hn k Sa
    rw [List.idxOf_cons]
    have hb : (k == key) = false := by simpa using h0
    rw [hb]
    simp only [cond_false]
    rw [KF (ks := ks) (j := j) (by simpa using h) (fun x hx => hn x (by simp [hx])) (by simpa using he)]
theorem TF {ks : List Str} {key : Str} {j : Nat} (h : j < ks.length) (hn : ∀ x ∈ ks.take j, x ≠ key) (he : ks[j] = key) : DM ks key = (j : Int) := by
  rw [DM, if_pos (by rw [← he]; exact List.getElem_mem h), KF h hn he]
theorem JK {ks : List Str} {key : Str} (hn : ∀ x ∈ ks, x ≠ key) : DM ks key = -1 := by
  rw [DM, if_neg (fun h => hn key h rfl)]
theorem PK {ks : List Str} {key : Str} {j : Nat} (h : j < ks.length) (hn : ∀ x ∈ ks.take j, x ≠ key) (he : ks[j] ≠ key) : ∀ x ∈ ks.take (j + 1), x ≠ key := by
  rw [List.take_succ_eq_append_getElem h]
  intro x hx
  rcases List.mem_append.1 hx with hx | hx
  · exact hn x hx
  · rw [List.mem_singleton.1 hx]; exact he
theorem HT (k : Int) (t : Str) (ks : List Str) (xs : List Tree) (key : Str) (S : Nat → Prop) (w0 : World) (cs : List Value) (hR : Rep S w0 (Gc (.node k t ks xs)) cs) : Calls prog 87 #[.agg cs.toArray, .string (bs key)] w0 (Ce fun v w' => v = .int .i64 (DM ks key) ∧ Same [] w0 w') := by
 obtain ⟨A, c, B, e, rfl, -, -, hK, hX⟩ := hR.tree_inv
 have hKl := hK.slice_len
 refine Ma func87 rfl ntmps87 Qb (Wd _ _) ?_
 have hF := FR.start w0 []
 refine Ha ?_
 refine Bh hF rfl ?_
 clear hF; rintro b1 w hb1 hF -
 refine Ca (Kb rfl) (Da (Ia (Ha (Ca (Kb rfl) (Da (Db ?_))))))
 refine Xc (fun μ σ w => ∃ (j : Nat), μ = ks.length - j ∧ (j ≤ ks.length) ∧ (∀ x ∈ ks.take j, x ≠ key) ∧ AllEq σ [(1, .string (bs key)), (2, .pointer (some ⟨b1, 0, none⟩)), (5, .int .i64 ((j : Int)))] ∧ FR w0 [] [(b1, .cells #[.int .i64 k, .string (bs t), .slice A ks.length c, .slice B xs.length e] 25)] w) _ ⟨0, rfl, (Nat.zero_le _), Sa, St, hF⟩ ?_
 clear hF; rintro μ σ w ⟨j, rfl, hj, hno, hs, hF⟩
 refine Cg.slots hs ?_
 clear hs; intro σ
 refine Ia (Ha (Ca (Za rfl) (Ca (Fc Nf rfl) (Uc (Mf isAgg22 rfl hF.F 0 rfl rfl) (Ca (Ji underlying22 rfl) (Ca (Fj rfl rfl) (Da ?_)))))))
 refine Bc rfl rfl (fun hc0 => ?_) (fun hc0 => ?_)
 refine Ra (Ja (Ia (Db (Ha (Ca (Fc Nf rfl) (Uc (Mf isAgg22 rfl hF.F 0 rfl rfl) (Ca (Za rfl) ?_)))))))
 obtain ⟨ad0, hA0, hk0, hx0⟩ := hK.str_elem (i := j) by_Om
 refine Fa (v := .pointer (some (ad0.add (j * 1)))) (Ya (i := (j : Int)) Pj rfl hA0 rfl by_Om by_Om) (Fa (v := .string (bs (ks[j]))) (Vb isAgg9 rfl (hF.cell0 hk0)) (Ca (Pc rfl) (Ca (Mv rfl rfl) (Da ?_))))
 refine Bc rfl rfl (fun hc1 => ?_) (fun hc1 => ?_)
 refine Ha (Ca (Za rfl) (Ca (Kb rfl) (Da ?_)))
 refine Ud (v := .int .i64 ((j : Int))) rfl rfl ?_
 exact ⟨by rw [TF by_Om hno (by assumption)], hF.same⟩
 refine Ra (Wb (Ja (Ga (Ca (Za rfl) (Ca (Di (((j + 1 : Nat) : Int)) rfl rfl) (Ca (Kb rfl) (Cb ?_)))))))
 refine Gb ⟨_, ?_, j + 1, rfl, by_Om, (PK by_Om hno (by assumption)), St, hF⟩
 omega
 refine Oc (Nc rfl ?_)
 refine Ja (Ha (Ca (Kb rfl) (Da ?_)))
 refine Ud (v := .int .i64 ((-1))) rfl rfl ?_
 exact ⟨by rw [JK (by rw [List.take_of_length_le by_Om] at hno; exact hno)], hF.same⟩
end Go.Scarf
