/- A part of the proof. -/
import Derived.Test.YtepbomjpbdbejaaGreatDoorA17
import Derived.Test.YtepbomjpbdbejaaGreatDoorA12
import Derived.Test.YtepbomjpbdbejaaGreatDoorZ11
set_option linter.all false
set_option maxHeartbeats 8000000
set_option maxRecDepth 10000
namespace Go.Scarf
open Go.RowKit Go.Proofs Go.Proofs.Tryz
def Jv (xl yl : List Tree) (mp : List (Nat × Nat)) (i : Nat) : Nat := Wl Jg (Pt mp) 0 ((xl.map Fb).take i) + Wl Jg (Vt mp) 0 ((yl.map Fb).take (i - xl.length))
theorem BR {xl yl : List Tree} {mp : List (Nat × Nat)} {i : Nat} (h : i < xl.length) : Jv xl yl mp (i + 1) = Jv xl yl mp i + (if Pt mp i then 0 else Jg (Fb xl[i])) := by
  unfold Jv
  rw [show i + 1 - xl.length = 0 by omega, show i - xl.length = 0 by omega, List.take_succ_eq_append_getElem (by simpa using h), Nv, List.length_take, Nat.min_eq_left (show i ≤ (xl.map Fb).length by rw [List.length_map]; omega), Nat.zero_add, List.getElem_map, List.take_zero, Wl]
  omega
theorem TQ {xl yl : List Tree} {mp : List (Nat × Nat)} {i : Nat} (h : ¬ i < xl.length) (h2 : i - xl.length < yl.length) : Jv xl yl mp (i + 1) = Jv xl yl mp i + (if Vt mp (i - xl.length) then 0 else Jg (Fb yl[i - xl.length])) := by
  unfold Jv
  rw [show i + 1 - xl.length = (i - xl.length) + 1 by omega, List.take_of_length_le (show (xl.map Fb).length ≤ i + 1 by simp; omega), List.take_of_length_le (show (xl.map Fb).length ≤ i by simp; omega), List.take_succ_eq_append_getElem (by simpa using h2), Nv, List.length_take, Nat.min_eq_left (show i - xl.length ≤ (yl.map Fb).length by rw [List.length_map]; omega), Nat.zero_add, List.getElem_map]
  omega
theorem GH (xl yl : List Tree) (mp : List (Nat × Nat)) : Jv xl yl mp (xl.length + yl.length) = Wl Jg (Pt mp) 0 (xl.map Fb) + Wl Jg (Vt mp) 0 (yl.map Fb) := by
  unfold Jv
  rw [List.take_of_length_le (by rw [List.length_map]; omega), List.take_of_length_le (by rw [List.length_map]; omega)]
theorem UD (a b : Nat) : (a == b) = decide ((a : Int) = (b : Int)) := by rw [Bool.eq_iff_iff, beq_iff_eq, decide_eq_true_eq]; omega
theorem U3 {mp : List (Nat × Nat)} {k i : Nat} (h : k < mp.length) : Pt (mp.take (k + 1)) i = (Pt (mp.take k) i || decide (((mp[k].1 : Nat) : Int) = (i : Int))) := by
  unfold Pt
  rw [List.take_succ_eq_append_getElem h, List.any_append]
  simp only [List.any_cons, List.any_nil, Bool.or_false, UD]
theorem E3 {mp : List (Nat × Nat)} {k i : Nat} (h : k < mp.length) : Vt (mp.take (k + 1)) i = (Vt (mp.take k) i || decide (((mp[k].2 : Nat) : Int) = (i : Int))) := by
  unfold Vt
  rw [List.take_succ_eq_append_getElem h, List.any_append]
  simp only [List.any_cons, List.any_nil, Bool.or_false, UD]
theorem MF {q : Nat → Nat → Nat} {mp : List (Nat × Nat)} {k : Nat} (h : k < mp.length) : J6 q (mp.take (k + 1)) = J6 q (mp.take k) + q mp[k].1 mp[k].2 := by
  unfold J6
  rw [List.take_succ_eq_append_getElem h, List.map_append, List.sum_append]; simp only [List.map_cons, List.map_nil, List.sum_cons, List.sum_nil, Nat.add_zero]
theorem NN {x y : Tree} (hx : Zb x = true) (hy : Zb y = true) : BF x y = ((pN (Fb x) (Fb y) : Nat) : Int) ∧ SE x y = 0 := by
  unfold BF SE
  rw [hx, hy]
  exact ⟨rfl, rfl⟩
theorem ET {x y : Tree} : pN (Fb x) (Fb y) ≤ Jg (Fb x) + Jg (Fb y) := (Xn (ls := (Fb x).1) (fs := (Fb x).2) (gs := (Fb y).1) (hs := (Fb y).2)).1
theorem XJ (w0 : World) (hG : Gl w0) (xl : List Tree) (A : Option Addr) (c : Nat) (hA_ : Rep (fun _ => True) w0 (.slice (Dd xl)) [.slice A xl.length c]) (yl : List Tree) (B : Option Addr) (e : Nat) (hB_ : Rep (fun _ => True) w0 (.slice (Dd yl)) [.slice B yl.length e]) (S : Nat → Prop) (m : List (Int × Int)) (Cm : Option Addr) (cm : Nat) (hM : Rep S w0 (Kh m) [.slice Cm m.length cm]) (hno : Wg xl.length m yl.length = false) : Calls prog 21 #[.slice A xl.length c, .slice B yl.length e, .slice Cm m.length cm] w0 (Rd fun v w' => v = .int .i64 (-1) ∧ Same [] w0 w') := by
 have hXl := hA_.slice_len
 have hYl := hB_.slice_len
 have hMl := hM.pairs_len
 rw [Mf] at hXl hYl
 refine Ma func21 rfl ntmps21 Jb (Yi _ _ _) ?_
 have hF := FR.start w0 []
 refine Ka (Ca (Gc rfl) (Cc (Ca (Md rfl) (Ca (Qe underlying22 rfl) (Ca (Md rfl) (Ca (Md rfl) (Ca (Qe underlying22 rfl) ?_)))))))
 refine Pb hF (Kf (v' := .bool false) (K4 _ _ (xl.length : Int) m Cm cm (hF.rep hM) (yl.length : Int)) (by rw [hno])) (Dc EP rfl rfl rfl rfl) ?_
 clear hF; intro w hF
 refine Ca (Ec rfl) (Ea (Ia (Ka (Ca (Fd rfl) (Ca (Oo (b := false) rfl) (Ea (Ae rfl (Ka (Ca (Gc rfl) ?_)))))))))
 refine Ea ?_
 refine Xd (v := .int .i64 ((-1))) rfl rfl ?_
 exact ⟨rfl, hF.same⟩
theorem H4 (w0 : World) (hG : Gl w0) (xl : List Tree) (A : Option Addr) (c : Nat) (hA_ : Rep (fun _ => True) w0 (.slice (Dd xl)) [.slice A xl.length c]) (yl : List Tree) (B : Option Addr) (e : Nat) (hB_ : Rep (fun _ => True) w0 (.slice (Dd yl)) [.slice B yl.length e]) (S : Nat → Prop) (mp : List (Nat × Nat)) (Cm : Option Addr) (cm : Nat) (hM : Rep S w0 (Kh (Mc mp)) [.slice Cm (Mc mp).length cm]) (hr : Wg xl.length (Mc mp) yl.length = true) (hml : mp.length ≤ 1000) (hxn : xl.length ≤ 100) (hyn : yl.length ≤ 100) (hmp : ∀ z ∈ mp, z.1 < xl.length ∧ z.2 < yl.length) (hokx : (∀ x ∈ xl, Zb x = true ∧ Jg (Fb x) ≤ 512 ∧ Ac x ≤ 256 ∧ Ee x ≤ 16777216)) (hoky : (∀ x ∈ yl, Zb x = true ∧ Jg (Fb x) ≤ 512 ∧ Ac x ≤ 256 ∧ Ee x ≤ 16777216)) : Calls prog 21 #[.slice A xl.length c, .slice B yl.length e, .slice Cm (Mc mp).length cm] w0 (Rd fun v w' => v = .int .i64 ((Xz xl yl mp : Nat) : Int) ∧ Same [] w0 w') := by
 have hXl := hA_.slice_len
 have hYl := hB_.slice_len
 have hMl := hM.pairs_len
 rw [Mf] at hXl hYl
 have hcl := Aw mp
 refine Ma func21 rfl ntmps21 Jb (Yi _ _ _) ?_
 have hF := FR.start w0 []
 refine Ka (Ca (Gc rfl) (Cc (Ca (Md rfl) (Ca (Qe underlying22 rfl) (Ca (Md rfl) (Ca (Md rfl) (Ca (Qe underlying22 rfl) ?_)))))))
 refine Pb hF (Kf (v' := .bool true) (K4 _ _ (xl.length : Int) (Mc mp) Cm cm (hF.rep hM) (yl.length : Int)) (by rw [hr])) (Dc EP rfl rfl rfl rfl) ?_
 clear hF; intro w hF
 refine Ca (Ec rfl) (Ea (Ia (Ka (Ca (Fd rfl) (Ca (Oo (b := true) rfl) (Ea (Wq rfl (Ia ?_))))))))
 refine Da (Ca (Gc rfl) (Ea (Ia (Ka (Ca (Gc rfl) (Ea (Va ?_)))))))
 refine Uc (fun μ σ w => ∃ (i : Nat), ∃ (acc : Nat), μ = xl.length + yl.length - i ∧ (i ≤ xl.length + yl.length) ∧ (acc = Jv xl yl mp i) ∧ (acc ≤ 512 * i) ∧ AllEq σ [(0, .slice A xl.length c), (1, .slice B yl.length e), (2, .slice (Cm) ((Mc mp).length) (cm)), (8, .int .i64 ((acc : Nat))), (9, .int .i64 ((i : Int)))] ∧ FR w0 [] [] w) _ ⟨0, 0, rfl, (Nat.zero_le _), (by simp [Jv, Wl]), (Nat.le_refl _), Jr, hF⟩ ?_
 clear hF; rintro μ σ w ⟨i, acc, rfl, hi, hacc, hb_, hs, hF⟩
 refine Cg.slots hs ?_
 clear hs; intro σ
 refine Ia (Ka (Ca (Hb rfl) (Ca (Md rfl) (Ca (Qe underlying22 rfl) (Ca (Md rfl) (Ca (Qe underlying22 rfl) (Ca (Qi (((xl.length + yl.length : Nat) : Int)) rfl rfl) (Ca (Nk rfl rfl) (Ea ?_)))))))))
 refine Pc rfl rfl (fun hc1 => ?_) (fun hc1 => ?_)
 ·
  refine Wa (Ha (Ia (Va (Ka (Ca (Ec rfl) (Cc ?_))))))
  refine Ja (w' := w) (v := .agg #[.int .i64 0, .string (bs []), .slice none 0 0, .slice none 0 0]) Ib ?_
  refine Bj hF zeroValue27 sizeOf27 rfl ?_
  clear hF; rintro b1 w hb1 hF -
  refine Ea (Ia ?_)
  refine Gw (fun σ w => ∃ (cz : List Value), ∃ (x : Tree), ∃ (d : Bool), (cz.length = 4) ∧ (∀ v ∈ cz, one v = true) ∧ (Rep (fun _ => True) w0 (Sc x) cz) ∧ (Zb x = true ∧ Jg (Fb x) ≤ 512 ∧ Ac x ≤ 256 ∧ Ee x ≤ 16777216) ∧ (Jv xl yl mp (i + 1) = Jv xl yl mp i + (if d then 0 else Jg (Fb x))) ∧ AllEq σ [(0, .slice A xl.length c), (1, .slice B yl.length e), (2, .slice (Cm) ((Mc mp).length) (cm)), (8, .int .i64 ((acc : Nat))), (9, .int .i64 ((i : Int))), (10, .bool (d)), (11, .pointer (some ⟨b1, 0, none⟩))] ∧ FR w0 [] [(b1, .cells (List.toArray cz) 27)] w) ?_ ?_
  ·
   refine Ka (Ca (Hb rfl) (Ca (Md rfl) (Ca (Qe underlying22 rfl) (Ca (Nk rfl rfl) (Ea ?_)))))
   refine Pc rfl rfl (fun hc2 => ?_) (fun hc2 => ?_)
   ·
    refine Ka (Ca (Md rfl) (Ca (Hb rfl) ?_))
    obtain ⟨ad0, cs0, hA0, hl0, hk0, hx0⟩ := hA_.tree_elem (i := i) by_Om
    have ho0 := hx0.one_
    refine Ja (v := .pointer (some (ad0.add (i * 4)))) (Oa (i := (i : Int)) Hi rfl hA0 rfl by_Om by_Om) (Ja (v := .agg (List.toArray cs0)) (Sb (l := cs0) isAgg27 sizeOf27 rfl hl0 (hF.cells0 hk0)) ?_)
    refine Bf 0 (l := cs0) (cs' := (List.toArray cs0)) hF (by rw [hl0]; exact sizeOf27) rfl (v := .agg (List.toArray cs0)) rfl rfl (ho0) rfl (by rw [hl0]; exact Nat.le_of_ble_eq_true rfl) (Rl (by rw [hl0]; rfl)) ?_
    clear hF; rintro w hF -
    replace hF : FR w0 [] [(b1, .cells (List.toArray cs0) 27)] w := hF
    refine Cc (Ca (Gc rfl) (Ea (Va ?_)))
    refine Uc (fun μ σ w => ∃ (k : Nat), ∃ (d1 : Bool), μ = mp.length - k ∧ (k ≤ mp.length) ∧ (d1 = Pt (mp.take k) i) ∧ AllEq σ [(0, .slice A xl.length c), (1, .slice B yl.length e), (2, .slice (Cm) ((Mc mp).length) (cm)), (8, .int .i64 ((acc : Nat))), (9, .int .i64 ((i : Int))), (10, .bool (d1)), (11, .pointer (some ⟨b1, 0, none⟩)), (12, .int .i64 ((k : Int)))] ∧ FR w0 [] [(b1, .cells (List.toArray cs0) 27)] w) _ ⟨0, false, rfl, (Nat.zero_le _), (by rw [List.take_zero]; rfl), K_, hF⟩ ?_
    clear hF; rintro μ σ w ⟨k, d1, rfl, hk_, hd1, hs, hF⟩
    refine Cg.slots hs ?_
    clear hs; intro σ
    refine Ia (Ka (Ca (Hb rfl) (Ca (Md rfl) (Ca (Qe underlying29 rfl) (Ca (Nk rfl rfl) (Ea ?_))))))
    refine Pc rfl rfl (fun hc3 => ?_) (fun hc3 => ?_)
    ·
     refine Wa (Ha (Ia (Va ?_)))
     obtain ⟨a, b, hmt⟩ : ∃ a b : Nat, mp[k] = (a, b) := ⟨_, _, rfl⟩
     have hab : (Mc mp)[k] = ((a : Int), (b : Int)) := by rw [Tk by_Om by_Om, hmt]
     have hab1 := hmp _ (List.getElem_mem (l := mp) (n := k) by_Om)
     rw [hmt] at hab1
     refine Da (Ca (Fd rfl) (Ca (Fd rfl) ?_))
     refine We (d := 52) rfl (fun hg1 => ?_) (fun hg1 => ?_)
     ·
      refine Sa (Sa (Sa (Sa (Sa (Sa (Sa (Ca (Oc rfl rfl) (Ca (Ec rfl) (Ya (Mb (Ha (Da (Ca (Hb rfl) ?_)))))))))))))
      refine Ca (Qi (((k + 1 : Nat) : Int)) rfl rfl) (Ca (Gc rfl) (Ya ?_))
      refine Ic ⟨_, ?_, k + 1, true, rfl, by_Om, (by rw [U3 by_Om, ← hd1, hmt]; cases d1 <;> first | rfl | (simp_all; done)), K_, hF⟩
      omega
     ·
      refine Ca (Md rfl) (Ca (Hb rfl) ?_)
      obtain ⟨ad2, hA2, hk2, hx2⟩ := hM.pair_elem (i := k) by_Om
      rw [hab] at hk2 hx2
      refine Ja (v := .pointer (some (ad2.add (k * 2)))) (Oa (i := (k : Int)) Ik rfl hA2 rfl by_Om by_Om) (Ja (v := .pointer (some ((ad2.add (k * 2)).add 0))) (Nd (a := ad2.add (k * 2)) Ek rfl) (Ja (v := .int .i64 ((((a : Int), (b : Int))).1)) (Cb isAgg3 rfl (hF.cell0 (hk2 0 Jb))) (Ca (Hb rfl) (Ca (Fo rfl rfl) (Ca (Jd rfl rfl) (Ca (Ec rfl) (Ya (Mb (Ha (Da (Ca (Hb rfl) (Ca (Qi (((k + 1 : Nat) : Int)) rfl rfl) (Ca (Gc rfl) ?_)))))))))))))
      refine Ya ?_
      refine Ic ⟨_, ?_, k + 1, decide (((((a : Int), (b : Int))).1 : Int) = ((i : Int) : Int)), rfl, by_Om, (by rw [U3 by_Om, ← hd1, hmt]; cases d1 <;> first | rfl | (simp_all; done)), K_, hF⟩
      omega
    ·
     refine Nc (Lc rfl ?_)
     exact Ic ⟨(cs0), (xl[i]), (d1), (hl0), (ho0), (hx0.weaken fun _ _ _ => trivial), (hokx _ (List.getElem_mem by_Om)), (by rw [BR by_Om, hd1, show k = mp.length by omega, List.take_length]), HK, (hF.front 0 rfl)⟩
   ·
    refine Ka (Ca (Md rfl) (Ca (Hb rfl) (Ca (Md rfl) (Ca (Qe underlying22 rfl) (Ca (Zu (((i - xl.length : Nat) : Int)) rfl rfl) ?_)))))
    obtain ⟨ad3, XL, hA3, hl3, hk3, hx3⟩ := hB_.tree_elem (i := (i - xl.length)) by_Om
    have ho3 := hx3.one_
    refine Ja (v := .pointer (some (ad3.add ((i - xl.length) * 4)))) (Oa (i := ((i - xl.length : Nat) : Int)) Hi rfl hA3 rfl by_Om by_Om) (Ja (v := .agg (List.toArray XL)) (Sb (l := XL) isAgg27 sizeOf27 rfl hl3 (hF.cells0 hk3)) ?_)
    refine Bf 0 (l := XL) (cs' := (List.toArray XL)) hF (by rw [hl3]; exact sizeOf27) rfl (v := .agg (List.toArray XL)) rfl rfl (ho3) rfl (by rw [hl3]; exact Nat.le_of_ble_eq_true rfl) (Rl (by rw [hl3]; rfl)) ?_
    clear hF; rintro w hF -
    replace hF : FR w0 [] [(b1, .cells (List.toArray XL) 27)] w := hF
    refine Cc (Ca (Gc rfl) (Ea (Va ?_)))
    refine Uc (fun μ σ w => ∃ (k : Nat), ∃ (d1 : Bool), μ = mp.length - k ∧ (k ≤ mp.length) ∧ (d1 = Vt (mp.take k) (i - xl.length)) ∧ AllEq σ [(0, .slice A xl.length c), (1, .slice B yl.length e), (2, .slice (Cm) ((Mc mp).length) (cm)), (8, .int .i64 ((acc : Nat))), (9, .int .i64 ((i : Int))), (10, .bool (d1)), (11, .pointer (some ⟨b1, 0, none⟩)), (13, .int .i64 ((k : Int)))] ∧ FR w0 [] [(b1, .cells (List.toArray XL) 27)] w) _ ⟨0, false, rfl, (Nat.zero_le _), (by rw [List.take_zero]; rfl), K_, hF⟩ ?_
    clear hF; rintro μ σ w ⟨k, d1, rfl, hk_, hd1, hs, hF⟩
    refine Cg.slots hs ?_
    clear hs; intro σ
    refine Ia (Ka (Ca (Hb rfl) (Ca (Md rfl) (Ca (Qe underlying29 rfl) (Ca (Nk rfl rfl) (Ea ?_))))))
    refine Pc rfl rfl (fun hc4 => ?_) (fun hc4 => ?_)
    ·
     refine Wa (Ha (Ia (Va ?_)))
     obtain ⟨a, b, hmt⟩ : ∃ a b : Nat, mp[k] = (a, b) := ⟨_, _, rfl⟩
     have hab : (Mc mp)[k] = ((a : Int), (b : Int)) := by rw [Tk by_Om by_Om, hmt]
     have hab1 := hmp _ (List.getElem_mem (l := mp) (n := k) by_Om)
     rw [hmt] at hab1
     refine Da (Ca (Fd rfl) (Ca (Fd rfl) ?_))
     refine We (d := 75) rfl (fun hg4 => ?_) (fun hg4 => ?_)
     ·
      refine Sa (Sa (Sa (Sa (Sa (Sa (Sa (Sa (Sa (Sa (Ca (Oc rfl rfl) (Ca (Ec rfl) (Ya (Mb ?_)))))))))))))
      refine Ha (Da (Ca (Hb rfl) (Ca (Qi (((k + 1 : Nat) : Int)) rfl rfl) (Ca (Gc rfl) (Ya ?_)))))
      refine Ic ⟨_, ?_, k + 1, true, rfl, by_Om, (by rw [E3 by_Om, ← hd1, hmt]; cases d1 <;> first | rfl | (simp_all; done)), K_, hF⟩
      omega
     ·
      refine Ca (Md rfl) (Ca (Hb rfl) ?_)
      obtain ⟨ad5, hA5, hk5, hx5⟩ := hM.pair_elem (i := k) by_Om
      rw [hab] at hk5 hx5
      refine Ja (v := .pointer (some (ad5.add (k * 2)))) (Oa (i := (k : Int)) Ik rfl hA5 rfl by_Om by_Om) (Ja (v := .pointer (some ((ad5.add (k * 2)).add 1))) (Nd (a := ad5.add (k * 2)) Ri rfl) (Ja (v := .int .i64 ((((a : Int), (b : Int))).2)) (Cb isAgg3 rfl (hF.cell0 (hk5 1 Jb))) (Ca (Hb rfl) (Ca (Md rfl) (Ca (Qe underlying22 rfl) (Ca (Zu (((i - xl.length : Nat) : Int)) rfl rfl) (Ca (Fo rfl rfl) (Ca (Jd rfl rfl) (Ca (Ec rfl) (Ya (Mb (Ha (Da ?_)))))))))))))
      refine Ca (Hb rfl) (Ca (Qi (((k + 1 : Nat) : Int)) rfl rfl) (Ca (Gc rfl) (Ya ?_)))
      refine Ic ⟨_, ?_, k + 1, decide (((((a : Int), (b : Int))).2 : Int) = (((i - xl.length : Nat) : Int) : Int)), rfl, by_Om, (by rw [E3 by_Om, ← hd1, hmt]; cases d1 <;> first | rfl | (simp_all; done)), K_, hF⟩
      omega
    ·
     refine Nc (Lc rfl ?_)
     exact Ic ⟨(XL), (yl[i - xl.length]), (d1), (hl3), (ho3), (hx3.weaken fun _ _ _ => trivial), (hoky _ (List.getElem_mem by_Om)), (by rw [TQ by_Om by_Om, hd1, show k = mp.length by omega, List.take_length]), HK, (hF.front 0 rfl)⟩
  clear hF; rintro σ w ⟨cz, x, d, hlz, hoz, hZ, hxm, hd_, hs, hF⟩
  refine Eg.slots hs ?_
  clear hs; intro σ
  refine Ha (Ka (Ja (v := .agg (List.toArray cz)) (Sb (l := cz) isAgg27 sizeOf27 rfl hlz (hF.cellsAll 0 rfl)) ?_))
  refine Db (Cq x _ _ cz (hF.rep hZ) (hG.ext hF.same) hxm.2.2.1 (Nat.le_trans hxm.2.2.2 Ra) hxm.1) (Eb Hz rfl rfl) ?_
  rintro _ w ⟨A5, c5, B5, e5, rfl, -, -, hE⟩
  replace hF := hF.ext hE
  clear hE
  have hxl : (Be x).length ≤ 512 := hxm.2.1
  refine Ca (Xm rfl) (Ca (XA rfl rfl) (Ca (Zn rfl rfl) ?_))
  refine Bj hF zeroValue60 sizeOf60 rfl ?_
  clear hF; rintro b2 w hb2 hF -
  refine Ca (Gc rfl) (Ea (Ia (Ka (Ca (Hb rfl) (Ja (v := .bool false) (Sd (Bq rfl rfl) Ra) (Ea (Wq rfl (Ia ?_))))))))
  refine Da (Ca (Fd rfl) (Ca (Oo rfl) (Ea ?_)))
  refine Pj rfl rfl (fun hc6 => ?_) (fun hc6 => ?_)
  ·
   refine Da (Ca (Hb rfl) (Ca (Kc Je rfl) (Qd (Vi isAgg25 rfl hF.F 0 rfl rfl) (Ca (Qe underlying25 rfl) (Ca (Qi (((acc + (Be x).length : Nat) : Int)) rfl rfl) (Ca (Gc rfl) (Ya (Mb (Ha (Da (Ca (Hb rfl) (Ca (Qi (((i + 1 : Nat) : Int)) rfl rfl) (Ca (Gc rfl) ?_)))))))))))))
   refine Ya ?_
   refine Ic ⟨_, ?_, i + 1, acc + (Be x).length, rfl, by_Om, (by rw [hd_, ← hacc, if_neg (by simp_all)]; rfl), (by have h : (Be x).length ≤ 512 := hxm.2.1; omega), Jr, hF.drop 2⟩
   omega
  ·
   refine Wa (Mb (Ha (Da (Ca (Hb rfl) (Ca (Qi (((i + 1 : Nat) : Int)) rfl rfl) (Ca (Gc rfl) (Ya ?_)))))))
   refine Ic ⟨_, ?_, i + 1, acc, rfl, by_Om, (by rw [hd_, ← hacc, if_pos (by simp_all), Nat.add_zero]), (by have h : (Be x).length ≤ 512 := hxm.2.1; omega), Jr, hF.drop 2⟩
   omega
 ·
  refine Nc (Lc rfl ?_)
  refine Ha (Ia (Ka (Ca (Gc rfl) (Ea (Va ?_)))))
  refine Uc (fun μ σ w => ∃ (t : Nat), ∃ (acc2 : Nat), μ = mp.length - t ∧ (t ≤ mp.length) ∧ (acc2 = Jv xl yl mp (xl.length + yl.length) + J6 (fun i j => pN (Fb (xl.getD i Vr)) (Fb (yl.getD j Vr))) (mp.take t)) ∧ (acc2 ≤ 512 * (xl.length + yl.length) + 1024 * t) ∧ AllEq σ [(0, .slice A xl.length c), (1, .slice B yl.length e), (2, .slice (Cm) ((Mc mp).length) (cm)), (8, .int .i64 ((acc2 : Nat))), (16, .int .i64 ((t : Int)))] ∧ FR w0 [] [] w) _ ⟨0, acc, rfl, (Nat.zero_le _), (by rw [hacc, show i = xl.length + yl.length by omega]; rfl), by_Om, Jr, hF⟩ ?_
  clear hF; rintro μ σ w ⟨t, acc2, rfl, ht, hacc2, hb2, hs, hF⟩
  refine Cg.slots hs ?_
  clear hs; intro σ
  refine Ia (Ka (Ca (Hb rfl) (Ca (Md rfl) (Ca (Qe underlying29 rfl) (Ca (Nk rfl rfl) (Ea ?_))))))
  refine Pc rfl rfl (fun hc7 => ?_) (fun hc7 => ?_)
  ·
   refine Wa (Ha (Ia (Va (Ia ?_))))
   obtain ⟨a, b, hmt⟩ : ∃ a b : Nat, mp[t] = (a, b) := ⟨_, _, rfl⟩
   have hab : (Mc mp)[t] = ((a : Int), (b : Int)) := by rw [Tk by_Om by_Om, hmt]
   have hab1 := hmp _ (List.getElem_mem (l := mp) (n := t) by_Om)
   rw [hmt] at hab1
   have hxa := hokx _ (List.getElem_mem (l := xl) (n := a) hab1.1)
   have hyb := hoky _ (List.getElem_mem (l := yl) (n := b) hab1.2)
   have hbe := NN hxa.1 hyb.1
   have hpl := ET (x := xl[a]) (y := yl[b])
   refine Uf (zs := []) (.free 0 (.free 1 (.free 2 (.free 3 (.free 4 (.free 5 (.free 6 (.free 7 (.free 8 (.free 9 (.free 10 (.free 11 (.free 12 (.free 13 (.free 14 (.free 15 (.act 16 (.free 17 (.free 18 (.free 19 (.free 20 (.free 21 .nil)))))))))))))))))))))) hF ?_
   clear hF; intro w hF
   refine Xa rfl (Md rfl) (Xa rfl (Md rfl) (Xa rfl (Hb rfl) ?_))
   obtain ⟨ad6, hA6, hk6, hx6⟩ := hM.pair_elem (i := t) by_Om
   rw [hab] at hk6 hx6
   refine Qa rfl (v := .pointer (some (ad6.add (t * 2)))) (fun w hC => Oa (i := (t : Int)) Ik rfl hA6 rfl by_Om by_Om) (Qa rfl (v := .pointer (some ((ad6.add (t * 2)).add 0))) (fun w hC => Nd (a := ad6.add (t * 2)) Ek rfl) (Qa rfl (v := .int .i64 ((((a : Int), (b : Int))).1)) (fun w hC => Cb isAgg3 rfl (hC.cell0 (hk6 0 Jb))) ?_))
   obtain ⟨ad7, cs7, hA7, hl7, hk7, hx7⟩ := hA_.tree_elem (i := a) by_Om
   have ho7 := hx7.one_
   refine Qa rfl (v := .pointer (some (ad7.add (a * 4)))) (fun w hC => Oa (i := (((a : Int), (b : Int))).1) Hi rfl hA7 rfl by_Om by_Om) (Qa rfl (v := .agg (List.toArray cs7)) (fun w hC => Sb (l := cs7) isAgg27 sizeOf27 rfl hl7 (hC.cells0 hk7)) (Xa rfl (Md rfl) (Xa rfl (Md rfl) (Xa rfl (Hb rfl) ?_))))
   obtain ⟨ad8, hA8, hk8, hx8⟩ := hM.pair_elem (i := t) by_Om
   rw [hab] at hk8 hx8
   refine Qa rfl (v := .pointer (some (ad8.add (t * 2)))) (fun w hC => Oa (i := (t : Int)) Ik rfl hA8 rfl by_Om by_Om) (Qa rfl (v := .pointer (some ((ad8.add (t * 2)).add 1))) (fun w hC => Nd (a := ad8.add (t * 2)) Ri rfl) (Qa rfl (v := .int .i64 ((((a : Int), (b : Int))).2)) (fun w hC => Cb isAgg3 rfl (hC.cell0 (hk8 1 Jb))) ?_))
   obtain ⟨ad9, XR, hA9, hl9, hk9, hx9⟩ := hB_.tree_elem (i := b) by_Om
   have ho9 := hx9.one_
   refine Qa rfl (v := .pointer (some (ad9.add (b * 4)))) (fun w hC => Oa (i := (((a : Int), (b : Int))).2) Hi rfl hA9 rfl by_Om by_Om) (Qa rfl (v := .agg (List.toArray XR)) (fun w hC => Sb (l := XR) isAgg27 sizeOf27 rfl hl9 (hC.cells0 hk9)) ?_)
   refine Qn hF (AF xl[a] yl[b] _ _ _ cs7 XR (hF.rep hx7) (hF.rep hx9) (hG.ext hF.same) hxa.2.2.1 hyb.2.2.1 (Nat.le_trans hxa.2.2.2 Ra) (Nat.le_trans hyb.2.2.2 Ra)) rfl (Qb RT rfl rfl rfl) ?_
   clear hF; intro w hF
   refine ⟨hF, ?_⟩
   refine Xa rfl (Xm rfl) (Xa rfl (Zn rfl rfl) (Xa rfl (Zn rfl rfl) (Xa rfl (Gc rfl) (Xa rfl (Gc rfl) (Jc (Ha (Ia (Ka (Ca (Hb rfl) ?_)))))))))
   refine Ja (v := .bool false) (Sd (Bq rfl rfl) (by rw [hbe.2]; decide)) ?_
   refine Ea (Wq rfl (Da (Ca (Hb rfl) (Ca (Hb rfl) ?_))))
   refine Ja (v := .int .i64 (((acc2 + pN (Fb xl[a]) (Fb yl[b]) : Nat) : Int))) (Ct rfl rfl (by rw [hbe.1]; exact Bi by_Om by_Om by_Om)) ?_
   refine Ca (Gc rfl) (Ya (Mb (Ha (Da (Ca (Hb rfl) (Ca (Qi (((t + 1 : Nat) : Int)) rfl rfl) (Ca (Gc rfl) (Ya ?_))))))))
   refine Ic ⟨_, ?_, t + 1, acc2 + pN (Fb xl[a]) (Fb yl[b]), rfl, by_Om, (by rw [MF by_Om, hmt, hacc2, Nat.add_assoc]; simp only [List.getD_eq_getElem?_getD, List.getElem?_eq_getElem hab1.1, List.getElem?_eq_getElem hab1.2, Option.getD_some]), (by have h1 : Jg (Fb xl[a]) ≤ 512 := hxa.2.1; have h2 : Jg (Fb yl[b]) ≤ 512 := hyb.2.1; omega), Jr, hF⟩
   omega
  ·
   refine Nc (Lc rfl ?_)
   refine Ha (Ka (Ca (Hb rfl) (Ca (Gc rfl) (Ea ?_))))
   refine Xd (v := .int .i64 ((acc2 : Nat))) rfl rfl ?_
   obtain rfl : t = mp.length := by omega
   rw [List.take_length, GH] at hacc2
   exact ⟨congrArg (fun n : Nat => Value.int .i64 (n : Int)) hacc2, hF.same⟩
end Go.Scarf
