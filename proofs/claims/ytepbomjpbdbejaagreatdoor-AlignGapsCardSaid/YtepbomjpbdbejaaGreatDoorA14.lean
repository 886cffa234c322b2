/- A part of the proof. -/
import Derived.Test.YtepbomjpbdbejaaGreatDoorA13
set_option linter.all false
set_option maxHeartbeats 8000000
set_option maxRecDepth 10000
namespace Go.Scarf
open Go.RowKit Go.Proofs Go.Proofs.Tryz
theorem Hu {n j : Nat} {m : List (Nat × Nat)} {gp : Nat → List Int} (h : ∀ g, (gp g).length ≤ j) (g : Nat) : (Wh n m gp j g).length ≤ j + 1 := by
  unfold Wh
  split
  · exact Nat.le_succ_of_le (h g)
  · unfold Sq
    split
    · rw [List.length_append, List.length_singleton]; exact Nat.succ_le_succ (h _)
    · exact Nat.le_succ_of_le (h g)
theorem MF (S : Nat → Prop) (w0 : World) (n : Int) (m : List (Int × Int)) (A : Option Addr) (c : Nat) (hX : Rep S w0 (Re m) [.slice A m.length c]) (size : Int) (hno : Oi n m size = false) : Calls prog 16 #[.int .i64 n, .slice A m.length c, .int .i64 size] w0 (Md fun v w' => v = .tuple #[.slice none 0 0, .bool false] ∧ Same [] w0 w') := by
 have hXl := hX.pairs_len
 refine Ka func16 rfl ntmps16 Gb (Pi _ _ _) ?_
 have hF := FR.start w0 []
 refine Ma (Ca (Mh rfl) (Ca (Hc rfl) (Cc (Ca (Hb rfl) (Ca (Pd rfl) (Ca (Hb rfl) ?_))))))
 refine Rb hF (Np _ _ n m A c (hF.rep hX) size) (Bc L9 rfl rfl rfl rfl) ?_
 clear hF; intro w hF
 refine Ca (Hc rfl) (Fa (Ja (Ma (Ca (Kd rfl) (Ca (On rfl) (Ca (Kd rfl) ?_))))))
 refine Pf (d := 20) rfl (fun hg0 => ?_) (fun hg0 => ?_)
 ·
  refine Ra (Ra (Ca (Rc rfl rfl) (Ca (Kd rfl) (Ra (Ra (Ca (Rc rfl rfl) (Fa ?_)))))))
  refine Rd (by change Value.bool _ = Value.bool true; have hxx := (Qk n m size).symm.trans hno; first | rfl | (simp_all; done) | (simp_all; omega)) ?_
  refine Ma (Ca (Mh rfl) (Ca (Hc rfl) (Fa ?_)))
  refine Xb (Wb (Va (Od (v := .slice _ _ _) (x := .bool false) rfl rfl rfl) ?_))
  exact ⟨rfl, hF.same⟩
 ·
  refine Ca (Hb rfl) (Ca (Yk rfl rfl) (Ca (Fd rfl rfl) (Ca (Kd rfl) ?_)))
  refine Gd (d := 24) rfl (fun hg1 => ?_) (fun hg1 => ?_)
  ·
   refine Ra (Ra (Ca (Rc rfl rfl) (Fa ?_)))
   refine Rd (by change Value.bool _ = Value.bool true; have hxx := (Qk n m size).symm.trans hno; first | rfl | (simp_all; done) | (simp_all; omega)) ?_
   refine Ma (Ca (Mh rfl) (Ca (Hc rfl) (Fa ?_)))
   refine Xb (Wb (Va (Od (v := .slice _ _ _) (x := .bool false) rfl rfl rfl) ?_))
   exact ⟨rfl, hF.same⟩
  ·
   refine Ca (Hb rfl) (Ca (Ey rfl rfl) (Ca (Fd rfl rfl) (Fa ?_)))
   refine Rd (by change Value.bool _ = Value.bool true; have hxx := (Qk n m size).symm.trans hno; first | rfl | (simp_all; done) | (simp_all; omega)) ?_
   refine Ma (Ca (Mh rfl) (Ca (Hc rfl) (Fa ?_)))
   refine Xb (Wb (Va (Od (v := .slice _ _ _) (x := .bool false) rfl rfl rfl) ?_))
   exact ⟨rfl, hF.same⟩
theorem NA (S : Nat → Prop) (w0 : World) (n : Int) (m : List (Int × Int)) (A : Option Addr) (c : Nat) (hX : Rep S w0 (Re m) [.slice A m.length c]) (hno : Mf n m 9223372036854775807 = false) : Calls prog 18 #[.int .i64 n, .slice A m.length c] w0 (Md fun v w' => v = .tuple #[.slice none 0 0, .bool false] ∧ Same [] w0 w') := by
 have hXl := hX.pairs_len
 refine Ka func18 rfl ntmps18 Gb (Sd _ _) ?_
 have hF := FR.start w0 []
 refine Ma (Ca (Mh rfl) (Ca (Hc rfl) (Cc (Ca (Hb rfl) (Ca (Pd rfl) ?_)))))
 refine Rb hF (Np _ _ n m A c (hF.rep hX) 9223372036854775807) (Bc L9 rfl rfl rfl rfl) ?_
 clear hF; intro w hF
 refine Ca (Hc rfl) (Fa (Ja (Ma (Ca (Kd rfl) (Ca (On rfl) (Fa ?_))))))
 refine Rd (by change Value.bool _ = Value.bool true; rw [hno]; rfl) ?_
 refine Ma (Ca (Mh rfl) (Ca (Hc rfl) (Fa ?_)))
 refine Xb (Wb (Va (Od (v := .slice _ _ _) (x := .bool false) rfl rfl rfl) ?_))
 exact ⟨rfl, hF.same⟩
theorem TA (S : Nat → Prop) (w0 : World) (n : Nat) (mp : List (Nat × Nat)) (A : Option Addr) (c : Nat) (hX : Rep S w0 (Re (Zb mp)) [.slice A (Zb mp).length c]) (size : Nat) (hr : Mf n (Zb mp) size = true) (hn : n ≤ 64) (hs : size ≤ 64) (hmp : ∀ z ∈ mp, z.1 < n ∧ z.2 < size) (hRi : RiseN n size 0 0 mp) : Calls prog 16 #[.int .i64 ((n : Nat) : Int), .slice A (Zb mp).length c, .int .i64 ((size : Nat) : Int)] w0 (Md fun v w' => ∃ ob : Nat, v = .tuple #[.slice (some ⟨ob, 0, none⟩) (n + 1) (n + 1), .bool true] ∧ Rep (Btw w0 w') w' (Io (n + 1) (Fe n size mp 0 fun _ => [])) [.slice (some ⟨ob, 0, none⟩) (n + 1) (n + 1)] ∧ Same [] w0 w') := by
 have hcl := Jl mp
 have hXl := hX.pairs_len
 refine Ka func16 rfl ntmps16 Gb (Pi _ _ _) ?_
 have hF := FR.start w0 []
 refine Ma (Ca (Mh rfl) (Ca (Hc rfl) (Cc (Ca (Hb rfl) (Ca (Pd rfl) (Ca (Hb rfl) ?_))))))
 refine Rb hF (Oe (v' := .bool true) (Np _ _ (n : Int) (Zb mp) A c (hF.rep hX) (size : Int)) (by rw [hr])) (Bc L9 rfl rfl rfl rfl) ?_
 clear hF; intro w hF
 refine Ca (Hc rfl) (Fa (Ja (Ma (Ca (Kd rfl) (Ca (On (b := true) rfl) (Ca (Kd rfl) (Ca (Hb rfl) (Ia (v := .bool false) (Ld (L5 rfl rfl) by_Om) (Ca (Fd rfl rfl) (Ca (Kd rfl) (Ca (Hb rfl) ?_)))))))))))
 refine Ia (v := .bool false) (Ld (Ox rfl rfl) by_Om) (Ca (Fd rfl rfl) (Fa (Jr rfl (Ma (Ca (Hb rfl) (Ca (Di (((n + 1 : Nat) : Int)) rfl rfl) ?_))))))
 refine So (v := fun b => .slice (some ⟨b, 0, none⟩) (n + 1) (n + 1)) (o := .cells (List.replicate (n + 1) (.slice none 0 0)).toArray 39) hF (Ev (z := .slice none 0 0) Rh Db rfl rfl rfl by_Om Ta) ?_
 clear hF; rintro b1 w hb1 hF -
 refine Ca (Mh rfl) (Fa (Ja (Ja ?_)))
 rw [Gz (n + 1)] at hF
 have hG_ : Gr w0 w (n + 1) b1 (fun _ => .slice none 0 0) (fun _ => []) (fun _ => []) := ⟨hF.heap (i := 0) rfl, fun g _ => ⟨none, 0, rfl, SlB.nil _ _⟩, fun g _ z hz => (by cases hz), fun _ _ _ _ _ z hz => (by cases hz), hF.ge (i := 0) rfl⟩
 replace hF := hF.clear
 refine Ea (Ca (Pc rfl) (Fa (Ya ?_)))
 refine Uc (fun μ σ w => ∃ (j : Nat), ∃ (hd : Nat → Value), ∃ (gp : Nat → List Int), ∃ (sg : Nat → List (Nat × Obj)), μ = size - j ∧ (j ≤ size) ∧ (Gr w0 w (n + 1) b1 hd gp sg) ∧ (Ws n mp 0 j (fun _ => []) = gp) ∧ (∀ g, (gp g).length ≤ j) ∧ AllEq σ [(0, .int .i64 ((n : Nat))), (1, .slice (A) ((Zb mp).length) (c)), (2, .int .i64 ((size : Nat))), (9, .slice (some ⟨b1, 0, none⟩) (n + 1) (n + 1)), (10, .int .i64 ((j : Int)))] ∧ FR w0 [] [] w) _ ⟨0, _, _, _, rfl, (Nat.zero_le _), (hG_), (rfl), (fun g => by simp), Kq, hF⟩ ?_
 clear hF; rintro μ σ w ⟨j, hd, gp, sg, rfl, hj, hG_, hrun, hlen, hs, hF⟩
 refine Cg.slots hs ?_
 clear hs; intro σ
 refine Ja (Ma (Ca (Hb rfl) (Ca (Hb rfl) (Ca (Yk rfl rfl) (Fa ?_)))))
 refine Kc rfl rfl (fun hc1 => ?_) (fun hc1 => ?_)
 refine Cb (Ha (Ja (Ya (Ma (Ca (Hb rfl) (Ca (Pc rfl) (Cc (Ca (Hc rfl) (Fb ?_)))))))))
 refine Ha (Ja (Ma (Ca (Pd rfl) (Ca (Lf underlying29 rfl) (Ca (Kr (((mp.length : Int) - 1)) rfl rfl) (Ca (Pc rfl) (Fa (Ya ?_))))))))
 refine Uc (fun μ σ w => ∃ (kk : Nat), ∃ (z : Int), ∃ (gg : Nat), ∃ (pb : Bool), μ = kk + 1 ∧ (kk ≤ mp.length) ∧ (z = (kk : Int) - 1) ∧ (gg = EA n j mp kk) ∧ (pb = Sw j (mp.drop kk)) ∧ (Gr w0 w (n + 1) b1 hd gp sg) ∧ AllEq σ [(0, .int .i64 ((n : Nat))), (1, .slice (A) ((Zb mp).length) (c)), (2, .int .i64 ((size : Nat))), (9, .slice (some ⟨b1, 0, none⟩) (n + 1) (n + 1)), (10, .int .i64 ((j : Int))), (11, .int .i64 ((gg : Nat))), (12, .bool (pb)), (13, .int .i64 z)] ∧ FR w0 [] [] w) _ ⟨mp.length, ((mp.length : Int) - 1), n, false, rfl, (Nat.le_refl _), by_Om, (by rw [EA, List.drop_length]; rfl), (by rw [List.drop_length]; rfl), (hG_), R7, hF⟩ ?_
 clear hF; rintro μ σ w ⟨kk, z, gg, pb, rfl, hkk, hz, hgg, hp, hG_, hs, hF⟩
 refine Cg.slots hs ?_
 clear hs; intro σ
 refine Ja (Ma (Ca (Hb rfl) (Ca (X8 rfl rfl) (Fa ?_))))
 refine Kc rfl rfl (fun hc2 => ?_) (fun hc2 => ?_)
 refine Cb (Ha (Ja (Ya ?_)))
 obtain ⟨k, rfl⟩ : ∃ k, kk = k + 1 := ⟨kk - 1, by omega⟩
 obtain rfl : z = (k : Int) := by omega
 obtain ⟨a, b, hmt⟩ : ∃ a b : Nat, mp[k] = (a, b) := ⟨_, _, rfl⟩
 have hab : (Zb mp)[k] = ((a : Int), (b : Int)) := by rw [Fl by_Om by_Om, hmt]
 have hab1 := hmp _ (List.getElem_mem (l := mp) (n := k) by_Om)
 rw [hmt] at hab1
 refine Ja ?_
 refine St (fun σ w => ∃ (p2 : Bool), (p2 = (decide (b = j) || pb)) ∧ (Gr w0 w (n + 1) b1 hd gp sg) ∧ AllEq σ [(0, .int .i64 ((n : Nat))), (1, .slice (A) ((Zb mp).length) (c)), (2, .int .i64 ((size : Nat))), (9, .slice (some ⟨b1, 0, none⟩) (n + 1) (n + 1)), (10, .int .i64 ((j : Int))), (11, .int .i64 ((gg : Nat))), (12, .bool (p2)), (13, .int .i64 ((k : Int)))] ∧ FR w0 [] [] w) ?_ ?_
 refine Ma (Ca (Pd rfl) (Ca (Hb rfl) ?_))
 obtain ⟨ad0, hA0, hk0, hx0⟩ := hX.pair_elem (i := k) by_Om
 rw [hab] at hk0 hx0
 refine Ia (v := .pointer (some (ad0.add (k * 2)))) (Pa (i := (k : Int)) Bi rfl hA0 rfl by_Om by_Om) (Ia (v := .pointer (some ((ad0.add (k * 2)).add 1))) (Tc (a := ad0.add (k * 2)) Jg rfl) (Ia (v := .int .i64 ((((a : Int), (b : Int))).2)) (Wa isAgg3 rfl (hF.cell0 (hk0 1 Gb))) (Ca (Hb rfl) (Ca (Ho rfl rfl) (Fa ?_)))))
 refine Kc rfl rfl (fun hc3 => ?_) (fun hc3 => ?_)
 refine Ea (Ca (Hc rfl) (Fb ?_))
 exact Dc ⟨(true), (by rw [decide_eq_true (show b = j by omega), Bool.true_or]), (hG_), R7, hF⟩
 refine Cb ?_
 exact Dc ⟨(pb), (by rw [decide_eq_false (show ¬ b = j by omega), Bool.false_or]), (hG_), R7, hF⟩
 clear hF; rintro σ w ⟨p2, hp2, hG_, hs, hF⟩
 refine Eg.slots hs ?_
 clear hs; intro σ
 refine Ha (Ma (Ca (Pd rfl) (Ca (Hb rfl) ?_)))
 obtain ⟨ad1, hA1, hk1, hx1⟩ := hX.pair_elem (i := k) by_Om
 rw [hab] at hk1 hx1
 refine Ia (v := .pointer (some (ad1.add (k * 2)))) (Pa (i := (k : Int)) Bi rfl hA1 rfl by_Om by_Om) (Ia (v := .pointer (some ((ad1.add (k * 2)).add 1))) (Tc (a := ad1.add (k * 2)) Jg rfl) (Ia (v := .int .i64 ((((a : Int), (b : Int))).2)) (Wa isAgg3 rfl (hF.cell0 (hk1 1 Gb))) (Ca (Hb rfl) (Ca (Ey rfl rfl) (Fa ?_)))))
 refine Kc rfl rfl (fun hc4 => ?_) (fun hc4 => ?_)
 refine Ea (Ca (Pd rfl) (Ca (Hb rfl) ?_))
 obtain ⟨ad2, hA2, hk2, hx2⟩ := hX.pair_elem (i := k) by_Om
 rw [hab] at hk2 hx2
 refine Ia (v := .pointer (some (ad2.add (k * 2)))) (Pa (i := (k : Int)) Bi rfl hA2 rfl by_Om by_Om) (Ia (v := .pointer (some ((ad2.add (k * 2)).add 0))) (Tc (a := ad2.add (k * 2)) Aj rfl) (Ia (v := .int .i64 ((((a : Int), (b : Int))).1)) (Wa isAgg3 rfl (hF.cell0 (hk2 0 Gb))) (Ca (Pc rfl) (Fb (Kb (Ha (Ea (Ca (Hb rfl) (Ca (Kr (((k : Int) - 1)) rfl rfl) (Ca (Pc rfl) (Fb ?_)))))))))))
 refine Dc ⟨_, ?_, k, ((k : Int) - 1), a, p2, rfl, by_Om, (rfl), (by rw [Sz by_Om, hmt, if_pos (by simp only; omega)]), (by rw [Wy by_Om, hmt, hp2, hp]), (hG_), R7, hF⟩
 omega
 refine Cb (Kb (Ha (Ea (Ca (Hb rfl) (Ca (Kr (((k : Int) - 1)) rfl rfl) (Ca (Pc rfl) (Fb ?_)))))))
 refine Dc ⟨_, ?_, k, ((k : Int) - 1), gg, p2, rfl, by_Om, (rfl), (by rw [Sz by_Om, hmt, if_neg (by simp only; omega), hgg]), (by rw [Wy by_Om, hmt, hp2, hp]), (hG_), R7, hF⟩
 omega
 refine Lc (Jc rfl ?_)
 refine Ha (Ja ?_)
 obtain rfl : kk = 0 := by omega
 rw [EA, List.drop_zero] at hgg
 rw [List.drop_zero] at hp
 refine Ea (Ca (Kd rfl) (Ca (On rfl) (Fa ?_)))
 refine Ik rfl rfl (fun hc5 => ?_) (fun hc5 => ?_)
 have hgl : gg ≤ n := by rw [hgg]; exact G5 fun y hy => (hmp y hy).1
 obtain ⟨Ax, cx, hh_, hSo⟩ := hG_.row gg by_Om
 have hm_ := hG_.mem gg by_Om
 have hl_ := hlen gg
 have hF0 := hF.same.size
 replace hF : FR w0 [] ([(b1, .cells (Tf (n + 1) (hd)) 39)] ++ (sg gg ++ [])) w := (hF.clear.adopt hG_.top hG_.new Ga).addseg (fun y hy => ⟨(hm_ y hy).1, (hm_ y hy).2.1, fun q hq => by obtain rfl := List.mem_singleton.1 hq; exact fun e => (hm_ y hy).2.2 e.symm⟩) hSo.pw
 clear hm_
 refine Ea (Ca (Pd rfl) (Ca (Hb rfl) (Ca (Pd rfl) (Ca (Hb rfl) (Ia (v := .pointer (some ⟨b1, gg, none⟩)) (Pb (i := ((gg : Nat) : Int)) (gg) Uf rfl rfl by_Om by_Om by_Om) ?_)))))
 refine Ia (v := .slice (Ax) ((gp gg).length) (cx)) (Wa isAgg39 rfl (by rw [Ib (hF.heap (i := 0) rfl), Tp by_Om, hh_])) ?_
 refine Ca (Hb rfl) ?_
 refine If 1 hF (Ua (cs := #[.int .i64 ((j : Int))]) underlying39 sizeOf3 zeroValue3 Ta Ta Db) ?_
 clear hF; intro b2 w hb2 hF hE
 replace hG_ := hG_.ext hE
 replace hF0 := Nat.le_trans hF0 hE.size
 clear hE
 refine Pm [(b2, .cells #[.int .i64 ((j : Int))] 3), (b1, .cells (Tf (n + 1) (hd)) 39)] [] (news := [.int .i64 ((j : Int))]) (len' := (gp gg ++ [(j : Int)]).length) (ys := Fr (gp gg ++ [(j : Int)])) Xg hF hSo rfl rfl (rfl) (fun _ => ⟨_, rfl, Ub (hF.cellsAll 0 rfl)⟩) (by simp [Value.oneCell']) (by simp only [maxLen]; omega) Ga (by simp [Fr]) by_Om ?_
 clear hF; intro A3 c3 o_3 w hS3_o hF hE hnew
 have hEa := hE
 have hna := hnew
 clear hE hnew
 refine Ia (v := .pointer (some ⟨b1, gg, none⟩)) (Pb (i := ((gg : Nat) : Int)) (gg) Uf rfl rfl by_Om by_Om by_Om) ?_
 refine Af 1 (l := [.slice A3 ((gp gg ++ [(j : Int)]).length) c3]) (cs' := Tf (n + 1) (Ul hd gg (.slice A3 ((gp gg ++ [(j : Int)]).length) c3))) hF sizeOf39 rfl (v := .slice A3 ((gp gg ++ [(j : Int)]).length) c3) rfl rfl Zc rfl (by rw [Mv]; simp only [List.length_singleton]; omega) (O7 _) ?_
 clear hF; intro w hF hE
 have hps := FR.apart (pre := [_, _]) (rest := o_3 ++ []) (i := 1) hF rfl
 rw [List.append_nil] at hps
 replace hG_ := hG_.put (g := gg) by_Om hEa hE (hF.heap (i := 1) rfl) hS3_o (fun y hy => ⟨(hF.own y (by simp [hy])).1, fun e => hps (e ▸ List.mem_map_of_mem hy), hna y hy⟩) hF0
 clear hE hps
 replace hF := hF.clear
 refine Fb (Kb (Ha (Ea (Ca (Hb rfl) (Ca (Di (((j + 1 : Nat) : Int)) rfl rfl) (Ca (Pc rfl) (Fb ?_)))))))
 refine Dc ⟨_, ?_, j + 1, Ul hd gg (.slice A3 ((gp gg ++ [(j : Int)]).length) c3), Sq gp gg (gp gg ++ [(j : Int)]), Sq sg gg o_3, rfl, by_Om, (hG_), (by rw [Sm, hrun, Nat.zero_add]; rw [Wh, ← hp, if_neg (by simp_all), ← hgg]), (fun g => by have h := Hu (n := n) (m := mp) hlen g; rwa [show Wh n mp gp j = _ from by rw [Wh, ← hp, if_neg (by simp_all), ← hgg]] at h), Kq, hF⟩
 omega
 refine Cb (Kb (Ha (Ea (Ca (Hb rfl) (Ca (Di (((j + 1 : Nat) : Int)) rfl rfl) (Ca (Pc rfl) (Fb ?_)))))))
 refine Dc ⟨_, ?_, j + 1, hd, gp, sg, rfl, by_Om, (hG_), (by rw [Sm, hrun, Nat.zero_add]; rw [Wh, ← hp, if_pos (by simp_all)]), (fun g => by have h := Hu (n := n) (m := mp) hlen g; rwa [show Wh n mp gp j = _ from by rw [Wh, ← hp, if_pos (by simp_all)]] at h), Kq, hF⟩
 omega
 refine Lc (Jc rfl ?_)
 refine Ha (Ma (Ca (Pd rfl) (Ca (Mh rfl) (Ca (Hc rfl) (Fa ?_)))))
 refine Xb (Wb (Va (Od (v := .slice _ _ _) (x := .bool true) rfl rfl rfl) ?_))
 obtain rfl : j = size := by omega
 have hrf := Hz mp 0 0 (fun _ => []) hRi
 rw [Nat.sub_zero, hrun] at hrf
 rw [hrf] at hG_
 exact ⟨b1, rfl, hG_.rep by_Om (fun g _ z hz => by have := Jv (B := 64) hs mp 0 (fun _ => []) (fun y hy => by have := hmp y hy; omega) (fun _ z hz => by cases hz) g z hz; omega), hF.same⟩
theorem J8 (S : Nat → Prop) (w0 : World) (n : Nat) (mp : List (Nat × Nat)) (A : Option Addr) (c : Nat) (hX : Rep S w0 (Re (Zb mp)) [.slice A (Zb mp).length c]) (hr : Mf n (Zb mp) 9223372036854775807 = true) (hn : n ≤ 64) (hmp : ∀ z ∈ mp, z.1 < n ∧ (z.2 : Int) < 9223372036854775807) : Calls prog 18 #[.int .i64 ((n : Nat) : Int), .slice A (Zb mp).length c] w0 (Md fun v w' => ∃ ob : Nat, v = .tuple #[.slice (some ⟨ob, 0, none⟩) n n, .bool true] ∧ Rep (Btw w0 w') w' (.slice (((List.range n).map (Im mp fun _ => -1)).map Me)) [.slice (some ⟨ob, 0, none⟩) n n] ∧ Same [] w0 w') := by
 have hcl := Jl mp
 have hXl := hX.pairs_len
 refine Ka func18 rfl ntmps18 Gb (Sd _ _) ?_
 have hF := FR.start w0 []
 refine Ma (Ca (Mh rfl) (Ca (Hc rfl) (Cc (Ca (Hb rfl) (Ca (Pd rfl) ?_)))))
 refine Rb hF (Oe (v' := .bool true) (Np _ _ (n : Int) (Zb mp) A c (hF.rep hX) 9223372036854775807) (by rw [hr])) (Bc L9 rfl rfl rfl rfl) ?_
 clear hF; intro w hF
 refine Ca (Hc rfl) (Fa (Ja (Ma (Ca (Kd rfl) (Ca (On (b := true) rfl) (Fa (Jr rfl (Ja ?_))))))))
 refine Ea (Ca (Hb rfl) ?_)
 refine So (v := fun b => .slice (some ⟨b, 0, none⟩) n n) (o := .cells (Za (n) fun _ => 0) 3) hF (Mi Xg Db rfl rfl by_Om) ?_
 clear hF; rintro b1 w hb1 hF -
 refine Ca (Mh rfl) (Fa (Ja (Ma (Ca (Pc rfl) (Fa (Ya ?_))))))
 refine Uc (fun μ σ w => ∃ (i : Nat), ∃ (f : Nat → Int), μ = n - i ∧ (i ≤ n) ∧ (∀ k, k < i → f k = Im mp (fun _ => -1) k) ∧ AllEq σ [(0, .int .i64 ((n : Nat))), (1, .slice (A) ((Zb mp).length) (c)), (7, .slice (some ⟨b1, 0, none⟩) n n), (8, .int .i64 ((i : Int)))] ∧ FR w0 [] [(b1, .cells (Za (n) (f)) 3)] w) _ ⟨0, fun _ => 0, rfl, (Nat.zero_le _), (fun k hk => by omega), Dq, hF⟩ ?_
 clear hF; rintro μ σ w ⟨i, f, rfl, hi, hf, hs, hF⟩
 refine Cg.slots hs ?_
 clear hs; intro σ
 refine Ja (Ma (Ca (Hb rfl) (Ca (Hb rfl) (Ca (Yk rfl rfl) (Fa ?_)))))
 refine Kc rfl rfl (fun hc1 => ?_) (fun hc1 => ?_)
 refine Cb (Ha (Ja (Ya (Ma (Ca (Pd rfl) (Ca (Hb rfl) (Ia (v := .pointer (some ⟨b1, i, none⟩)) (Pb (i := (i : Int)) (i) Ke rfl rfl by_Om by_Om by_Om) ?_)))))))
 refine Af 0 (l := [.int .i64 ((-1))]) (cs' := Za (n) (Ee (f) (i) ((-1)))) hF sizeOf3 rfl (v := .int .i64 ((-1))) rfl rfl Zc rfl (by rw [Se]; simp only [List.length_singleton]; exact Nat.succ_le_of_lt by_Om) (Qe _) ?_
 clear hF; rintro w hF -
 replace hF : FR w0 [] [(b1, .cells (Za (n) (Ee (f) (i) ((-1)))) 3)] w := hF
 refine Cc (Ca (Pc rfl) (Fa (Ya ?_)))
 refine Uc (fun μ σ w => ∃ (t : Nat), ∃ (f2 : Nat → Int), μ = mp.length - t ∧ (t ≤ mp.length) ∧ ((mp.take t).foldl (fun v z => if z.1 = i then (z.2 : Int) else v) (-1) = f2 i) ∧ (∀ k, k ≠ i → f2 k = f k) ∧ AllEq σ [(0, .int .i64 ((n : Nat))), (1, .slice (A) ((Zb mp).length) (c)), (7, .slice (some ⟨b1, 0, none⟩) n n), (8, .int .i64 ((i : Int))), (9, .int .i64 ((t : Int)))] ∧ FR w0 [] [(b1, .cells (Za (n) (f2)) 3)] w) _ ⟨0, _, rfl, (Nat.zero_le _), (by rw [Jn]; rfl), (fun k hk => Kp hk), Kq, hF⟩ ?_
 clear hF; rintro μ σ w ⟨t, f2, rfl, ht, hrun, hlow, hs, hF⟩
 refine Cg.slots hs ?_
 clear hs; intro σ
 refine Ja (Ma (Ca (Hb rfl) (Ca (Pd rfl) (Ca (Lf underlying29 rfl) (Ca (Yk rfl rfl) (Fa ?_))))))
 refine Kc rfl rfl (fun hc2 => ?_) (fun hc2 => ?_)
 refine Cb (Ha (Ja (Ya (Ja ?_))))
 obtain ⟨a, b, hmt⟩ : ∃ a b : Nat, mp[t] = (a, b) := ⟨_, _, rfl⟩
 have hab : (Zb mp)[t] = ((a : Int), (b : Int)) := by rw [Fl by_Om by_Om, hmt]
 have hab1 := hmp _ (List.getElem_mem (l := mp) (n := t) by_Om)
 rw [hmt] at hab1
 refine Ea (Ca (Pd rfl) (Ca (Hb rfl) ?_))
 obtain ⟨ad0, hA0, hk0, hx0⟩ := hX.pair_elem (i := t) by_Om
 rw [hab] at hk0 hx0
 refine Ia (v := .pointer (some (ad0.add (t * 2)))) (Pa (i := (t : Int)) Bi rfl hA0 rfl by_Om by_Om) (Ia (v := .pointer (some ((ad0.add (t * 2)).add 0))) (Tc (a := ad0.add (t * 2)) Aj rfl) (Ia (v := .int .i64 ((((a : Int), (b : Int))).1)) (Wa isAgg3 rfl (hF.cell0 (hk0 0 Gb))) (Ca (Hb rfl) (Ca (Ho rfl rfl) (Fa ?_)))))
 refine Kc rfl rfl (fun hc3 => ?_) (fun hc3 => ?_)
 refine Ea (Ca (Pd rfl) (Ca (Hb rfl) (Ca (Pd rfl) (Ca (Hb rfl) ?_))))
 obtain ⟨ad1, hA1, hk1, hx1⟩ := hX.pair_elem (i := t) by_Om
 rw [hab] at hk1 hx1
 refine Ia (v := .pointer (some (ad1.add (t * 2)))) (Pa (i := (t : Int)) Bi rfl hA1 rfl by_Om by_Om) (Ia (v := .pointer (some ((ad1.add (t * 2)).add 1))) (Tc (a := ad1.add (t * 2)) Jg rfl) (Ia (v := .int .i64 ((((a : Int), (b : Int))).2)) (Wa isAgg3 rfl (hF.cell0 (hk1 1 Gb))) (Ia (v := .pointer (some ⟨b1, i, none⟩)) (Pb (i := (i : Int)) (i) Ke rfl rfl by_Om by_Om by_Om) ?_)))
 refine Af 0 (l := [.int .i64 ((((a : Int), (b : Int))).2)]) (cs' := Za (n) (Ee (f2) (i) ((((a : Int), (b : Int))).2))) hF sizeOf3 rfl (v := .int .i64 ((((a : Int), (b : Int))).2)) rfl rfl Zc rfl (by rw [Se]; simp only [List.length_singleton]; exact Nat.succ_le_of_lt by_Om) (Qe _) ?_
 clear hF; rintro w hF -
 replace hF : FR w0 [] [(b1, .cells (Za (n) (Ee (f2) (i) ((((a : Int), (b : Int))).2))) 3)] w := hF
 refine Fb (Kb (Ha (Ea (Ca (Hb rfl) (Ca (Di (((t + 1 : Nat) : Int)) rfl rfl) (Ca (Pc rfl) (Fb ?_)))))))
 refine Dc ⟨_, ?_, t + 1, Ee (f2) (i) ((((a : Int), (b : Int))).2), rfl, by_Om, (by rw [List.take_succ_eq_append_getElem by_Om, List.foldl_append, hrun, List.foldl_cons, List.foldl_nil, hmt, if_pos (by first | omega | (simp only; omega)), Jn]), (fun k hk => by rw [Kp hk]; exact hlow k hk), Kq, hF⟩
 omega
 refine Cb (Kb (Ha (Ea (Ca (Hb rfl) (Ca (Di (((t + 1 : Nat) : Int)) rfl rfl) (Ca (Pc rfl) (Fb ?_)))))))
 refine Dc ⟨_, ?_, t + 1, f2, rfl, by_Om, (by rw [List.take_succ_eq_append_getElem by_Om, List.foldl_append, hrun, List.foldl_cons, List.foldl_nil, hmt, if_neg (by first | omega | (simp only; omega))]), (hlow), Kq, hF⟩
 omega
 refine Lc (Jc rfl ?_)
 refine Kb (Ha (Ea (Ca (Hb rfl) (Ca (Di (((i + 1 : Nat) : Int)) rfl rfl) (Ca (Pc rfl) (Fb ?_))))))
 refine Dc ⟨_, ?_, i + 1, f2, rfl, by_Om, (fun k hk => by by_cases e : k = i; (subst e; rw [Uz, ← hrun, show t = mp.length by omega, List.take_length]); (rw [hlow k e]; exact hf k by_Om)), Dq, hF⟩
 omega
 refine Lc (Jc rfl ?_)
 refine Ha (Ma (Ca (Pd rfl) (Ca (Mh rfl) (Ca (Hc rfl) (Fa ?_)))))
 refine Xb (Wb (Va (Od (v := .slice _ _ _) (x := .bool true) rfl rfl rfl) ?_))
 obtain rfl : i = n := by omega
 exact ⟨b1, rfl, (List.map_congr_left (f := f) (g := Im mp fun _ => -1) (l := List.range i) fun k hk => hf k (List.mem_range.1 hk)) ▸ Zv (hF.heap (i := 0) rfl) (hF.ge (i := 0) rfl) by_Om (fun k hk => by rw [hf k hk]; have := W0 (B := 9223372036854775807) mp (fun _ => -1) (fun z hz => (hmp z hz).2) (fun _ => by omega) k; omega), hF.same⟩
end Go.Scarf
