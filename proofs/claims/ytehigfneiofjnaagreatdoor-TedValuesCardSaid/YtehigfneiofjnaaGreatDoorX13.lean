/- A part of the proof. -/
import Derived.Test.YtehigfneiofjnaaGreatDoorX9
import Derived.Test.YtehigfneiofjnaaGreatDoorV1
import Derived.Test.YtehigfneiofjnaaGreatDoorZ19
set_option linter.all false
set_option maxHeartbeats 8000000
set_option maxRecDepth 10000
namespace Go.Scarf
open Go.RowKit Go.Proofs Go.Proofs.Tryz
theorem J3 (w0 : World) (hG : Gl w0) (x : Tree) (cx : List Value) (rx : Rep (fun _ => True) w0 (Gc x) cx) (y : Tree) (cy : List Value) (ry : Rep (fun _ => True) w0 (Gc y) cy) (hx : Yc x = true) (hy : Yc y = true) : Calls prog 3 #[.agg cx.toArray, .agg cy.toArray] w0 (Ce fun v w' => v = .bool true ∧ Same [] w0 w') := by
 have hlcx : cx.length = 4 := rx.length.trans (Ac x)
 have hocx := rx.one_
 have hlcy : cy.length = 4 := ry.length.trans (Ac y)
 have hocy := ry.one_
 refine Ma func3 rfl ntmps3 Qb (Wd _ _) ?_
 have hF := FR.start w0 []
 refine Ha ?_
 refine Vf (v := .agg (List.toArray cx)) (cs := (List.toArray cx)) hF rfl rfl ?_
 clear hF; rintro b1 w hb1 hF -
 refine Vf (v := .agg (List.toArray cy)) (cs := (List.toArray cy)) hF rfl rfl ?_
 clear hF; rintro b2 w hb2 hF -
 refine Ca (Cc rfl) (Yb ?_)
 refine Va hF (Ur _ (hG.ext hF.same)) (Iy WL rfl) ?_
 clear hF; intro w hF
 refine Ca (Cc rfl) (Yb (Fa (v := .agg (List.toArray cx)) (Rb (l := cx) isAgg25 sizeOf25 rfl hlcx (hF.cellsAll 1 rfl)) ?_))
 refine Va hF (Qx x 40 by_Om by_Om _ _ cx (hF.rep rx)) (Pa K5 rfl rfl rfl) ?_
 clear hF; intro w hF
 refine Ca (Jc rfl) ?_
 refine Qe (d := 18) rfl (fun hg0 => ?_) (fun hg0 => ?_)
 refine Fa (v := .agg (List.toArray cy)) (Rb (l := cy) isAgg25 sizeOf25 rfl hlcy (hF.cellsAll 0 rfl)) ?_
 refine Va hF (Qx y 40 by_Om by_Om _ _ cy (hF.rep ry)) (Pa K5 rfl rfl rfl) ?_
 clear hF; intro w hF
 refine Ca (Lc rfl rfl) (Ca (Cc rfl) (Da (Ia (Ha (Ca (Jc rfl) (Ca (Dm rfl) (Da ?_)))))))
 refine Vh rfl rfl (fun hc0 => ?_) (fun hc0 => ?_)
 refine Ha (Ca (Jc rfl) (Ca (Cc rfl) (Da ?_)))
 refine Ud (v := .bool true) rfl rfl ?_
 exact ⟨rfl, hF.same⟩
 refine Ra (Ja (Ia ?_))
 have kx_ : Mw x 40 = true := by first | assumption | exact Fm (by assumption)
 have ky_ : Mw y 40 = true := by first | assumption | exact Fm (by assumption)
 obtain ⟨sx, dx, tx⟩ := Zn by_Om kx_
 obtain ⟨sy, dy, ty⟩ := Zn by_Om ky_
 have mx := Ek x tx
 have my := Ek y ty
 have hbe : Nq x y = 0 := by rw [Nq, hx, hy]; rfl
 refine Ga (Fa (v := .agg (List.toArray cx)) (Rb (l := cx) isAgg25 sizeOf25 rfl hlcx (hF.cellsAll 1 rfl)) ?_)
 refine Zb (Vn x _ _ cx (hF.rep rx) (hG.ext hF.same) by_Om by_Om hx) (Ua Aw rfl rfl) ?_
 rintro _ w ⟨Au, cu, Bu, eu, rfl, -, -, hE⟩
 replace hF := hF.ext hE
 clear hE
 refine Ca (Qg rfl) (Ca (Yw rfl rfl) (Ca (Re rfl rfl) ?_))
 refine Hh hF zeroValue30 sizeOf30 rfl ?_
 clear hF; rintro b3 w hb3 hF -
 refine Ca (Kb rfl) (Yb (Fa (v := .agg (List.toArray cy)) (Rb (l := cy) isAgg25 sizeOf25 rfl hlcy (hF.cellsAll 1 rfl)) ?_))
 refine Zb (Vn y _ _ cy (hF.rep ry) (hG.ext hF.same) by_Om by_Om hy) (Ua Aw rfl rfl) ?_
 rintro _ w ⟨Av, cv, Bv, ev, rfl, -, -, hE⟩
 replace hF := hF.ext hE
 clear hE
 refine Ca (Qg rfl) (Ca (Yw rfl rfl) (Ca (Re rfl rfl) ?_))
 refine Hh hF zeroValue30 sizeOf30 rfl ?_
 clear hF; rintro b4 w hb4 hF -
 refine Ca (Kb rfl) (Yb (Fa (v := .agg (List.toArray cx)) (Rb (l := cx) isAgg25 sizeOf25 rfl hlcx (hF.cellsAll 3 rfl)) (Fa (v := .agg (List.toArray cy)) (Rb (l := cy) isAgg25 sizeOf25 rfl hlcy (hF.cellsAll 2 rfl)) ?_)))
 refine Va hF (Lj x y _ _ _ cx cy (hF.rep rx) (hF.rep ry) (hG.ext hF.same) by_Om by_Om by_Om by_Om) (Pa Sg rfl rfl rfl) ?_
 clear hF; intro w hF
 refine Ca (Qg rfl) (Ca (Re rfl rfl) (Ca (Re rfl rfl) (Ca (Kb rfl) (Ca (Kb rfl) (Da (Ia (Ha (Ca (Za rfl) (Fa (v := .bool false) (Dd (Ri rfl rfl) by_Om) (Ca (Jc rfl) (Ca (Za rfl) ?_)))))))))))
 refine Fa (v := .bool false) (Dd (Ri rfl rfl) by_Om) (Ca (Dc rfl rfl) (Da (Ni rfl (Ia (Ha (Ca (Fc Ed rfl) (Uc (Mf isAgg22 rfl hF.F 1 rfl rfl) (Ca (Ji underlying22 rfl) (Ca (Gn rfl rfl) ?_)))))))))
 refine Ca (Jc rfl) ?_
 refine Mb (d := 74) rfl (fun hg1 => ?_) (fun hg1 => ?_)
 refine Ea (Ea (Ea (Ea (Ca (Lc rfl rfl) (Da (Qd rfl (Ha (Ca (Jc rfl) (Ca (Jc rfl) (Ca (Za rfl) (Fa (v := .bool true) (Sc (Bg rfl rfl) (hbe)) ?_)))))))))))
 refine Ca (Lc rfl rfl) (Ca (Cc rfl) (Da ?_))
 refine Ud (v := .bool true) rfl rfl ?_
 exact ⟨rfl, hF.same⟩
 refine Ca (Fc Ed rfl) (Uc (Mf isAgg22 rfl hF.F 0 rfl rfl) (Ca (Ji underlying22 rfl) (Ca (Gn rfl rfl) (Ca (Dc rfl rfl) (Da ?_)))))
 refine Bc rfl rfl (fun hc2 => ?_) (fun hc2 => ?_)
 refine Ha (Ca (Jc rfl) (Ca (Jc rfl) (Ca (Za rfl) (Fa (v := .bool true) (Sc (Bg rfl rfl) (hbe)) (Ca (Lc rfl rfl) (Ca (Cc rfl) (Da ?_)))))))
 refine Ud (v := .bool true) rfl rfl ?_
 exact ⟨rfl, hF.same⟩
 refine Ra (Ja (Ha (Fa (v := .agg (List.toArray cx)) (Rb (l := cx) isAgg25 sizeOf25 rfl hlcx (hF.cellsAll 3 rfl)) (Fa (v := .agg (List.toArray cy)) (Rb (l := cy) isAgg25 sizeOf25 rfl hlcy (hF.cellsAll 2 rfl)) ?_))))
 refine Va hF (K9 x y _ _ _ cx cy (hF.rep rx) (hF.rep ry) (hG.ext hF.same) by_Om by_Om by_Om by_Om by_Om by_Om) (Pa GT rfl rfl rfl) ?_
 clear hF; intro w hF
 refine Ca (Qg rfl) (Ca (Re rfl rfl) (Ca (Re rfl rfl) (Ca (Kb rfl) (Ca (Kb rfl) (Yb (Ca (Jc rfl) (Ca (Jc rfl) (Ca (Za rfl) (Ca (Za rfl) (Fa (v := .bool true) (Sc (Bg rfl rfl) (rfl)) ?_))))))))))
 refine Ca (Lc rfl rfl) (Ca (Jc rfl) (Ca (Za rfl) (Ca (Za rfl) (Fa (v := .bool true) (Sc (Bg rfl rfl) (rfl)) (Ca (Lc rfl rfl) (Ca (Cc rfl) (Da ?_)))))))
 refine Ud (v := .bool true) rfl rfl ?_
 exact ⟨rfl, hF.same⟩
 refine Ea (Ea (Ca (Dc rfl rfl) (Ca (Cc rfl) (Da (Ia (Ha (Ca (Jc rfl) (Ca (Dm (b := false) rfl) (Da (Qd rfl ?_))))))))))
 refine Ha (Ca (Jc rfl) (Ca (Cc rfl) (Da ?_)))
 refine Ud (v := .bool true) rfl rfl ?_
 exact ⟨rfl, hF.same⟩
theorem T3 (w0 : World) (hG : Gl w0) (x : Tree) (cx : List Value) (rx : Rep (fun _ => True) w0 (Gc x) cx) (y : Tree) (cy : List Value) (ry : Rep (fun _ => True) w0 (Gc y) cy) (hx : Yc x = true) (hy : Yc y = false) : Calls prog 3 #[.agg cx.toArray, .agg cy.toArray] w0 (Ce fun v w' => v = .bool true ∧ Same [] w0 w') := by
 have hlcx : cx.length = 4 := rx.length.trans (Ac x)
 have hocx := rx.one_
 have hlcy : cy.length = 4 := ry.length.trans (Ac y)
 have hocy := ry.one_
 refine Ma func3 rfl ntmps3 Qb (Wd _ _) ?_
 have hF := FR.start w0 []
 refine Ha ?_
 refine Vf (v := .agg (List.toArray cx)) (cs := (List.toArray cx)) hF rfl rfl ?_
 clear hF; rintro b1 w hb1 hF -
 refine Vf (v := .agg (List.toArray cy)) (cs := (List.toArray cy)) hF rfl rfl ?_
 clear hF; rintro b2 w hb2 hF -
 refine Ca (Cc rfl) (Yb ?_)
 refine Va hF (Ur _ (hG.ext hF.same)) (Iy WL rfl) ?_
 clear hF; intro w hF
 refine Ca (Cc rfl) (Yb (Fa (v := .agg (List.toArray cx)) (Rb (l := cx) isAgg25 sizeOf25 rfl hlcx (hF.cellsAll 1 rfl)) ?_))
 refine Va hF (Qx x 40 by_Om by_Om _ _ cx (hF.rep rx)) (Pa K5 rfl rfl rfl) ?_
 clear hF; intro w hF
 refine Ca (Jc rfl) ?_
 refine Qe (d := 18) rfl (fun hg0 => ?_) (fun hg0 => ?_)
 refine Fa (v := .agg (List.toArray cy)) (Rb (l := cy) isAgg25 sizeOf25 rfl hlcy (hF.cellsAll 0 rfl)) ?_
 refine Va hF (Qx y 40 by_Om by_Om _ _ cy (hF.rep ry)) (Pa K5 rfl rfl rfl) ?_
 clear hF; intro w hF
 refine Ca (Lc rfl rfl) (Ca (Cc rfl) (Da (Ia (Ha (Ca (Jc rfl) (Ca (Dm rfl) (Da ?_)))))))
 refine Vh rfl rfl (fun hc0 => ?_) (fun hc0 => ?_)
 refine Ha (Ca (Jc rfl) (Ca (Cc rfl) (Da ?_)))
 refine Ud (v := .bool true) rfl rfl ?_
 exact ⟨rfl, hF.same⟩
 refine Ra (Ja (Ia ?_))
 have kx_ : Mw x 40 = true := by first | assumption | exact Fm (by assumption)
 have ky_ : Mw y 40 = true := by first | assumption | exact Fm (by assumption)
 obtain ⟨sx, dx, tx⟩ := Zn by_Om kx_
 obtain ⟨sy, dy, ty⟩ := Zn by_Om ky_
 have mx := Ek x tx
 have my := Ek y ty
 refine Ga (Fa (v := .agg (List.toArray cx)) (Rb (l := cx) isAgg25 sizeOf25 rfl hlcx (hF.cellsAll 1 rfl)) ?_)
 refine Zb (Vn x _ _ cx (hF.rep rx) (hG.ext hF.same) by_Om by_Om hx) (Ua Aw rfl rfl) ?_
 rintro _ w ⟨Au, cu, Bu, eu, rfl, -, -, hE⟩
 replace hF := hF.ext hE
 clear hE
 refine Ca (Qg rfl) (Ca (Yw rfl rfl) (Ca (Re rfl rfl) ?_))
 refine Hh hF zeroValue30 sizeOf30 rfl ?_
 clear hF; rintro b3 w hb3 hF -
 refine Ca (Kb rfl) (Yb (Fa (v := .agg (List.toArray cy)) (Rb (l := cy) isAgg25 sizeOf25 rfl hlcy (hF.cellsAll 1 rfl)) ?_))
 refine Va hF (Yr y _ _ cy (hF.rep ry) (hG.ext hF.same) by_Om by_Om hy) (Ua Aw rfl rfl) ?_
 clear hF; intro w hF
 refine Ca (Qg rfl) (Ca (Yw rfl rfl) (Ca (Re rfl rfl) ?_))
 refine Hh hF zeroValue30 sizeOf30 rfl ?_
 clear hF; rintro b4 w hb4 hF -
 refine Ca (Kb rfl) (Yb (Fa (v := .agg (List.toArray cx)) (Rb (l := cx) isAgg25 sizeOf25 rfl hlcx (hF.cellsAll 3 rfl)) (Fa (v := .agg (List.toArray cy)) (Rb (l := cy) isAgg25 sizeOf25 rfl hlcy (hF.cellsAll 2 rfl)) ?_)))
 have hbt := Lj x y _ _ _ cx cy (hF.rep rx) (hF.rep ry) (hG.ext hF.same) by_Om by_Om by_Om by_Om
 rw [Mq, Nq, hx, hy] at hbt
 simp only [Bool.and_false, Bool.false_and, Bool.and_self, Bool.false_eq_true, if_false] at hbt
 refine Va hF (hbt) (Pa Sg rfl rfl rfl) ?_
 clear hF; intro w hF
 refine Ca (Qg rfl) (Ca (Re rfl rfl) (Ca (Re rfl rfl) (Ca (Kb rfl) (Ca (Kb rfl) (Da (Ia (Ha (Ca (Za rfl) (Fa (v := .bool false) (Dd (Ri rfl rfl) by_Om) (Ca (Jc rfl) (Ca (Za rfl) ?_)))))))))))
 refine Fa (v := .bool true) (Sc (Ri rfl rfl) by_Om) (Ca (Dc rfl rfl) (Da (Qd rfl (Ha (Ca (Jc rfl) (Ca (Jc rfl) (Ca (Za rfl) (Fa (v := .bool true) (Sc (Bg rfl rfl) by_Om) (Ca (Lc rfl rfl) (Ca (Jc rfl) (Ca (Za rfl) ?_)))))))))))
 refine Fa (v := .bool false) (Dd (Ri rfl rfl) by_Om) (Ca (Jc rfl) (Ea (Ea (Ea (Ca (Dc rfl rfl) (Ca (Jc rfl) (Ca (Za rfl) (Fa (v := .bool true) (Sc (Bg rfl rfl) by_Om) (Ca (Jc rfl) (Ca (Za rfl) (Ca (Za rfl) (Fa (v := .bool true) (Sc (Bg rfl rfl) by_Om) (Ca (Lc rfl rfl) ?_)))))))))))))
 refine Ca (Dc rfl rfl) (Ca (Lc rfl rfl) (Ca (Cc rfl) (Da ?_)))
 refine Ud (v := .bool true) rfl rfl ?_
 exact ⟨rfl, hF.same⟩
 refine Ea (Ea (Ca (Dc rfl rfl) (Ca (Cc rfl) (Da (Ia (Ha (Ca (Jc rfl) (Ca (Dm (b := false) rfl) (Da (Qd rfl ?_))))))))))
 refine Ha (Ca (Jc rfl) (Ca (Cc rfl) (Da ?_)))
 refine Ud (v := .bool true) rfl rfl ?_
 exact ⟨rfl, hF.same⟩
theorem C3 (w0 : World) (hG : Gl w0) (x : Tree) (cx : List Value) (rx : Rep (fun _ => True) w0 (Gc x) cx) (y : Tree) (cy : List Value) (ry : Rep (fun _ => True) w0 (Gc y) cy) (hx : Yc x = false) (hy : Yc y = true) : Calls prog 3 #[.agg cx.toArray, .agg cy.toArray] w0 (Ce fun v w' => v = .bool true ∧ Same [] w0 w') := by
 have hlcx : cx.length = 4 := rx.length.trans (Ac x)
 have hocx := rx.one_
 have hlcy : cy.length = 4 := ry.length.trans (Ac y)
 have hocy := ry.one_
 refine Ma func3 rfl ntmps3 Qb (Wd _ _) ?_
 have hF := FR.start w0 []
 refine Ha ?_
 refine Vf (v := .agg (List.toArray cx)) (cs := (List.toArray cx)) hF rfl rfl ?_
 clear hF; rintro b1 w hb1 hF -
 refine Vf (v := .agg (List.toArray cy)) (cs := (List.toArray cy)) hF rfl rfl ?_
 clear hF; rintro b2 w hb2 hF -
 refine Ca (Cc rfl) (Yb ?_)
 refine Va hF (Ur _ (hG.ext hF.same)) (Iy WL rfl) ?_
 clear hF; intro w hF
 refine Ca (Cc rfl) (Yb (Fa (v := .agg (List.toArray cx)) (Rb (l := cx) isAgg25 sizeOf25 rfl hlcx (hF.cellsAll 1 rfl)) ?_))
 refine Va hF (Qx x 40 by_Om by_Om _ _ cx (hF.rep rx)) (Pa K5 rfl rfl rfl) ?_
 clear hF; intro w hF
 refine Ca (Jc rfl) ?_
 refine Qe (d := 18) rfl (fun hg0 => ?_) (fun hg0 => ?_)
 refine Fa (v := .agg (List.toArray cy)) (Rb (l := cy) isAgg25 sizeOf25 rfl hlcy (hF.cellsAll 0 rfl)) ?_
 refine Va hF (Qx y 40 by_Om by_Om _ _ cy (hF.rep ry)) (Pa K5 rfl rfl rfl) ?_
 clear hF; intro w hF
 refine Ca (Lc rfl rfl) (Ca (Cc rfl) (Da (Ia (Ha (Ca (Jc rfl) (Ca (Dm rfl) (Da ?_)))))))
 refine Vh rfl rfl (fun hc0 => ?_) (fun hc0 => ?_)
 refine Ha (Ca (Jc rfl) (Ca (Cc rfl) (Da ?_)))
 refine Ud (v := .bool true) rfl rfl ?_
 exact ⟨rfl, hF.same⟩
 refine Ra (Ja (Ia ?_))
 have kx_ : Mw x 40 = true := by first | assumption | exact Fm (by assumption)
 have ky_ : Mw y 40 = true := by first | assumption | exact Fm (by assumption)
 obtain ⟨sx, dx, tx⟩ := Zn by_Om kx_
 obtain ⟨sy, dy, ty⟩ := Zn by_Om ky_
 have mx := Ek x tx
 have my := Ek y ty
 refine Ga (Fa (v := .agg (List.toArray cx)) (Rb (l := cx) isAgg25 sizeOf25 rfl hlcx (hF.cellsAll 1 rfl)) ?_)
 refine Va hF (Yr x _ _ cx (hF.rep rx) (hG.ext hF.same) by_Om by_Om hx) (Ua Aw rfl rfl) ?_
 clear hF; intro w hF
 refine Ca (Qg rfl) (Ca (Yw rfl rfl) (Ca (Re rfl rfl) ?_))
 refine Hh hF zeroValue30 sizeOf30 rfl ?_
 clear hF; rintro b3 w hb3 hF -
 refine Ca (Kb rfl) (Yb (Fa (v := .agg (List.toArray cy)) (Rb (l := cy) isAgg25 sizeOf25 rfl hlcy (hF.cellsAll 1 rfl)) ?_))
 refine Zb (Vn y _ _ cy (hF.rep ry) (hG.ext hF.same) by_Om by_Om hy) (Ua Aw rfl rfl) ?_
 rintro _ w ⟨Av, cv, Bv, ev, rfl, -, -, hE⟩
 replace hF := hF.ext hE
 clear hE
 refine Ca (Qg rfl) (Ca (Yw rfl rfl) (Ca (Re rfl rfl) ?_))
 refine Hh hF zeroValue30 sizeOf30 rfl ?_
 clear hF; rintro b4 w hb4 hF -
 refine Ca (Kb rfl) (Yb (Fa (v := .agg (List.toArray cx)) (Rb (l := cx) isAgg25 sizeOf25 rfl hlcx (hF.cellsAll 3 rfl)) (Fa (v := .agg (List.toArray cy)) (Rb (l := cy) isAgg25 sizeOf25 rfl hlcy (hF.cellsAll 2 rfl)) ?_)))
 have hbt := Lj x y _ _ _ cx cy (hF.rep rx) (hF.rep ry) (hG.ext hF.same) by_Om by_Om by_Om by_Om
 rw [Mq, Nq, hx, hy] at hbt
 simp only [Bool.and_false, Bool.false_and, Bool.and_self, Bool.false_eq_true, if_false] at hbt
 refine Va hF (hbt) (Pa Sg rfl rfl rfl) ?_
 clear hF; intro w hF
 refine Ca (Qg rfl) (Ca (Re rfl rfl) (Ca (Re rfl rfl) (Ca (Kb rfl) (Ca (Kb rfl) (Da (Ia (Ha (Ca (Za rfl) (Fa (v := .bool true) (Sc (Ri rfl rfl) by_Om) (Ca (Jc rfl) (Ea ?_)))))))))))
 refine Ea (Ca (Lc rfl rfl) (Da (Qd rfl (Ha (Ca (Jc rfl) (Ca (Jc rfl) (Ca (Za rfl) (Fa (v := .bool true) (Sc (Bg rfl rfl) by_Om) (Ca (Lc rfl rfl) (Ca (Jc rfl) (Ca (Za rfl) ?_)))))))))))
 refine Fa (v := .bool true) (Sc (Ri rfl rfl) by_Om) (Ca (Jc rfl) (Ca (Za rfl) (Ca (Za rfl) (Fa (v := .bool true) (Sc (Bg rfl rfl) by_Om) (Ca (Lc rfl rfl) (Ca (Jc rfl) (Ea (Ea (Ea (Ea (Ea (Ea (Ea ?_)))))))))))))
 refine Ca (Lc rfl rfl) (Ca (Lc rfl rfl) (Ca (Cc rfl) (Da ?_)))
 refine Ud (v := .bool true) rfl rfl ?_
 exact ⟨rfl, hF.same⟩
 refine Ea (Ea (Ca (Dc rfl rfl) (Ca (Cc rfl) (Da (Ia (Ha (Ca (Jc rfl) (Ca (Dm (b := false) rfl) (Da (Qd rfl ?_))))))))))
 refine Ha (Ca (Jc rfl) (Ca (Cc rfl) (Da ?_)))
 refine Ud (v := .bool true) rfl rfl ?_
 exact ⟨rfl, hF.same⟩
theorem D4 (w0 : World) (hG : Gl w0) (x : Tree) (cx : List Value) (rx : Rep (fun _ => True) w0 (Gc x) cx) (y : Tree) (cy : List Value) (ry : Rep (fun _ => True) w0 (Gc y) cy) (hx : Yc x = false) (hy : Yc y = false) : Calls prog 3 #[.agg cx.toArray, .agg cy.toArray] w0 (Ce fun v w' => v = .bool true ∧ Same [] w0 w') := by
 have hlcx : cx.length = 4 := rx.length.trans (Ac x)
 have hocx := rx.one_
 have hlcy : cy.length = 4 := ry.length.trans (Ac y)
 have hocy := ry.one_
 refine Ma func3 rfl ntmps3 Qb (Wd _ _) ?_
 have hF := FR.start w0 []
 refine Ha ?_
 refine Vf (v := .agg (List.toArray cx)) (cs := (List.toArray cx)) hF rfl rfl ?_
 clear hF; rintro b1 w hb1 hF -
 refine Vf (v := .agg (List.toArray cy)) (cs := (List.toArray cy)) hF rfl rfl ?_
 clear hF; rintro b2 w hb2 hF -
 refine Ca (Cc rfl) (Yb ?_)
 refine Va hF (Ur _ (hG.ext hF.same)) (Iy WL rfl) ?_
 clear hF; intro w hF
 refine Ca (Cc rfl) (Yb (Fa (v := .agg (List.toArray cx)) (Rb (l := cx) isAgg25 sizeOf25 rfl hlcx (hF.cellsAll 1 rfl)) ?_))
 refine Va hF (Qx x 40 by_Om by_Om _ _ cx (hF.rep rx)) (Pa K5 rfl rfl rfl) ?_
 clear hF; intro w hF
 refine Ca (Jc rfl) ?_
 refine Qe (d := 18) rfl (fun hg0 => ?_) (fun hg0 => ?_)
 refine Fa (v := .agg (List.toArray cy)) (Rb (l := cy) isAgg25 sizeOf25 rfl hlcy (hF.cellsAll 0 rfl)) ?_
 refine Va hF (Qx y 40 by_Om by_Om _ _ cy (hF.rep ry)) (Pa K5 rfl rfl rfl) ?_
 clear hF; intro w hF
 refine Ca (Lc rfl rfl) (Ca (Cc rfl) (Da (Ia (Ha (Ca (Jc rfl) (Ca (Dm rfl) (Da ?_)))))))
 refine Vh rfl rfl (fun hc0 => ?_) (fun hc0 => ?_)
 refine Ha (Ca (Jc rfl) (Ca (Cc rfl) (Da ?_)))
 refine Ud (v := .bool true) rfl rfl ?_
 exact ⟨rfl, hF.same⟩
 refine Ra (Ja (Ia ?_))
 have kx_ : Mw x 40 = true := by first | assumption | exact Fm (by assumption)
 have ky_ : Mw y 40 = true := by first | assumption | exact Fm (by assumption)
 obtain ⟨sx, dx, tx⟩ := Zn by_Om kx_
 obtain ⟨sy, dy, ty⟩ := Zn by_Om ky_
 have mx := Ek x tx
 have my := Ek y ty
 refine Ga (Fa (v := .agg (List.toArray cx)) (Rb (l := cx) isAgg25 sizeOf25 rfl hlcx (hF.cellsAll 1 rfl)) ?_)
 refine Va hF (Yr x _ _ cx (hF.rep rx) (hG.ext hF.same) by_Om by_Om hx) (Ua Aw rfl rfl) ?_
 clear hF; intro w hF
 refine Ca (Qg rfl) (Ca (Yw rfl rfl) (Ca (Re rfl rfl) ?_))
 refine Hh hF zeroValue30 sizeOf30 rfl ?_
 clear hF; rintro b3 w hb3 hF -
 refine Ca (Kb rfl) (Yb (Fa (v := .agg (List.toArray cy)) (Rb (l := cy) isAgg25 sizeOf25 rfl hlcy (hF.cellsAll 1 rfl)) ?_))
 refine Va hF (Yr y _ _ cy (hF.rep ry) (hG.ext hF.same) by_Om by_Om hy) (Ua Aw rfl rfl) ?_
 clear hF; intro w hF
 refine Ca (Qg rfl) (Ca (Yw rfl rfl) (Ca (Re rfl rfl) ?_))
 refine Hh hF zeroValue30 sizeOf30 rfl ?_
 clear hF; rintro b4 w hb4 hF -
 refine Ca (Kb rfl) (Yb (Fa (v := .agg (List.toArray cx)) (Rb (l := cx) isAgg25 sizeOf25 rfl hlcx (hF.cellsAll 3 rfl)) (Fa (v := .agg (List.toArray cy)) (Rb (l := cy) isAgg25 sizeOf25 rfl hlcy (hF.cellsAll 2 rfl)) ?_)))
 have hbt := Lj x y _ _ _ cx cy (hF.rep rx) (hF.rep ry) (hG.ext hF.same) by_Om by_Om by_Om by_Om
 rw [Mq, Nq, hx, hy] at hbt
 simp only [Bool.and_false, Bool.false_and, Bool.and_self, Bool.false_eq_true, if_false] at hbt
 refine Va hF (hbt) (Pa Sg rfl rfl rfl) ?_
 clear hF; intro w hF
 refine Ca (Qg rfl) (Ca (Re rfl rfl) (Ca (Re rfl rfl) (Ca (Kb rfl) (Ca (Kb rfl) (Da (Ia (Ha (Ca (Za rfl) (Fa (v := .bool true) (Sc (Ri rfl rfl) by_Om) (Ca (Jc rfl) (Ea ?_)))))))))))
 refine Ea (Ca (Lc rfl rfl) (Da (Qd rfl (Ha (Ca (Jc rfl) (Ca (Jc rfl) (Ca (Za rfl) (Fa (v := .bool true) (Sc (Bg rfl rfl) by_Om) (Ca (Lc rfl rfl) (Ca (Jc rfl) (Ca (Za rfl) ?_)))))))))))
 refine Fa (v := .bool true) (Sc (Ri rfl rfl) by_Om) (Ca (Jc rfl) (Ca (Za rfl) (Ca (Za rfl) (Fa (v := .bool true) (Sc (Bg rfl rfl) by_Om) (Ca (Lc rfl rfl) (Ca (Jc rfl) (Ea (Ea (Ea (Ea (Ea (Ea (Ea ?_)))))))))))))
 refine Ca (Lc rfl rfl) (Ca (Lc rfl rfl) (Ca (Cc rfl) (Da ?_)))
 refine Ud (v := .bool true) rfl rfl ?_
 exact ⟨rfl, hF.same⟩
 refine Ea (Ea (Ca (Dc rfl rfl) (Ca (Cc rfl) (Da (Ia (Ha (Ca (Jc rfl) (Ca (Dm (b := false) rfl) (Da (Qd rfl ?_))))))))))
 refine Ha (Ca (Jc rfl) (Ca (Cc rfl) (Da ?_)))
 refine Ud (v := .bool true) rfl rfl ?_
 exact ⟨rfl, hF.same⟩
theorem L7 (w0 : World) (hG : Gl w0) (x : Tree) (cx : List Value) (rx : Rep (fun _ => True) w0 (Gc x) cx) (y : Tree) (cy : List Value) (ry : Rep (fun _ => True) w0 (Gc y) cy) : Calls prog 3 #[.agg cx.toArray, .agg cy.toArray] w0 (Ce fun v w' => v = .bool true ∧ Same [] w0 w') := by
  cases hx : Yc x <;> cases hy : Yc y
  · exact D4 w0 hG x cx rx y cy ry hx hy
  · exact C3 w0 hG x cx rx y cy ry hx hy
  · exact T3 w0 hG x cx rx y cy ry hx hy
  · exact J3 w0 hG x cx rx y cy ry hx hy
end Go.Scarf
