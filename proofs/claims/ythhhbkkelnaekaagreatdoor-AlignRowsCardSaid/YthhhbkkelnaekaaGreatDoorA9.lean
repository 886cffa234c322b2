/- A part of the proof. -/
import Derived.Test.YthhhbkkelnaekaaGreatDoorA7
import Derived.Test.YthhhbkkelnaekaaGreatDoorW19
import Derived.Test.YthhhbkkelnaekaaGreatDoorW10
set_option linter.all false
set_option maxHeartbeats 8000000
set_option maxRecDepth 10000
namespace Go.Scarf
open Go.RowKit Go.Proofs Go.Proofs.Tryz
def RiseN (n size:Nat):Nat→Nat→List (Nat × Nat)→Prop
  | _,j,[]=>j≤size
  | k,j,z::m=>k≤z.1∧z.1 < n∧j≤z.2∧z.2 < size∧RiseN n size (z.1+1) (z.2+1) m
theorem RiseN.all {n size:Nat}:∀ {m:List (Nat × Nat)} {k j:Nat},RiseN n size k j m→∀ z∈m,z.1 < n∧z.2 < size
  | [],_,_,_,z,hz=>by cases hz
  | y :: m, _, _, h, z, hz => by
    rcases List.mem_cons.1 hz with rfl | hz
    · exact ⟨h.2.1,h.2.2.2.1⟩
    · exact RiseN.all h.2.2.2.2 z hz
end Go.Scarf
namespace Go.Scarf
open Go.RowKit Go.Proofs Go.Proofs.Tryz
theorem Rep.gap_elem {S:Nat→Prop} {w:World} {N:Nat} {gp:Nat→List Int} {A:Option Addr} {len c:Nat} (h:Rep S w (R5 N gp) [.slice A len c]) {i:Nat} (hi:i < N) :
    ∃ ad B e,A=some ad∧w.cell? (ad.add (i * 1))=some (.slice B (gp i).length e)∧Rep S w (.slice ((gp i).map Ug)) [.slice B (gp i).length e]:=by
  obtain ⟨ad,v,hA,hc,hr⟩:=Rep.elem1 h (fun d hd=>by obtain ⟨k,_,rfl⟩:=List.mem_map.1 hd; rfl) (i:=i) (by simpa using hi)
  rw [List.getElem_map,List.getElem_range] at hr
  obtain ⟨B,e,he⟩:=Rep.slice_is hr
  rw [List.length_map] at he
  subst he
  exact ⟨ad,B,e,hA,hc,hr⟩
def XQ (q:UInt8):Tree:=.node 3 [q] [] []
def DY:List Tree:=[XQ 49,XQ 50,XQ 51]
def FY:List Tree:=[XQ 49,XQ 51]
theorem ZA (q:UInt8):Yj (XQ q):=⟨EA _ (by simp [XQ,Pj,Nm]),by simp [XQ,Oc,Fd],by simp [XQ,Lf,Nk,Yl]⟩
theorem Lu:Yw 0 0 (DY.map We) (FY.map We)=Le [(0,0),(2,1)]∧al Tl pN (DY.map We) (FY.map We)=1∧Zg DY=0∧Zg FY=0:=⟨by kernel_rfl,by kernel_rfl,by kernel_rfl,by kernel_rfl⟩
theorem Bw {w0 w:World} {bs_:List (Nat × Obj)} (hG:Gl w0) (hF:FR w0 [] bs_ w) {a b:Nat} (i:Nat) (ha:bs_[i]? = some (a,.cells #[.int .i64 3,.string (bs [49]),.slice none 0 0,.slice none 0 0,.int .i64 3,.string (bs [50]),.slice none 0 0,.slice none 0 0,.int .i64 3,.string (bs [51]),.slice none 0 0,.slice none 0 0] 27)) (j:Nat) (hb:bs_[j]? = some (b,.cells #[.int .i64 3,.string (bs [49]),.slice none 0 0,.slice none 0 0,.int .i64 3,.string (bs [51]),.slice none 0 0,.slice none 0 0] 27)) :
    Calls prog 7 #[.slice (some ⟨a,0,none⟩) 3 3,.slice (some ⟨b,0,none⟩) 2 2] w (De fun v w'=>∃ (Az:Option Addr) (cz:Nat),v=.tuple #[.slice Az 2 cz,.int .i64 1,.int .i64 0]∧Rep (fun _=>True) w' (Lj (Le [(0,0),(2,1)])) [.slice Az 2 cz]∧Same [] w w'):=by
  have hx:RX w0 [] w [.slice (Wc DY)] [.slice (some ⟨a,0,none⟩) 3 3]:=hF.rowX (ids:=[]) i ha (RX.append (ds:=[_]) (RX.num [49] Ma) (RX.append (ds:=[_]) (RX.num [50] Ma) (RX.num [51] Ma))) Ma rfl U
  have hy:RX w0 [] w [.slice (Wc FY)] [.slice (some ⟨b,0,none⟩) 2 2]:=hF.rowX (ids:=[]) j hb (RX.append (ds:=[_]) (RX.num [49] Ma) (RX.num [51] Ma)) Ma rfl U
  have h:=WA _ _ w (hG.ext hF.same) DY FY _ _ 3 2 hx.rep hy.rep (fun z hz=>by simp only [DY,List.mem_cons,List.not_mem_nil,or_false] at hz; rcases hz with rfl | rfl | rfl <;> exact ZA _) (fun z hz=>by simp only [FY,List.mem_cons,List.not_mem_nil,or_false] at hz; rcases hz with rfl | rfl <;> exact ZA _) _ _ rfl rfl Lu.2.2.1 Lu.2.2.2
  rw [Lu.1,Lu.2.1] at h
  exact Bi h fun v w' ⟨Az,cz,hv,hr,hs⟩=>⟨Az,cz,hv,hr.weaken fun _ _ _=>trivial,hs⟩
theorem Uo {w0 w:World} {bs_:List (Nat × Obj)} (hF:FR w0 [] bs_ w) {b:Nat} (m:List (Nat × Nat)) (hm:∀ z∈m,z.1≤1000∧z.2≤1000) (hl:m.length≤1000) (i:Nat) (hb:bs_[i]? = some (b,.cells (As (Le m)).toArray 41)):Rep (EY w0 [] w) w (Lj (Le m)) [.slice (some ⟨b,0,none⟩) m.length m.length] :=
  (hF.rowX (ids:=[]) i hb (RX.plain fun _=>Vo fun z hz=>by obtain ⟨y,hy,rfl⟩:=List.mem_map.1 hz; have:=hm y hy; simp only; omega) Ma (by simp [Le]) U).rep
theorem Im {w0 w:World} {bs_:List (Nat × Obj)} (hF:FR w0 [] bs_ w) {b:Nat} (l:List Int) (hm:∀ z∈l,-1000≤z∧z≤1000) (hl:l.length≤1000) (i:Nat) (hb:bs_[i]? = some (b,.cells (l.map fun s=>Value.int .i64 s).toArray 3)):Rep (EY w0 [] w) w (.slice (l.map Ug)) [.slice (some ⟨b,0,none⟩) l.length l.length] :=
  (hF.rowX (ids:=[]) i hb (RX.plain fun _=>On fun z hz=>by have:=hm z hz; omega) Ma Ma U).rep
theorem TI (w0:World) (hG:Gl w0):Calls prog 4 #[] w0 (De fun v w'=>v=.bool true∧Same [] w0 w'):=by
 refine Ka func4 O ntmps4 Kb (DN) ?_
 have hF:=FR.start w0 []
 refine Ia (Ca (Hc O) (Bc ?_))
 refine Jb hF (Ng (v':=.agg #[.int .i64 3,.string (bs [49]),.slice none 0 0,.slice none 0 0]) (LC 1 U U _ (hG.ext hF.same)) Qb) (Cb KB O O) ?_
 clear hF; intro w hF
 refine Ym hF zeroValue27 sizeOf27 O ?_
 clear hF; rintro b1 w hb1 hF -
 refine Ea (Ha ?_)
 refine Ff (zs:=[]) (.free 0 (.free 4 (.act 1 (.act 2 (.alt 3 (.act 5 (.act 6 (.act 7 (.free 8 (.free 9 (.free 10 (.free 11 (.free 12 (.free 13 (.free 14 .nil)))))))))) (.act 5 (.alt 3 (.act 6 (.act 7 (.free 8 (.free 9 (.free 10 (.free 11 (.free 12 (.free 13 (.free 14 .nil))))))))) (.act 6 (.act 3 (.act 7 (.free 8 (.free 9 (.free 10 (.free 11 (.free 12 (.free 13 (.free 14 .nil))))))))))))))))) hF ?_
 clear hF; intro w hF
 refine Uk O (Wj isAgg27 sizeOf27 O C0 0 O O) (Uk O (Wj isAgg27 sizeOf27 O C0 0 O O) ?_)
 refine Um hF (Ng (v':=.agg #[.int .i64 3,.string (bs [50]),.slice none 0 0,.slice none 0 0]) (LC 2 U U _ (hG.ext hF.same)) Qb) O (Cb KB O O) ?_
 clear hF; intro w hF
 refine ⟨hF,?_⟩
 refine Um hF (Ng (v':=.agg #[.int .i64 3,.string (bs [51]),.slice none 0 0,.slice none 0 0]) (LC 3 U U _ (hG.ext hF.same)) Qb) O (Cb KB O O) ?_
 clear hF; intro w hF
 refine ⟨hF,?_⟩
 refine Mk ?_ ?_
 refine Ge 3 O hF (Za (cs:=#[.int .i64 3,.string (bs [49]),.slice none 0 0,.slice none 0 0,.int .i64 3,.string (bs [50]),.slice none 0 0,.slice none 0 0,.int .i64 3,.string (bs [51]),.slice none 0 0,.slice none 0 0]) underlying22 sizeOf27 zeroValue27 Ua Ua Qb) ?_
 clear hF; rintro b2 w hb2 hF -
 refine ⟨hF.drop 1,?_⟩
 refine Um hF (Ng (v':=.agg #[.int .i64 3,.string (bs [51]),.slice none 0 0,.slice none 0 0]) (LC 3 U U _ (hG.ext hF.same)) Qb) O (Cb KB O O) ?_
 clear hF; intro w hF
 refine ⟨hF.drop 1,?_⟩
 refine Ge 2 O hF (Za (cs:=#[.int .i64 3,.string (bs [49]),.slice none 0 0,.slice none 0 0,.int .i64 3,.string (bs [51]),.slice none 0 0,.slice none 0 0]) underlying22 sizeOf27 zeroValue27 Ua Ua Qb) ?_
 clear hF; rintro b3 w hb3 hF -
 refine ⟨hF.drop 2,?_⟩
 refine Ye O (Bw hG hF 1 O 0 O) (Vb BL O O O) ?_
 rintro _ w ⟨Az,cz,rfl,hM,hE⟩
 replace hF:=hF.ext hE
 clear hE
 refine ⟨hF.drop 2,?_⟩
 refine Db O (Ul O) (Db O (W4 O O) (Db O (Fm O O) (Db O (Fm O O) (Db O (Sh O) (Db O (Wb O) (Db O (Wb O) (Mc (Ga (Ia ?_)))))))))
 refine Ja (w':=w) (v:=.agg #[.int .i64 0,.int .i64 1]) Qb ?_
 refine Pe 1 hF (Za (cs:=#[.int .i64 0,.int .i64 1]) underlying29 sizeOf41 zeroValue41 Ua Ua Qb) ?_
 clear hF; intro b4 w hb4 hF hE
 replace hM:=hM.ext hE
 clear hE
 refine Pb (H4 _ _ 2 [(0,1)] _ _ (Uo hF [(0,1)] Ma Ma 0 O) Qb U Ma 3 U Ma) (Gd OP O O O O) ?_
 rintro _ w ⟨og,rfl,hO,hE⟩
 replace hM:=hM.ext hE
 replace hF:=hF.ext hE
 have hO:Rep (fun _=>True) w (R5 3 (Jh 2 3 [(0,1)] 0 fun _=>[])) [.slice (some ⟨og,0,none⟩) 3 3]:=hO.weaken fun _ _ _=>trivial
 clear hE
 refine Ca (Ul O) (Ca (W4 O O) (Ca (Ss O O) (Ca (Sh O) (Ca (Hc O) (Bc (Ca (Yd O) ?_))))))
 refine Pb (Ey _ _ 3 [(0,0),(2,1)] _ _ hM Qb U Ma Ma) (Vb LP O O O) ?_
 rintro _ w ⟨oi,rfl,hI,hE⟩
 replace hM:=hM.ext hE
 replace hO:=hO.ext hE
 replace hF:=hF.ext hE
 have hI:Rep (fun _=>True) w (.slice (((List.range 3).map (Gx [(0,0),(2,1)] fun _=>-1)).map Ug)) [.slice (some ⟨oi,0,none⟩) 3 3]:=hI.weaken fun _ _ _=>trivial
 clear hE
 refine Ca (Ul O) (Ca (W4 O O) (Ca (Ss O O) (Ca (Sh O) (Ca (Hc O) (Bc (Ca (Va O) (Ja (v:=.bool true) (Ce (Ig O O) Ua) (Ca (Jc O) (Ca (Va O) (Ja (v:=.bool true) (Ce (Ig O O) Ua) ?_))))))))))
 refine Ca (Ic O O) (Ca (Jc O) (Ca (Yd O) ?_))
 refine Ja (w':=w) (v:=.agg #[.int .i64 0,.int .i64 0]) Qb ?_
 refine Ja (w':=w) (v:=.agg #[.int .i64 2,.int .i64 1]) Qb ?_
 refine Pe 2 hF (Za (cs:=#[.int .i64 0,.int .i64 0,.int .i64 2,.int .i64 1]) underlying29 sizeOf41 zeroValue41 Ua Ua Qb) ?_
 clear hF; intro b5 w hb5 hF hE
 replace hM:=hM.ext hE
 replace hO:=hO.ext hE
 replace hI:=hI.ext hE
 clear hE
 refine Pb (Ng (v':=.bool true) (Zq _ _ _ (Le [(0,0),(2,1)]) (Le [(0,0),(2,1)]) _ _ _ _ hM (Uo hF [(0,0),(2,1)] Ma Ma 0 O)) (congrArg Value.bool (decide_eq_true O))) (Vb V5 O O O) ?_
 rintro _ w ⟨rfl,hE⟩
 replace hF:=hF.ext hE
 replace hM:=hM.ext hE
 replace hO:=hO.ext hE
 replace hI:=hI.ext hE
 clear hE
 refine Ca (Ic O O) (Ca (Jc O) (Ca (Jc O) (Ca (Ic O O) (Ca (Jc O) (Ca (Yd O) (Ca (Df underlying37 O) (Ja (v:=.bool true) (Ce (Ig O O) Ua) (Ca (Ic O O) (Ca (Jc O) (Ca (Yd O) ?_))))))))))
 obtain ⟨ad0,B0,e0,hA0,hk0,hx0⟩:=hO.gap_elem (i:=0) U
 refine Ja (v:=.pointer (some (ad0.add (0 * 1)))) (Pa (i:=0) Vj O hA0 O Ua Ua) (Ja (v:=.slice (B0) (((Jh 2 3 [(0,1)] 0 fun _=>[]) 0).length) (e0)) (Ya isAgg42 O hk0) ?_)
 refine Pe 1 hF (Za (cs:=#[.int .i64 0]) underlying42 sizeOf3 zeroValue3 Ua Ua Qb) ?_
 clear hF; intro b6 w hb6 hF hE
 replace hM:=hM.ext hE
 replace hO:=hO.ext hE
 replace hI:=hI.ext hE
 replace hx0:=hx0.ext hE
 clear hE
 have hy_:=Im (b:=b6) hF [0] Ma Ma 0 rfl
 refine Pb (show Calls prog 14 #[.slice (B0) (((Jh 2 3 [(0,1)] 0 fun _=>[]) 0).length) (e0),.slice (some ⟨b6,0,none⟩) 1 1] w (De fun v w'=>v=.bool true∧Same [] w w') from Ng (v':=.bool true) (Sr _ _ _ ((Jh 2 3 [(0,1)] 0 fun _=>[]) 0) [0] _ _ _ _ hx0 hy_) (congrArg Value.bool (decide_eq_true Qb))) (Vb Kx O O O) ?_
 rintro _ w ⟨rfl,hE⟩
 replace hF:=hF.ext hE
 replace hM:=hM.ext hE
 replace hO:=hO.ext hE
 replace hI:=hI.ext hE
 replace hx0:=hx0.ext hE
 clear hE
 clear hy_
 refine Ca (Ic O O) (Ca (Jc O) (Ca (Yd O) ?_))
 obtain ⟨ad1,B1,e1,hA1,hk1,hx1⟩:=hO.gap_elem (i:=1) U
 refine Ja (v:=.pointer (some (ad1.add (1 * 1)))) (Pa (i:=1) Vj O hA1 O Ua Ua) (Ja (v:=.slice (B1) (((Jh 2 3 [(0,1)] 0 fun _=>[]) 1).length) (e1)) (Ya isAgg42 O hk1) (Ca (Df underlying42 O) ?_))
 refine Ja (v:=.bool true) (Ce (Ig O O) Qb) ?_
 refine Ca (Ic O O) (Ca (Jc O) (Ca (Yd O) ?_))
 obtain ⟨ad2,B2,e2,hA2,hk2,hx2⟩:=hO.gap_elem (i:=2) U
 refine Ja (v:=.pointer (some (ad2.add (2 * 1)))) (Pa (i:=2) Vj O hA2 O Ua Ua) (Ja (v:=.slice (B2) (((Jh 2 3 [(0,1)] 0 fun _=>[]) 2).length) (e2)) (Ya isAgg42 O hk2) ?_)
 refine Pe 1 hF (Za (cs:=#[.int .i64 2]) underlying42 sizeOf3 zeroValue3 Ua Ua Qb) ?_
 clear hF; intro b7 w hb7 hF hE
 replace hM:=hM.ext hE
 replace hO:=hO.ext hE
 replace hI:=hI.ext hE
 replace hx2:=hx2.ext hE
 clear hE
 have hy_:=Im (b:=b7) hF [2] Ma Ma 0 rfl
 refine Pb (show Calls prog 14 #[.slice (B2) (((Jh 2 3 [(0,1)] 0 fun _=>[]) 2).length) (e2),.slice (some ⟨b7,0,none⟩) 1 1] w (De fun v w'=>v=.bool true∧Same [] w w') from Ng (v':=.bool true) (Sr _ _ _ ((Jh 2 3 [(0,1)] 0 fun _=>[]) 2) [2] _ _ _ _ hx2 hy_) (congrArg Value.bool (decide_eq_true Qb))) (Vb Kx O O O) ?_
 rintro _ w ⟨rfl,hE⟩
 replace hF:=hF.ext hE
 replace hM:=hM.ext hE
 replace hO:=hO.ext hE
 replace hI:=hI.ext hE
 replace hx2:=hx2.ext hE
 clear hE
 clear hy_
 refine Ca (Ic O O) (Ca (Jc O) (Ca (Jc O) (Ca (Ic O O) (Ca (Jc O) (Ca (Yd O) ?_)))))
 refine Pe 3 hF (Za (cs:=#[.int .i64 0,.int .i64 ((-1)),.int .i64 1]) underlying42 sizeOf3 zeroValue3 Ua Ua Qb) ?_
 clear hF; intro b8 w hb8 hF hE
 replace hM:=hM.ext hE
 replace hO:=hO.ext hE
 replace hI:=hI.ext hE
 replace hx2:=hx2.ext hE
 clear hE
 have hy_:=Im (b:=b8) hF [0,-1,1] Ma Ma 0 rfl
 refine Pb (show Calls prog 14 #[.slice (some ⟨oi,0,none⟩) 3 3,.slice (some ⟨b8,0,none⟩) 3 3] w (De fun v w'=>v=.bool true∧Same [] w w') from Ng (v':=.bool true) (Sr _ _ _ ((List.range 3).map (Gx [(0,0),(2,1)] fun _=>-1)) [0,-1,1] _ _ _ _ hI hy_) (congrArg Value.bool (decide_eq_true Qb))) (Vb Kx O O O) ?_
 rintro _ w ⟨rfl,hE⟩
 replace hF:=hF.ext hE
 replace hM:=hM.ext hE
 replace hO:=hO.ext hE
 replace hI:=hI.ext hE
 replace hx2:=hx2.ext hE
 clear hE
 clear hy_
 refine Ca (Ic O O) (Ca (Hc O) (Ea ?_))
 refine Td (v:=.bool true) O O ?_
 exact ⟨O,hF.same⟩
 refine Um hF (Ng (v':=.agg #[.int .i64 3,.string (bs [51]),.slice none 0 0,.slice none 0 0]) (LC 3 U U _ (hG.ext hF.same)) Qb) O (Cb KB O O) ?_
 clear hF; intro w hF
 refine ⟨hF,?_⟩
 refine Mk ?_ ?_
 refine Ge 3 O hF (Za (cs:=#[.int .i64 3,.string (bs [49]),.slice none 0 0,.slice none 0 0,.int .i64 3,.string (bs [50]),.slice none 0 0,.slice none 0 0,.int .i64 3,.string (bs [51]),.slice none 0 0,.slice none 0 0]) underlying22 sizeOf27 zeroValue27 Ua Ua Qb) ?_
 clear hF; rintro b9 w hb9 hF -
 refine ⟨hF.drop 1,?_⟩
 refine Ge 2 O hF (Za (cs:=#[.int .i64 3,.string (bs [49]),.slice none 0 0,.slice none 0 0,.int .i64 3,.string (bs [51]),.slice none 0 0,.slice none 0 0]) underlying22 sizeOf27 zeroValue27 Ua Ua Qb) ?_
 clear hF; rintro b10 w hb10 hF -
 refine ⟨hF.drop 2,?_⟩
 refine Ye O (Bw hG hF 1 O 0 O) (Vb BL O O O) ?_
 rintro _ w ⟨Az,cz,rfl,hM,hE⟩
 replace hF:=hF.ext hE
 clear hE
 refine ⟨hF.drop 2,?_⟩
 refine Db O (Ul O) (Db O (W4 O O) (Db O (Fm O O) (Db O (Fm O O) (Db O (Sh O) (Db O (Wb O) (Db O (Wb O) (Mc (Ga (Ia ?_)))))))))
 refine Ja (w':=w) (v:=.agg #[.int .i64 0,.int .i64 1]) Qb ?_
 refine Pe 1 hF (Za (cs:=#[.int .i64 0,.int .i64 1]) underlying29 sizeOf41 zeroValue41 Ua Ua Qb) ?_
 clear hF; intro b11 w hb11 hF hE
 replace hM:=hM.ext hE
 clear hE
 refine Pb (H4 _ _ 2 [(0,1)] _ _ (Uo hF [(0,1)] Ma Ma 0 O) Qb U Ma 3 U Ma) (Gd OP O O O O) ?_
 rintro _ w ⟨og,rfl,hO,hE⟩
 replace hM:=hM.ext hE
 replace hF:=hF.ext hE
 have hO:Rep (fun _=>True) w (R5 3 (Jh 2 3 [(0,1)] 0 fun _=>[])) [.slice (some ⟨og,0,none⟩) 3 3]:=hO.weaken fun _ _ _=>trivial
 clear hE
 refine Ca (Ul O) (Ca (W4 O O) (Ca (Ss O O) (Ca (Sh O) (Ca (Hc O) (Bc (Ca (Yd O) ?_))))))
 refine Pb (Ey _ _ 3 [(0,0),(2,1)] _ _ hM Qb U Ma Ma) (Vb LP O O O) ?_
 rintro _ w ⟨oi,rfl,hI,hE⟩
 replace hM:=hM.ext hE
 replace hO:=hO.ext hE
 replace hF:=hF.ext hE
 have hI:Rep (fun _=>True) w (.slice (((List.range 3).map (Gx [(0,0),(2,1)] fun _=>-1)).map Ug)) [.slice (some ⟨oi,0,none⟩) 3 3]:=hI.weaken fun _ _ _=>trivial
 clear hE
 refine Ca (Ul O) (Ca (W4 O O) (Ca (Ss O O) (Ca (Sh O) (Ca (Hc O) (Bc (Ca (Va O) (Ja (v:=.bool true) (Ce (Ig O O) Ua) (Ca (Jc O) (Ca (Va O) (Ja (v:=.bool true) (Ce (Ig O O) Ua) ?_))))))))))
 refine Ca (Ic O O) (Ca (Jc O) (Ca (Yd O) ?_))
 refine Ja (w':=w) (v:=.agg #[.int .i64 0,.int .i64 0]) Qb ?_
 refine Ja (w':=w) (v:=.agg #[.int .i64 2,.int .i64 1]) Qb ?_
 refine Pe 2 hF (Za (cs:=#[.int .i64 0,.int .i64 0,.int .i64 2,.int .i64 1]) underlying29 sizeOf41 zeroValue41 Ua Ua Qb) ?_
 clear hF; intro b12 w hb12 hF hE
 replace hM:=hM.ext hE
 replace hO:=hO.ext hE
 replace hI:=hI.ext hE
 clear hE
 refine Pb (Ng (v':=.bool true) (Zq _ _ _ (Le [(0,0),(2,1)]) (Le [(0,0),(2,1)]) _ _ _ _ hM (Uo hF [(0,0),(2,1)] Ma Ma 0 O)) (congrArg Value.bool (decide_eq_true O))) (Vb V5 O O O) ?_
 rintro _ w ⟨rfl,hE⟩
 replace hF:=hF.ext hE
 replace hM:=hM.ext hE
 replace hO:=hO.ext hE
 replace hI:=hI.ext hE
 clear hE
 refine Ca (Ic O O) (Ca (Jc O) (Ca (Jc O) (Ca (Ic O O) (Ca (Jc O) (Ca (Yd O) (Ca (Df underlying37 O) (Ja (v:=.bool true) (Ce (Ig O O) Ua) (Ca (Ic O O) (Ca (Jc O) (Ca (Yd O) ?_))))))))))
 obtain ⟨ad3,B3,e3,hA3,hk3,hx3⟩:=hO.gap_elem (i:=0) U
 refine Ja (v:=.pointer (some (ad3.add (0 * 1)))) (Pa (i:=0) Vj O hA3 O Ua Ua) (Ja (v:=.slice (B3) (((Jh 2 3 [(0,1)] 0 fun _=>[]) 0).length) (e3)) (Ya isAgg42 O hk3) ?_)
 refine Pe 1 hF (Za (cs:=#[.int .i64 0]) underlying42 sizeOf3 zeroValue3 Ua Ua Qb) ?_
 clear hF; intro b13 w hb13 hF hE
 replace hM:=hM.ext hE
 replace hO:=hO.ext hE
 replace hI:=hI.ext hE
 replace hx3:=hx3.ext hE
 clear hE
 have hy_:=Im (b:=b13) hF [0] Ma Ma 0 rfl
 refine Pb (show Calls prog 14 #[.slice (B3) (((Jh 2 3 [(0,1)] 0 fun _=>[]) 0).length) (e3),.slice (some ⟨b13,0,none⟩) 1 1] w (De fun v w'=>v=.bool true∧Same [] w w') from Ng (v':=.bool true) (Sr _ _ _ ((Jh 2 3 [(0,1)] 0 fun _=>[]) 0) [0] _ _ _ _ hx3 hy_) (congrArg Value.bool (decide_eq_true Qb))) (Vb Kx O O O) ?_
 rintro _ w ⟨rfl,hE⟩
 replace hF:=hF.ext hE
 replace hM:=hM.ext hE
 replace hO:=hO.ext hE
 replace hI:=hI.ext hE
 replace hx3:=hx3.ext hE
 clear hE
 clear hy_
 refine Ca (Ic O O) (Ca (Jc O) (Ca (Yd O) ?_))
 obtain ⟨ad4,B4,e4,hA4,hk4,hx4⟩:=hO.gap_elem (i:=1) U
 refine Ja (v:=.pointer (some (ad4.add (1 * 1)))) (Pa (i:=1) Vj O hA4 O Ua Ua) (Ja (v:=.slice (B4) (((Jh 2 3 [(0,1)] 0 fun _=>[]) 1).length) (e4)) (Ya isAgg42 O hk4) (Ca (Df underlying42 O) ?_))
 refine Ja (v:=.bool true) (Ce (Ig O O) Qb) ?_
 refine Ca (Ic O O) (Ca (Jc O) (Ca (Yd O) ?_))
 obtain ⟨ad5,B5,e5,hA5,hk5,hx5⟩:=hO.gap_elem (i:=2) U
 refine Ja (v:=.pointer (some (ad5.add (2 * 1)))) (Pa (i:=2) Vj O hA5 O Ua Ua) (Ja (v:=.slice (B5) (((Jh 2 3 [(0,1)] 0 fun _=>[]) 2).length) (e5)) (Ya isAgg42 O hk5) ?_)
 refine Pe 1 hF (Za (cs:=#[.int .i64 2]) underlying42 sizeOf3 zeroValue3 Ua Ua Qb) ?_
 clear hF; intro b14 w hb14 hF hE
 replace hM:=hM.ext hE
 replace hO:=hO.ext hE
 replace hI:=hI.ext hE
 replace hx5:=hx5.ext hE
 clear hE
 have hy_:=Im (b:=b14) hF [2] Ma Ma 0 rfl
 refine Pb (show Calls prog 14 #[.slice (B5) (((Jh 2 3 [(0,1)] 0 fun _=>[]) 2).length) (e5),.slice (some ⟨b14,0,none⟩) 1 1] w (De fun v w'=>v=.bool true∧Same [] w w') from Ng (v':=.bool true) (Sr _ _ _ ((Jh 2 3 [(0,1)] 0 fun _=>[]) 2) [2] _ _ _ _ hx5 hy_) (congrArg Value.bool (decide_eq_true Qb))) (Vb Kx O O O) ?_
 rintro _ w ⟨rfl,hE⟩
 replace hF:=hF.ext hE
 replace hM:=hM.ext hE
 replace hO:=hO.ext hE
 replace hI:=hI.ext hE
 replace hx5:=hx5.ext hE
 clear hE
 clear hy_
 refine Ca (Ic O O) (Ca (Jc O) (Ca (Jc O) (Ca (Ic O O) (Ca (Jc O) (Ca (Yd O) ?_)))))
 refine Pe 3 hF (Za (cs:=#[.int .i64 0,.int .i64 ((-1)),.int .i64 1]) underlying42 sizeOf3 zeroValue3 Ua Ua Qb) ?_
 clear hF; intro b15 w hb15 hF hE
 replace hM:=hM.ext hE
 replace hO:=hO.ext hE
 replace hI:=hI.ext hE
 replace hx5:=hx5.ext hE
 clear hE
 have hy_:=Im (b:=b15) hF [0,-1,1] Ma Ma 0 rfl
 refine Pb (show Calls prog 14 #[.slice (some ⟨oi,0,none⟩) 3 3,.slice (some ⟨b15,0,none⟩) 3 3] w (De fun v w'=>v=.bool true∧Same [] w w') from Ng (v':=.bool true) (Sr _ _ _ ((List.range 3).map (Gx [(0,0),(2,1)] fun _=>-1)) [0,-1,1] _ _ _ _ hI hy_) (congrArg Value.bool (decide_eq_true Qb))) (Vb Kx O O O) ?_
 rintro _ w ⟨rfl,hE⟩
 replace hF:=hF.ext hE
 replace hM:=hM.ext hE
 replace hO:=hO.ext hE
 replace hI:=hI.ext hE
 replace hx5:=hx5.ext hE
 clear hE
 clear hy_
 refine Ca (Ic O O) (Ca (Hc O) (Ea ?_))
 refine Td (v:=.bool true) O O ?_
 exact ⟨O,hF.same⟩
 refine Ge 2 O hF (Za (cs:=#[.int .i64 3,.string (bs [49]),.slice none 0 0,.slice none 0 0,.int .i64 3,.string (bs [51]),.slice none 0 0,.slice none 0 0]) underlying22 sizeOf27 zeroValue27 Ua Ua Qb) ?_
 clear hF; rintro b16 w hb16 hF -
 refine ⟨hF.drop 1,?_⟩
 refine Ge 3 O hF (Za (cs:=#[.int .i64 3,.string (bs [49]),.slice none 0 0,.slice none 0 0,.int .i64 3,.string (bs [50]),.slice none 0 0,.slice none 0 0,.int .i64 3,.string (bs [51]),.slice none 0 0,.slice none 0 0]) underlying22 sizeOf27 zeroValue27 Ua Ua Qb) ?_
 clear hF; rintro b17 w hb17 hF -
 refine ⟨hF.drop 2,?_⟩
 refine Ye O (Bw hG hF 0 O 1 O) (Vb BL O O O) ?_
 rintro _ w ⟨Az,cz,rfl,hM,hE⟩
 replace hF:=hF.ext hE
 clear hE
 refine ⟨hF.drop 2,?_⟩
 refine Db O (Ul O) (Db O (W4 O O) (Db O (Fm O O) (Db O (Fm O O) (Db O (Sh O) (Db O (Wb O) (Db O (Wb O) (Mc (Ga (Ia ?_)))))))))
 refine Ja (w':=w) (v:=.agg #[.int .i64 0,.int .i64 1]) Qb ?_
 refine Pe 1 hF (Za (cs:=#[.int .i64 0,.int .i64 1]) underlying29 sizeOf41 zeroValue41 Ua Ua Qb) ?_
 clear hF; intro b18 w hb18 hF hE
 replace hM:=hM.ext hE
 clear hE
 refine Pb (H4 _ _ 2 [(0,1)] _ _ (Uo hF [(0,1)] Ma Ma 0 O) Qb U Ma 3 U Ma) (Gd OP O O O O) ?_
 rintro _ w ⟨og,rfl,hO,hE⟩
 replace hM:=hM.ext hE
 replace hF:=hF.ext hE
 have hO:Rep (fun _=>True) w (R5 3 (Jh 2 3 [(0,1)] 0 fun _=>[])) [.slice (some ⟨og,0,none⟩) 3 3]:=hO.weaken fun _ _ _=>trivial
 clear hE
 refine Ca (Ul O) (Ca (W4 O O) (Ca (Ss O O) (Ca (Sh O) (Ca (Hc O) (Bc (Ca (Yd O) ?_))))))
 refine Pb (Ey _ _ 3 [(0,0),(2,1)] _ _ hM Qb U Ma Ma) (Vb LP O O O) ?_
 rintro _ w ⟨oi,rfl,hI,hE⟩
 replace hM:=hM.ext hE
 replace hO:=hO.ext hE
 replace hF:=hF.ext hE
 have hI:Rep (fun _=>True) w (.slice (((List.range 3).map (Gx [(0,0),(2,1)] fun _=>-1)).map Ug)) [.slice (some ⟨oi,0,none⟩) 3 3]:=hI.weaken fun _ _ _=>trivial
 clear hE
 refine Ca (Ul O) (Ca (W4 O O) (Ca (Ss O O) (Ca (Sh O) (Ca (Hc O) (Bc (Ca (Va O) (Ja (v:=.bool true) (Ce (Ig O O) Ua) (Ca (Jc O) (Ca (Va O) (Ja (v:=.bool true) (Ce (Ig O O) Ua) ?_))))))))))
 refine Ca (Ic O O) (Ca (Jc O) (Ca (Yd O) ?_))
 refine Ja (w':=w) (v:=.agg #[.int .i64 0,.int .i64 0]) Qb ?_
 refine Ja (w':=w) (v:=.agg #[.int .i64 2,.int .i64 1]) Qb ?_
 refine Pe 2 hF (Za (cs:=#[.int .i64 0,.int .i64 0,.int .i64 2,.int .i64 1]) underlying29 sizeOf41 zeroValue41 Ua Ua Qb) ?_
 clear hF; intro b19 w hb19 hF hE
 replace hM:=hM.ext hE
 replace hO:=hO.ext hE
 replace hI:=hI.ext hE
 clear hE
 refine Pb (Ng (v':=.bool true) (Zq _ _ _ (Le [(0,0),(2,1)]) (Le [(0,0),(2,1)]) _ _ _ _ hM (Uo hF [(0,0),(2,1)] Ma Ma 0 O)) (congrArg Value.bool (decide_eq_true O))) (Vb V5 O O O) ?_
 rintro _ w ⟨rfl,hE⟩
 replace hF:=hF.ext hE
 replace hM:=hM.ext hE
 replace hO:=hO.ext hE
 replace hI:=hI.ext hE
 clear hE
 refine Ca (Ic O O) (Ca (Jc O) (Ca (Jc O) (Ca (Ic O O) (Ca (Jc O) (Ca (Yd O) (Ca (Df underlying37 O) (Ja (v:=.bool true) (Ce (Ig O O) Ua) (Ca (Ic O O) (Ca (Jc O) (Ca (Yd O) ?_))))))))))
 obtain ⟨ad6,B6,e6,hA6,hk6,hx6⟩:=hO.gap_elem (i:=0) U
 refine Ja (v:=.pointer (some (ad6.add (0 * 1)))) (Pa (i:=0) Vj O hA6 O Ua Ua) (Ja (v:=.slice (B6) (((Jh 2 3 [(0,1)] 0 fun _=>[]) 0).length) (e6)) (Ya isAgg42 O hk6) ?_)
 refine Pe 1 hF (Za (cs:=#[.int .i64 0]) underlying42 sizeOf3 zeroValue3 Ua Ua Qb) ?_
 clear hF; intro b20 w hb20 hF hE
 replace hM:=hM.ext hE
 replace hO:=hO.ext hE
 replace hI:=hI.ext hE
 replace hx6:=hx6.ext hE
 clear hE
 have hy_:=Im (b:=b20) hF [0] Ma Ma 0 rfl
 refine Pb (show Calls prog 14 #[.slice (B6) (((Jh 2 3 [(0,1)] 0 fun _=>[]) 0).length) (e6),.slice (some ⟨b20,0,none⟩) 1 1] w (De fun v w'=>v=.bool true∧Same [] w w') from Ng (v':=.bool true) (Sr _ _ _ ((Jh 2 3 [(0,1)] 0 fun _=>[]) 0) [0] _ _ _ _ hx6 hy_) (congrArg Value.bool (decide_eq_true Qb))) (Vb Kx O O O) ?_
 rintro _ w ⟨rfl,hE⟩
 replace hF:=hF.ext hE
 replace hM:=hM.ext hE
 replace hO:=hO.ext hE
 replace hI:=hI.ext hE
 replace hx6:=hx6.ext hE
 clear hE
 clear hy_
 refine Ca (Ic O O) (Ca (Jc O) (Ca (Yd O) ?_))
 obtain ⟨ad7,B7,e7,hA7,hk7,hx7⟩:=hO.gap_elem (i:=1) U
 refine Ja (v:=.pointer (some (ad7.add (1 * 1)))) (Pa (i:=1) Vj O hA7 O Ua Ua) (Ja (v:=.slice (B7) (((Jh 2 3 [(0,1)] 0 fun _=>[]) 1).length) (e7)) (Ya isAgg42 O hk7) (Ca (Df underlying42 O) ?_))
 refine Ja (v:=.bool true) (Ce (Ig O O) Qb) ?_
 refine Ca (Ic O O) (Ca (Jc O) (Ca (Yd O) ?_))
 obtain ⟨ad8,B8,e8,hA8,hk8,hx8⟩:=hO.gap_elem (i:=2) U
 refine Ja (v:=.pointer (some (ad8.add (2 * 1)))) (Pa (i:=2) Vj O hA8 O Ua Ua) (Ja (v:=.slice (B8) (((Jh 2 3 [(0,1)] 0 fun _=>[]) 2).length) (e8)) (Ya isAgg42 O hk8) ?_)
 refine Pe 1 hF (Za (cs:=#[.int .i64 2]) underlying42 sizeOf3 zeroValue3 Ua Ua Qb) ?_
 clear hF; intro b21 w hb21 hF hE
 replace hM:=hM.ext hE
 replace hO:=hO.ext hE
 replace hI:=hI.ext hE
 replace hx8:=hx8.ext hE
 clear hE
 have hy_:=Im (b:=b21) hF [2] Ma Ma 0 rfl
 refine Pb (show Calls prog 14 #[.slice (B8) (((Jh 2 3 [(0,1)] 0 fun _=>[]) 2).length) (e8),.slice (some ⟨b21,0,none⟩) 1 1] w (De fun v w'=>v=.bool true∧Same [] w w') from Ng (v':=.bool true) (Sr _ _ _ ((Jh 2 3 [(0,1)] 0 fun _=>[]) 2) [2] _ _ _ _ hx8 hy_) (congrArg Value.bool (decide_eq_true Qb))) (Vb Kx O O O) ?_
 rintro _ w ⟨rfl,hE⟩
 replace hF:=hF.ext hE
 replace hM:=hM.ext hE
 replace hO:=hO.ext hE
 replace hI:=hI.ext hE
 replace hx8:=hx8.ext hE
 clear hE
 clear hy_
 refine Ca (Ic O O) (Ca (Jc O) (Ca (Jc O) (Ca (Ic O O) (Ca (Jc O) (Ca (Yd O) ?_)))))
 refine Pe 3 hF (Za (cs:=#[.int .i64 0,.int .i64 ((-1)),.int .i64 1]) underlying42 sizeOf3 zeroValue3 Ua Ua Qb) ?_
 clear hF; intro b22 w hb22 hF hE
 replace hM:=hM.ext hE
 replace hO:=hO.ext hE
 replace hI:=hI.ext hE
 replace hx8:=hx8.ext hE
 clear hE
 have hy_:=Im (b:=b22) hF [0,-1,1] Ma Ma 0 rfl
 refine Pb (show Calls prog 14 #[.slice (some ⟨oi,0,none⟩) 3 3,.slice (some ⟨b22,0,none⟩) 3 3] w (De fun v w'=>v=.bool true∧Same [] w w') from Ng (v':=.bool true) (Sr _ _ _ ((List.range 3).map (Gx [(0,0),(2,1)] fun _=>-1)) [0,-1,1] _ _ _ _ hI hy_) (congrArg Value.bool (decide_eq_true Qb))) (Vb Kx O O O) ?_
 rintro _ w ⟨rfl,hE⟩
 replace hF:=hF.ext hE
 replace hM:=hM.ext hE
 replace hO:=hO.ext hE
 replace hI:=hI.ext hE
 replace hx8:=hx8.ext hE
 clear hE
 clear hy_
 refine Ca (Ic O O) (Ca (Hc O) (Ea ?_))
 refine Td (v:=.bool true) O O ?_
 exact ⟨O,hF.same⟩
end Go.Scarf
