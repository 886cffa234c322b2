/- A part of the proof. -/
import Derived.Test.YthhhbkkelnaekaaGreatDoorE4
import Derived.Test.YthhhbkkelnaekaaGreatDoorW19
import Derived.Test.YthhhbkkelnaekaaGreatDoorP3
set_option linter.all false
set_option maxHeartbeats 8000000
set_option maxRecDepth 10000
namespace Go.Scarf
open Go.RowKit Go.Proofs Go.Proofs.Tryz
def YE (x:Tree):Prop:=Oc x≤1000000000→∀ S w0 cs,Rep S w0 (Vc x) cs→Calls prog 47 #[.agg cs.toArray] w0 (De fun v w'=>v=.int .i64 (Oc x:Nat)∧Same [] w0 w')
def E9 (x:Tree):Prop:=Oc x≤1000000000→∀ S w0 cs,Rep S w0 (Vc x) cs→Calls prog 48 #[.agg cs.toArray] w0 (De fun v w'=>v=.int .i64 (Cd x:Nat)∧Same [] w0 w')
def Jy (h:Bool) (x:Tree):Bool:=nodeB x && (h || decide (x.kind≠7))
theorem OR:Jy true=nodeB:=by funext x; simp [Jy]
theorem KO:Jy false=rnodeB:=by funext x; simp [Jy,rnodeB,Bool.and_comm]
def ZF (x:Tree):Prop:=Oc x≤1000000000→Lf x≤1073741824→∀ (h:Bool) S w0 cs,Rep S w0 (Vc x) cs→Calls prog 49 #[.agg cs.toArray,.bool h] w0 (De fun v w'=>v=.bool (Fe (Jy h) x)∧Same [] w0 w')
theorem Xs:∀ (xs:List Tree) (j:Nat),Fd (xs.take j)≤Fd xs
  | [],j=>by simp
  | x::xs,0=>by simp [Fd]
  | x :: xs, j + 1 => by
    have:=Xs xs j
    rw [List.take_succ_cons,Fd,Fd]; omega
theorem DF (k:Int) (t:Str) (ks:List Str) (xs:List Tree) (ih:∀ x,x∈xs→YE x):YE (.node k t ks xs):=by
 intro hsz S w0 cs hR
 obtain ⟨A,c,B,e,rfl,-,-,-,hX⟩:=hR.tree_inv
 have hXl:=hX.slice_len
 have hdl:=Aw xs
 rw [Oc] at hsz
 refine Ka func47 O ntmps47 Kb (Sc _) ?_
 have hF:=FR.start w0 []
 refine Ia ?_
 refine Bh hF O ?_
 clear hF; rintro b1 w hb1 hF -
 refine Ca (Wb O) (Bc (Ca (Wb O) (Ea (Ha (Ia (Ca (Wb O) (Ea ?_)))))))
 refine Ta ?_
 refine Lc (fun μ σ w=>∃ (j:Nat),μ=xs.length - j∧(j≤xs.length)∧AllEq σ [(1,.pointer (some ⟨b1,0,none⟩)),(3,.int .i64 (((1+Fd (xs.take j):Nat):Int))),(4,.int .i64 ((j:Int)))]∧FR w0 [] [(b1,.cells #[.int .i64 k,.string (bs t),.slice A ks.length c,.slice B xs.length e] 27)] w) _ ⟨0,O,(Nat.zero_le _),Vp,hF⟩ ?_
 clear hF; rintro μ σ w ⟨j,rfl,hj,hs,hF⟩
 refine Cg.slots hs ?_
 clear hs; intro σ
 refine Ha (Ia (Ca (Va O) (Ca (Ec Pc O) (Tc (Mf isAgg22 O hF.F 0 O O) (Ca (Df underlying22 O) (Ca (Yg O O) (Ea ?_)))))))
 refine Yb O O (fun hc0=>?_) (fun hc0=>?_)
 refine Qa (Ga (Ha (Ta (Fa (Ca (Va O) (Ca (Ec Pc O) (Tc (Mf isAgg22 O hF.F 0 O O) (Ca (Va O) ?_))))))))
 obtain ⟨ad0,cs0,hA0,hl0,hk0,hx0⟩:=hX.tree_elem (i:=j) U
 have ho0:=hx0.one_
 refine Ja (v:=.pointer (some (ad0.add (j * 4)))) (Pa (i:=(j:Int)) Mg O hA0 O U U) (Ja (v:=.agg (List.toArray cs0)) (Fc (l:=cs0) isAgg27 sizeOf27 O hl0 (hF.cells0 hk0)) ?_)
 refine Jb hF (ih _ (List.getElem_mem _) (by have:=Rf (List.getElem_mem (l:=xs) (n:=j) U); omega) _ _ _ (hF.rep hx0)) (Cb CO O O) ?_
 clear hF; intro w hF
 refine Ja (v:=.int .i64 (((1+Fd (xs.take (j+1)):Nat):Int))) (Il O O (by have h1:=Vz xs j U; have h2:=Rf (List.getElem_mem (l:=xs) (n:=j) U); have h3:=Xs xs (j+1); exact Id (by rw [h1]; omega) U U)) ?_
 refine Ca (Wb O) (Xa (Eb (Ga (Fa (Ca (Va O) (Ca (If (((j+1:Nat):Int)) O O) (Ca (Wb O) (Xa ?_))))))))
 refine Ib ⟨_,?_,j+1,O,U,Vp,hF⟩
 omega
 refine Dc (Cc O ?_)
 refine Ga (Ia ?_)
 have eT:xs.take j=xs:=List.take_of_length_le U
 refine Ca (Va O) (Ca (Wb O) (Ea ?_))
 refine Ub (Rb (Sa (An (v:=.int .i64 (((1+Fd (xs.take j):Nat):Int))) O O) ?_))
 exact ⟨by rw [eT,Oc],hF.same⟩
theorem S_ (x:Tree):YE x:=Tree.ind DF x
theorem RC (k:Int) (t:Str) (ks:List Str) (xs:List Tree) (ih:∀ x,x∈xs→E9 x):E9 (.node k t ks xs):=by
 intro hsz S w0 cs hR
 obtain ⟨A,c,B,e,rfl,-,-,-,hX⟩:=hR.tree_inv
 have hXl:=hX.slice_len
 have hdl:=Aw xs
 rw [Oc] at hsz
 refine Ka func48 O ntmps48 Kb (Sc _) ?_
 have hF:=FR.start w0 []
 refine Ia ?_
 refine Bh hF O ?_
 clear hF; rintro b1 w hb1 hF -
 refine Ca (Wb O) (Bc (Ca (Wb O) (Ea (Ha (Ia (Ca (Wb O) (Ea ?_)))))))
 refine Ta ?_
 refine Lc (fun μ σ w=>∃ (j:Nat),μ=xs.length - j∧(j≤xs.length)∧AllEq σ [(1,.pointer (some ⟨b1,0,none⟩)),(3,.int .i64 ((Md (xs.take j):Nat))),(4,.int .i64 ((j:Int)))]∧FR w0 [] [(b1,.cells #[.int .i64 k,.string (bs t),.slice A ks.length c,.slice B xs.length e] 27)] w) _ ⟨0,O,(Nat.zero_le _),Vp,hF⟩ ?_
 clear hF; rintro μ σ w ⟨j,rfl,hj,hs,hF⟩
 refine Cg.slots hs ?_
 clear hs; intro σ
 refine Ha (Ia (Ca (Va O) (Ca (Ec Pc O) (Tc (Mf isAgg22 O hF.F 0 O O) (Ca (Df underlying22 O) (Ca (Yg O O) (Ea ?_)))))))
 refine Yb O O (fun hc0=>?_) (fun hc0=>?_)
 refine Qa (Ga (Ha (Ta (Fa (Ca (Va O) (Ca (Ec Pc O) (Tc (Mf isAgg22 O hF.F 0 O O) (Ca (Va O) ?_))))))))
 obtain ⟨ad0,cs0,hA0,hl0,hk0,hx0⟩:=hX.tree_elem (i:=j) U
 have ho0:=hx0.one_
 refine Ja (v:=.pointer (some (ad0.add (j * 4)))) (Pa (i:=(j:Int)) Mg O hA0 O U U) (Ja (v:=.agg (List.toArray cs0)) (Fc (l:=cs0) isAgg27 sizeOf27 O hl0 (hF.cells0 hk0)) ?_)
 refine Jb hF (ih _ (List.getElem_mem _) (by have:=Rf (List.getElem_mem (l:=xs) (n:=j) U); omega) _ _ _ (hF.rep hx0)) (Cb FL O O) ?_
 clear hF; intro w hF
 refine Ja (v:=.int .i64 ((Md (xs.take (j+1)):Nat))) (by rw [←show max ((Md (xs.take j):Nat):Int) ((Cd xs[j]:Nat):Int)=((Md (xs.take (j+1)):Nat):Int) from by rw [Sw xs j U]; omega]; exact VN O O) ?_
 refine Ca (Wb O) (Xa (Eb (Ga (Fa (Ca (Va O) (Ca (If (((j+1:Nat):Int)) O O) (Ca (Wb O) (Xa ?_))))))))
 refine Ib ⟨_,?_,j+1,O,U,Vp,hF⟩
 omega
 refine Dc (Cc O ?_)
 refine Ga (Ia (Ca (Va O) ?_))
 have eT:xs.take j=xs:=List.take_of_length_le U
 refine Ja (v:=.int .i64 ((Cd (.node k t ks xs):Nat))) (Il O O (by rw [eT,Cd]; exact Id U U U)) ?_
 refine Ca (Wb O) (Ea ?_)
 refine Td (v:=.int .i64 ((Cd (.node k t ks xs):Nat))) O O ?_
 exact ⟨O,hF.same⟩
theorem H6 (x:Tree):E9 x:=Tree.ind RC x
theorem Ef {b:Bool} (h:(!b)=false):b=true:=by simpa using h
theorem Vi {b:Bool} (h:(!b)=true):b=false:=by simpa using h
theorem Y1 {t:Str} {ks:List Str} {xs:List Tree}:nodeB (.node 6 t ks xs)=(Tm ks xs.length && decide (t=[])):=by simp only [nodeB]; rfl
theorem VR {t:Str} {ks:List Str} {xs:List Tree} {i:Nat} (h:i < ks.length) (hv:Lib.validD ks[i]=false):nodeB (.node 6 t ks xs)=false:=by
  rw [Y1,Tm,DI h hv]; simp
theorem SS {t:Str} {ks:List Str} {xs:List Tree} {i m:Nat} (h:i < ks.length) (hm:m < i) (he:ks[m]=ks[i]):nodeB (.node 6 t ks xs)=false:=by
  have:¬ks.Nodup:=Xr h (by rw [←he]; exact List.mem_take_iff_getElem.2 ⟨m,by omega,rfl⟩)
  rw [Y1,Tm,decide_eq_false this]; simp
theorem CH {t:Str} {ks:List Str} {xs:List Tree} (hn:ks.Nodup) (hv:ks.all Lib.validD=true):nodeB (.node 6 t ks xs)=(decide (t=[]) && decide (((ks.length:Nat):Int)=((xs.length:Nat):Int))):=by
  rw [Y1,Tm,decide_eq_true hn,hv,Bool.true_and,Bool.true_and,Bool.and_comm]
theorem RP {k:Int} {t:Str} {ks:List Str} {xs:List Tree} (h1:¬k=1) (h2:¬k=2) (h3:¬k=3) (h4:¬k=4) (h5:¬k=5) (h6:¬k=6) (h7:¬k=7):nodeB (.node k t ks xs)=false:=by
  simp [nodeB,h1,h2,h3,h4,h5,h6,h7]
theorem Qy {k:Int} {t:Str} {ks:List Str} {xs:List Tree} (h:k≠6) (hk:(0:Int) < ((ks.length:Nat):Int)):nodeB (.node k t ks xs)=false:=by
  have h1:ks≠[]:=by rintro rfl; simp at hk
  by_cases h5:k=5 <;> simp [nodeB,h,h5,h1]
theorem Fw {k:Int} {t:Str} {ks:List Str} {xs:List Tree} (h:k≠6) (h5:k≠5) (hk:(0:Int) < ((xs.length:Nat):Int)):nodeB (.node k t ks xs)=false:=by
  have h1:xs≠[]:=by rintro rfl; simp at hk
  simp [nodeB,h,h5,h1]
theorem nd1 {k:Int} {t:Str} {ks:List Str} {xs:List Tree} (h:k=1) (hk:ks=[]) (hx:xs=[]):nodeB (.node k t ks xs)=decide (t=[]):=by subst h hk hx; simp [nodeB]
theorem nd5 {k:Int} {t:Str} {ks:List Str} {xs:List Tree} (h:k=5) (hk:ks=[]):nodeB (.node k t ks xs)=decide (t=[]):=by subst h hk; simp [nodeB]
theorem nd2 {k:Int} {t:Str} {ks:List Str} {xs:List Tree} (h:k=2) (hk:ks=[]) (hx:xs=[]):nodeB (.node k t ks xs)=(decide (t=[116,114,117,101]) || decide (t=[102,97,108,115,101])):=by subst h hk hx; simp [nodeB]
theorem nd3 {k:Int} {t:Str} {ks:List Str} {xs:List Tree} (h:k=3) (hk:ks=[]) (hx:xs=[]):nodeB (.node k t ks xs)=Aj t:=by subst h hk hx; simp [nodeB]
theorem nd4 {k:Int} {t:Str} {ks:List Str} {xs:List Tree} (h:k=4) (hk:ks=[]) (hx:xs=[]):nodeB (.node k t ks xs)=Lib.validD t:=by subst h hk hx; simp [nodeB]
theorem nd7 {k:Int} {t:Str} {ks:List Str} {xs:List Tree} (h:k=7) (hk:ks=[]) (hx:xs=[]):nodeB (.node k t ks xs)=Rs t:=by subst h hk hx; simp [nodeB]
theorem UD {t:Str} (h1:Aj t=true) (h2:(Xw (Se t).1).2=true):Rs t=decide (0≤(Xw (Se t).1).1):=by rw [Rs,h1,h2]; rfl
theorem O9 {t:Str} (h1:Aj t=false):Rs t=false:=by rw [Rs,h1]; rfl
theorem K8 {t:Str} (h2:(Xw (Se t).1).2=false):Rs t=false:=by rw [Rs,h2,Bool.and_false]; rfl
theorem Dy {ks:List Str} (h:¬(0:Int) < ((ks.length:Nat):Int)):ks=[]:=List.eq_nil_of_length_eq_zero U
theorem My {xs:List Tree} (h:¬(0:Int) < ((xs.length:Nat):Int)):xs=[]:=List.eq_nil_of_length_eq_zero U
theorem JQ (k:Int) (t:Str) (ks:List Str) (xs:List Tree) (S:Nat→Prop) (w0:World) (cs:List Value) (hR:Rep S w0 (Vc (.node k t ks xs)) cs) (hm:Lf (.node k t ks xs)≤1073741824):Calls prog 77 #[.agg cs.toArray] w0 (De fun v w'=>v=.bool (nodeB (.node k t ks xs))∧Same [] w0 w'):=by
 obtain ⟨A,c,B,e,rfl,-,-,hK,hX⟩:=hR.tree_inv
 have hKl:=hK.slice_len
 have hXl:=hX.slice_len
 rw [Lf] at hm
 have hkm:∀ q (h:q < ks.length),ks[q].length≤1073741824:=fun q h=>Nat.le_trans (Uh (List.getElem_mem h)) U
 refine Ka func77 O ntmps77 Kb (Sc _) ?_
 have hF:=FR.start w0 []
 refine Ia ?_
 refine Bh hF O ?_
 clear hF; rintro b1 w hb1 hF -
 refine Ca (Hc O) (Ea (Ha ?_))
 refine Qf (fun σ w=>(k≠6→ks=[])∧(k≠6→k≠5→xs=[])∧AllEq σ [(1,.pointer (some ⟨b1,0,none⟩))]∧FR w0 [] [(b1,.cells #[.int .i64 k,.string (bs t),.slice A ks.length c,.slice B xs.length e] 27)] w) ?_ ?_
 ·
  refine Ia (Ca (Ec Ke O) (Tc (Hl isAgg3 O hF.F 0 O O) (Ca (Sq O O) (Ca (Jc O) ?_))))
  refine Hb (d:=15) O (fun hg0=>?_) (fun hg0=>?_)
  ·
   refine Ca (Ec Af O) (Tc (Mf isAgg25 O hF.F 0 O O) (Ca (Df underlying25 O) (Ca (Ho O O) (Ca (Ic O O) (Ca (Jc O) ?_)))))
   refine Hb (d:=21) O (fun hg1=>?_) (fun hg1=>?_)
   ·
    refine Da (Da (Da (Da (Da (Da (Da (Da (Da (Da (Da (Da (Da (Da ?_)))))))))))))
    refine Ca (Ic O O) (Ea (Ae O (Ia (Ca (Hc O) (Ea ?_)))))
    refine Td (v:=.bool false) O O ?_
    refine ⟨congrArg Value.bool ?_,hF.same⟩
    first | exact (Qy U (by assumption)).symm | exact (Fw U U (by assumption)).symm
   ·
    refine Ca (Ec Ke O) (Tc (Hl isAgg3 O hF.F 0 O O) (Ca (Sq O O) (Ca (Jc O) ?_)))
    refine Hb (d:=25) O (fun hg2=>?_) (fun hg2=>?_)
    ·
     refine Ca (Ec Ke O) (Tc (Hl isAgg3 O hF.F 0 O O) (Ca (Sq O O) (Ca (Ic O O) (Ca (Jc O) ?_))))
     refine Hb (d:=30) O (fun hg3=>?_) (fun hg3=>?_)
     ·
      refine Ca (Ec Pc O) (Tc (Mf isAgg22 O hF.F 0 O O) (Ca (Df underlying22 O) (Ca (Ho O O) (Ca (Ic O O) (Ca (Gc O O) (Ea ?_))))))
      refine Yb O O (fun hc0=>?_) (fun hc0=>?_)
      ·
       refine Ia (Ca (Hc O) (Ea ?_))
       refine Td (v:=.bool false) O O ?_
       refine ⟨congrArg Value.bool ?_,hF.same⟩
       first | exact (Qy U (by assumption)).symm | exact (Fw U U (by assumption)).symm
      ·
       refine Qa ?_
       exact Ib ⟨(by intro h; first | exact Dy U | (exfalso; omega)),(by intro h h5; first | exact My U | (exfalso; omega)),XT,hF⟩
     ·
      refine Da (Da (Da (Da (Ca (Gc O O) (Ca (Gc O O) (Ea (Ie O (Qa ?_))))))))
      exact Ib ⟨(by intro h; first | exact Dy U | (exfalso; omega)),(by intro h h5; first | exact My U | (exfalso; omega)),XT,hF⟩
    ·
     refine Da (Da (Da (Ca (Gc O O) (Ca (Jc O) (Da (Da (Da (Da (Ca (Gc O O) (Ca (Gc O O) (Ea (Ie O ?_))))))))))))
     refine Qa ?_
     exact Ib ⟨(by intro h; first | exact Dy U | (exfalso; omega)),(by intro h h5; first | exact My U | (exfalso; omega)),XT,hF⟩
  ·
   refine Da (Da (Da (Da (Ca (Gc O O) (Ca (Jc O) (Ca (Ec Ke O) (Tc (Hl isAgg3 O hF.F 0 O O) (Ca (Sq O O) (Ca (Jc O) ?_)))))))))
   refine Hb (d:=25) O (fun hg4=>?_) (fun hg4=>?_)
   ·
    refine Ca (Ec Ke O) (Tc (Hl isAgg3 O hF.F 0 O O) (Ca (Sq O O) (Ca (Ic O O) (Ca (Jc O) ?_))))
    refine Hb (d:=30) O (fun hg5=>?_) (fun hg5=>?_)
    ·
     refine Ca (Ec Pc O) (Tc (Mf isAgg22 O hF.F 0 O O) (Ca (Df underlying22 O) (Ca (Ho O O) (Ca (Ic O O) (Ca (Gc O O) (Ea ?_))))))
     refine Yb O O (fun hc0=>?_) (fun hc0=>?_)
     ·
      refine Ia (Ca (Hc O) (Ea ?_))
      refine Td (v:=.bool false) O O ?_
      refine ⟨congrArg Value.bool ?_,hF.same⟩
      first | exact (Qy U (by assumption)).symm | exact (Fw U U (by assumption)).symm
     ·
      refine Qa ?_
      exact Ib ⟨(by intro h; first | exact Dy U | (exfalso; omega)),(by intro h h5; first | exact My U | (exfalso; omega)),XT,hF⟩
    ·
     refine Da (Da (Da (Da (Ca (Gc O O) (Ca (Gc O O) (Ea (Ie O (Qa ?_))))))))
     exact Ib ⟨(by intro h; first | exact Dy U | (exfalso; omega)),(by intro h h5; first | exact My U | (exfalso; omega)),XT,hF⟩
   ·
    refine Da (Da (Da (Ca (Gc O O) (Ca (Jc O) (Da (Da (Da (Da (Ca (Gc O O) (Ca (Gc O O) (Ea (Ie O ?_))))))))))))
    refine Qa ?_
    exact Ib ⟨(by intro h; first | exact Dy U | (exfalso; omega)),(by intro h h5; first | exact My U | (exfalso; omega)),XT,hF⟩
 clear hF; rintro σ w ⟨hk0,hx0,hs,hF⟩
 refine Eg.slots hs ?_
 clear hs; intro σ
 refine Ga (Ha (Ia (Ca (Ec Ke O) (Tc (Hl isAgg3 O hF.F 0 O O) (Ea (Ta (Ha (Ia (Ca (Th O O) (Ca (Hc O) ?_))))))))))
 refine Ea ?_
 refine Yb O O (fun hc1=>?_) (fun hc1=>?_)
 ·
  refine Qa (Ga (Ae O (Ia (Ca (Ec Of O) (Tc (Tp isAgg9 O hF.F 0 O O) (Ca (Ay O O) (Ca (Hc O) (Ea ?_))))))))
  refine Td (v:=.bool _) O O ?_
  refine ⟨congrArg Value.bool ?_,hF.same⟩
  first | (exfalso; omega) | exact (nd5 U (hk0 U)).symm | exact (nd1 U (hk0 U) (hx0 U U)).symm
 ·
  refine Fa (Ca (Th O O) (Ca (Hc O) (Ea ?_)))
  refine Yb O O (fun hc2=>?_) (fun hc2=>?_)
  ·
   refine Ia (Ca (Ec Of O) (Tc (Tp isAgg9 O hF.F 0 O O) (Ca (Ay O O) (Ca (Hc O) (Ea ?_)))))
   refine Td (v:=.bool _) O O ?_
   refine ⟨congrArg Value.bool ?_,hF.same⟩
   first | (exfalso; omega) | exact (nd5 U (hk0 U)).symm | exact (nd1 U (hk0 U) (hx0 U U)).symm
  ·
   refine Ia (Ca (Th O O) (Ca (Hc O) (Ea ?_)))
   refine Yb O O (fun hc3=>?_) (fun hc3=>?_)
   ·
    refine Ia (Ca (Ec Of O) (Tc (Tp isAgg9 O hF.F 0 O O) (Ca (Ay O O) (Ca (Jc O) ?_))))
    refine Hb (d:=50) O (fun hg6=>?_) (fun hg6=>?_)
    ·
     refine Da (Da (Da (Ca (Ic O O) (Ca (Hc O) (Ea ?_)))))
     refine Td (v:=.bool true) O O ?_
     refine ⟨congrArg Value.bool ?_,hF.same⟩
     first | (exfalso; omega) | rw [nd2 U (hk0 U) (hx0 U U)]
     all_goals first | (rw [decide_eq_true (show t=[116,114,117,101] by assumption)]; rfl) | (rw [decide_eq_false (show ¬t=[116,114,117,101] by assumption)]; rfl)
    ·
     refine Ca (Ec Of O) (Tc (Tp isAgg9 O hF.F 0 O O) (Ca (Ay O O) (Ca (Gc O O) (Ca (Hc O) (Ea ?_)))))
     refine Td (v:=.bool _) O O ?_
     refine ⟨congrArg Value.bool ?_,hF.same⟩
     first | (exfalso; omega) | rw [nd2 U (hk0 U) (hx0 U U)]
     all_goals first | (rw [decide_eq_true (show t=[116,114,117,101] by assumption)]; rfl) | (rw [decide_eq_false (show ¬t=[116,114,117,101] by assumption)]; rfl)
   ·
    refine Ia (Ca (Th O O) (Ca (Hc O) (Ea ?_)))
    refine Yb O O (fun hc4=>?_) (fun hc4=>?_)
    ·
     refine Ia (Ca (Ec Of O) (Tc (Tp isAgg9 O hF.F 0 O O) ?_))
     refine Jb hF (I3 t U _) (Cb VM O O) ?_
     clear hF; intro w hF
     refine Ca (Ul O) (Ca (RQ O O) (Ca (Ss O O) ?_))
     refine Ym hF zeroValue61 sizeOf61 O ?_
     clear hF; rintro b2 w hb2 hF -
     refine Ca (Hc O) (Bc (Ca (Jc O) (Ca (Hc O) (Ea ?_))))
     refine Td (v:=.bool _) O O ?_
     refine ⟨congrArg Value.bool ?_,hF.same⟩
     first | (exfalso; omega) | exact (nd3 U (hk0 U) (hx0 U U)).symm
    ·
     refine Ia (Ca (Th O O) (Ca (Hc O) (Ea ?_)))
     refine Yb O O (fun hc5=>?_) (fun hc5=>?_)
     ·
      refine Ia (Ca (Ec Of O) (Tc (Tp isAgg9 O hF.F 0 O O) ?_))
      refine Jb hF (RU t U _) (Cb KN O O) ?_
      clear hF; intro w hF
      refine Ca (Hc O) (Ea ?_)
      refine Td (v:=.bool _) O O ?_
      refine ⟨congrArg Value.bool ?_,hF.same⟩
      first | (exfalso; omega) | exact (nd4 U (hk0 U) (hx0 U U)).symm
     ·
      refine Ia (Ca (Th O O) (Ca (Hc O) (Ea ?_)))
      refine Yb O O (fun hc6=>?_) (fun hc6=>?_)
      ·
       refine Ia (Ca (Ec Of O) (Tc (Tp isAgg9 O hF.F 0 O O) ?_))
       refine Jb hF (I3 t U _) (Cb VM O O) ?_
       clear hF; intro w hF
       refine Ca (Ul O) (Ca (RQ O O) (Ca (Ss O O) ?_))
       refine Ym hF zeroValue61 sizeOf61 O ?_
       clear hF; rintro b3 w hb3 hF -
       refine Ca (Hc O) (Bc (Tc (Wj isAgg61 sizeOf61 O hF.F 0 O O) ?_))
       refine Jb hF (ZV (Se t).1 (by have:=Hp t; omega) _) (Cb GV O O) ?_
       clear hF; intro w hF
       refine Ca (Ul O) (Ca (Fm O O) (Ca (Ss O O) (Ca (Wb O) (Ca (Hc O) (Bc (Ca (Jc O) (Ca (Jc O) ?_)))))))
       refine Jf (d:=83) O (fun hg7=>?_) (fun hg7=>?_)
       ·
        refine Ca (Jc O) (Ca (Ic O O) (Ca (Jc O) ?_))
        refine Jf (d:=86) O (fun hg8=>?_) (fun hg8=>?_)
        ·
         refine Ca (Va O) (Ca (Rv O O) (Ca (Ic O O) (Ca (Hc O) (Ea ?_))))
         refine Td (v:=.bool _) O O ?_
         refine ⟨congrArg Value.bool ?_,hF.same⟩
         first | (exfalso; omega) | rw [nd7 U (hk0 U) (hx0 U U)]
         all_goals first | exact (O9 (by assumption)).symm | exact (K8 (by assumption)).symm | exact (UD (by assumption) (by assumption)).symm
        ·
         refine Da (Da (Ca (Gc O O) (Ca (Hc O) (Ea ?_))))
         refine Td (v:=.bool false) O O ?_
         refine ⟨congrArg Value.bool ?_,hF.same⟩
         first | (exfalso; omega) | rw [nd7 U (hk0 U) (hx0 U U)]
         all_goals first | exact (O9 (by assumption)).symm | exact (K8 (by assumption)).symm | exact (UD (by assumption) (by assumption)).symm
       ·
        refine Da (Ca (Gc O O) (Ca (Jc O) (Da (Da (Ca (Gc O O) (Ca (Hc O) (Ea ?_)))))))
        refine Td (v:=.bool false) O O ?_
        refine ⟨congrArg Value.bool ?_,hF.same⟩
        first | (exfalso; omega) | rw [nd7 U (hk0 U) (hx0 U U)]
        all_goals first | exact (O9 (by assumption)).symm | exact (K8 (by assumption)).symm | exact (UD (by assumption) (by assumption)).symm
      ·
       refine Ia (Ca (Th O O) (Ca (Hc O) (Ea ?_)))
       refine Yb O O (fun hc7=>?_) (fun hc7=>?_)
       ·
        refine Ha (Ia (Ca (Wb O) (Ea (Ta ?_))))
        refine Lc (fun μ σ w=>∃ (i:Nat),μ=ks.length - i∧(i≤ks.length)∧((ks.take i).all Lib.validD=true)∧((ks.take i).Nodup)∧AllEq σ [(1,.pointer (some ⟨b1,0,none⟩)),(9,.int .i64 ((i:Int)))]∧FR w0 [] [(b1,.cells #[.int .i64 k,.string (bs t),.slice A ks.length c,.slice B xs.length e] 27)] w) _ ⟨0,O,(Nat.zero_le _),Ma,Ma,Iw,hF⟩ ?_
        clear hF; rintro μ σ w ⟨i,rfl,hi,hva,hnd,hs,hF⟩
        refine Cg.slots hs ?_
        clear hs; intro σ
        refine Ha (Ia (Ca (Va O) (Ca (Ec Af O) (Tc (Mf isAgg25 O hF.F 0 O O) (Ca (Df underlying25 O) (Ca (Yg O O) (Ea ?_)))))))
        refine Yb O O (fun hc8=>?_) (fun hc8=>?_)
        ·
         refine Qa (Ga (Ha (Ta (Ia (Ca (Ec Af O) (Tc (Mf isAgg25 O hF.F 0 O O) (Ca (Va O) ?_)))))))
         obtain ⟨ad9,hA9,hk9,hx9⟩:=hK.str_elem (i:=i) U
         refine Ja (v:=.pointer (some (ad9.add (i * 1)))) (Pa (i:=(i:Int)) Gk O hA9 O U U) (Ja (v:=.string (bs (ks[i]))) (Ya isAgg9 O (hF.cell0 hk9)) ?_)
         refine Jb hF (RU ks[i] (by have:=hkm i U; omega) _) (Cb KN O O) ?_
         clear hF; intro w hF
         refine Ca (Hc O) (Ea (Ha (Ia (Ca (Jc O) (Ca (Pn O) (Ea ?_))))))
         refine Mi O O (fun hc9=>?_) (fun hc9=>?_)
         ·
          refine Ia (Ca (Hc O) (Ea ?_))
          refine Td (v:=.bool false) O O ?_
          refine ⟨congrArg Value.bool ?_,hF.same⟩
          have h6:k=6:=U
          subst h6
          exact (VR (i:=i) U (Vi (by assumption))).symm
         ·
          refine Qa (Ga (Ia (Ca (Wb O) (Ea (Ta ?_)))))
          have hik:i < ks.length:=by omega
          refine Lc (fun μ σ w=>∃ (m:Nat),μ=i - m∧(m≤i)∧(∀ q (hq:q < ks.length),q < m→ks[q]≠ks[i]'hik)∧AllEq σ [(1,.pointer (some ⟨b1,0,none⟩)),(9,.int .i64 ((i:Int))),(11,.int .i64 ((m:Int)))]∧FR w0 [] [(b1,.cells #[.int .i64 k,.string (bs t),.slice A ks.length c,.slice B xs.length e] 27)] w) _ ⟨0,O,(Nat.zero_le _),(fun q _ h=>absurd h U),Vp,hF⟩ ?_
          clear hF; rintro μ σ w ⟨m,rfl,hmi,hno,hs,hF⟩
          refine Cg.slots hs ?_
          clear hs; intro σ
          refine Ha (Ia (Ca (Va O) (Ca (Va O) (Ca (Yg O O) (Ea ?_)))))
          refine Yb O O (fun hc10=>?_) (fun hc10=>?_)
          ·
           refine Qa (Ga (Ha (Ta (Ha ?_))))
           refine Ff (zs:=[]) (.free 0 (.free 1 (.free 2 (.free 3 (.free 4 (.free 5 (.free 6 (.free 7 (.free 8 (.free 9 (.free 10 .nil))))))))))) hF ?_
           clear hF; intro w hF
           refine Db O (Ec Af O) (Uk O (Mf isAgg25 O C0 0 O O) (Db O (Va O) ?_))
           obtain ⟨ad10,hA10,hk10,hx10⟩:=hK.str_elem (i:=m) U
           refine Oa O (v:=.pointer (some (ad10.add (m * 1)))) (fun w hC=>Pa (i:=(m:Int)) Gk O hA10 O U U) (Oa O (v:=.string (bs (ks[m]))) (fun w hC=>Ya isAgg9 O (hC.cell0 hk10)) (Db O (Ec Af O) (Uk O (Mf isAgg25 O C0 0 O O) (Db O (Va O) ?_))))
           obtain ⟨ad11,hA11,hk11,hx11⟩:=hK.str_elem (i:=i) U
           refine Oa O (v:=.pointer (some (ad11.add (i * 1)))) (fun w hC=>Pa (i:=(i:Int)) Gk O hA11 O U U) (Oa O (v:=.string (bs (ks[i]))) (fun w hC=>Ya isAgg9 O (hC.cell0 hk11)) (Db O (Ay O O) (Mc (Ga ?_))))
           refine Yb O O (fun hc11=>?_) (fun hc11=>?_)
           ·
            refine Ia (Ca (Hc O) (Ea ?_))
            refine Td (v:=.bool false) O O ?_
            refine ⟨congrArg Value.bool ?_,hF.same⟩
            have h6:k=6:=U
            subst h6
            exact (SS (i:=i) (m:=m) U U (by assumption)).symm
           ·
            refine Qa (Eb (Ga (Fa (Ca (Va O) (Ca (If (((m+1:Nat):Int)) O O) (Ca (Wb O) (Xa ?_)))))))
            refine Ib ⟨_,?_,m+1,rfl,U,(fun q hq h=>by rcases Nat.lt_or_ge q m with h1 | h1; exact hno q hq h1; obtain rfl:q=m:=U; assumption),Vp,hF⟩
            omega
          ·
           refine Dc (Cc O ?_)
           refine Eb (Ga (Fa (Ca (Va O) (Ca (If (((i+1:Nat):Int)) O O) (Ca (Wb O) (Xa ?_))))))
           refine Ib ⟨_,?_,i+1,rfl,U,(Zu U hva (Ef (by assumption))),(Qs U hnd (fun hm=>by obtain ⟨q,hq,hq2⟩:=List.mem_take_iff_getElem.1 hm; exact hno q U U hq2)),Iw,hF⟩
           omega
        ·
         refine Dc (Cc O ?_)
         refine Ga (Ia (Ca (Ec Of O) (Tc (Tp isAgg9 O hF.F 0 O O) (Ca (Ay O O) (Ca (Jc O) ?_)))))
         refine Hb (d:=126) O (fun hg12=>?_) (fun hg12=>?_)
         ·
          refine Ca (Ec Af O) (Tc (Mf isAgg25 O hF.F 0 O O) (Ca (Df underlying25 O) (Ca (Ec Pc O) (Tc (Mf isAgg22 O hF.F 0 O O) (Ca (Df underlying22 O) (Ca (Th O O) (Ca (Ic O O) (Ca (Hc O) (Ea ?_)))))))))
          refine Td (v:=.bool _) O O ?_
          refine ⟨congrArg Value.bool ?_,hF.same⟩
          have h6:k=6:=U
          subst h6
          have hz:=CH (t:=t) (ks:=ks) (xs:=xs) (by rw [←List.take_of_length_le (show ks.length≤i by omega)]; exact hnd) (by rw [←List.take_of_length_le (show ks.length≤i by omega)]; exact hva)
          rw [hz]
          first | (rw [decide_eq_true (show t=[] by assumption),Bool.true_and]) | (rw [decide_eq_false (show ¬t=[] by assumption),Bool.false_and])
         ·
          refine Da (Da (Da (Da (Da (Da (Da (Ca (Gc O O) (Ca (Hc O) (Ea ?_)))))))))
          refine Td (v:=.bool false) O O ?_
          refine ⟨congrArg Value.bool ?_,hF.same⟩
          have h6:k=6:=U
          subst h6
          have hz:=CH (t:=t) (ks:=ks) (xs:=xs) (by rw [←List.take_of_length_le (show ks.length≤i by omega)]; exact hnd) (by rw [←List.take_of_length_le (show ks.length≤i by omega)]; exact hva)
          rw [hz]
          first | (rw [decide_eq_true (show t=[] by assumption),Bool.true_and]) | (rw [decide_eq_false (show ¬t=[] by assumption),Bool.false_and])
       ·
        refine Qa (Eb (Ga (Ia (Ca (Hc O) (Ea ?_)))))
        refine Td (v:=.bool false) O O ?_
        refine ⟨congrArg Value.bool ?_,hF.same⟩
        exact (RP U U U U U U U).symm
theorem XB {α:Type} {f:α→Bool} {l:List α} {j:Nat} (h:j < l.length) (ha:(l.take j).all f=true) (hf:f l[j]=true):(l.take (j+1)).all f=true:=by
  rw [List.take_succ_eq_append_getElem h,List.all_append,ha,List.all_cons,hf]; rfl
theorem Zo {α:Type} {f:α→Bool} {l:List α} {j:Nat} (h:j < l.length) (hf:f l[j]=false):l.all f=false:=by
  rw [Bool.eq_false_iff]; intro ha
  have:=List.all_eq_true.1 ha l[j] (List.getElem_mem h)
  rw [hf] at this; cases this
theorem Cy {h:Bool} {x:Tree} (h1:(!nodeB x)=true):Jy h x=false:=by rw [Jy,Vi h1]; rfl
theorem Iy {h:Bool} {k:Int} {t:Str} {ks:List Str} {xs:List Tree} (h1:k=7) (h2:h=false):Jy h (.node k t ks xs)=false:=by rw [Jy,h2]; simp [Tree.kind,h1]
theorem Cu {h:Bool} {k:Int} {t:Str} {ks:List Str} {xs:List Tree} (h0:nodeB (.node k t ks xs)=true) (h1:¬k=7):Jy h (.node k t ks xs)=true:=by rw [Jy,h0]; simp [Tree.kind,h1]
theorem Au {h:Bool} {x:Tree} (h0:nodeB x=true) (h1:h=true):Jy h x=true:=by rw [Jy,h0,h1]; rfl
theorem Su (q:Tree→Bool) (k:Int) (t:Str) (ks:List Str) (xs:List Tree):Fe q (.node k t ks xs)=(q (.node k t ks xs) && xs.all (Fe q)):=by rw [Fe,Yq]
theorem EB (k:Int) (t:Str) (ks:List Str) (xs:List Tree) (ih:∀ x,x∈xs→ZF x):ZF (.node k t ks xs):=by
 intro hsz hm h S w0 cs hR
 obtain ⟨A,c,B,e,rfl,-,-,hK,hX⟩:=hR.tree_inv
 have hR0:=hR
 have hXl:=hX.slice_len
 rw [Oc] at hsz
 refine Ka func49 O ntmps49 Kb (Ee _ _) ?_
 have hF:=FR.start w0 []
 refine Ia ?_
 refine Bh hF O ?_
 clear hF; rintro b1 w hb1 hF -
 refine Ca (Hc O) (Bc (Tc (Wj isAgg27 sizeOf27 O hF.F 0 O O) ?_))
 refine Jb hF (JQ k t ks xs _ _ _ (hF.rep hR0) hm) (Cb QY O O) ?_
 clear hF; intro w hF
 refine Ca (Hc O) (Ea (Ha (Ia (Ca (Jc O) (Ca (Pn O) (Ca (Jc O) ?_))))))
 refine Jf (d:=12) O (fun hg0=>?_) (fun hg0=>?_)
 refine Da (Da (Da (Da (Da (Da (Da (Ca (Ic O O) (Ea (Ae O (Ia (Ca (Hc O) ?_)))))))))))
 refine Ea ?_
 refine Td (v:=.bool false) O O ?_
 refine ⟨congrArg Value.bool ?_,hF.same⟩
 rw [Su]
 · first | (rw [Cy (by assumption)]; rfl) | (rw [Iy (by assumption) (Vi (by assumption))]; rfl) | (rw [Zo (f:=Fe (Jy h)) (l:=xs) (j:=j) U (Vi (by assumption))]; simp; done) | (have hz:xs.all (Fe (Jy h))=true:=(by rw [←List.take_of_length_le (show xs.length≤j by omega)]; exact ha); rw [hz]; first | (rw [Cu (Ef (by assumption)) (by assumption)]; rfl) | (rw [Au (Ef (by assumption)) (Ef (by assumption))]; rfl))
 refine Ca (Ec Ke O) (Tc (Hl isAgg3 O hF.F 0 O O) (Ca (Th O O) (Ca (Jc O) ?_)))
 refine Hb (d:=16) O (fun hg1=>?_) (fun hg1=>?_)
 refine Ca (Jc O) (Ca (Pn O) (Ca (Ic O O) (Ca (Gc O O) (Ea ?_))))
 refine Mi O O (fun hc0=>?_) (fun hc0=>?_)
 refine Ia (Ca (Hc O) (Ea ?_))
 refine Td (v:=.bool false) O O ?_
 refine ⟨congrArg Value.bool ?_,hF.same⟩
 rw [Su]
 · first | (rw [Cy (by assumption)]; rfl) | (rw [Iy (by assumption) (Vi (by assumption))]; rfl) | (rw [Zo (f:=Fe (Jy h)) (l:=xs) (j:=j) U (Vi (by assumption))]; simp; done) | (have hz:xs.all (Fe (Jy h))=true:=(by rw [←List.take_of_length_le (show xs.length≤j by omega)]; exact ha); rw [hz]; first | (rw [Cu (Ef (by assumption)) (by assumption)]; rfl) | (rw [Au (Ef (by assumption)) (Ef (by assumption))]; rfl))
 refine Qa (Ga (Ha (Ia (Ca (Wb O) (Ea (Ta ?_))))))
 refine Lc (fun μ σ w=>∃ (j:Nat),μ=xs.length - j∧(j≤xs.length)∧((xs.take j).all (Fe (Jy h))=true)∧AllEq σ [(1,.bool (h)),(2,.pointer (some ⟨b1,0,none⟩)),(6,.int .i64 ((j:Int)))]∧FR w0 [] [(b1,.cells #[.int .i64 k,.string (bs t),.slice A ks.length c,.slice B xs.length e] 27)] w) _ ⟨0,O,(Nat.zero_le _),Ma,Vp,hF⟩ ?_
 clear hF; rintro μ σ w ⟨j,rfl,hj,ha,hs,hF⟩
 refine Cg.slots hs ?_
 clear hs; intro σ
 refine Ha (Ia (Ca (Va O) (Ca (Ec Pc O) (Tc (Mf isAgg22 O hF.F 0 O O) (Ca (Df underlying22 O) (Ca (Yg O O) (Ea ?_)))))))
 refine Yb O O (fun hc1=>?_) (fun hc1=>?_)
 refine Qa (Ga (Ha (Ta (Ia (Ca (Ec Pc O) (Tc (Mf isAgg22 O hF.F 0 O O) (Ca (Va O) ?_)))))))
 obtain ⟨ad2,cs2,hA2,hl2,hk2,hx2⟩:=hX.tree_elem (i:=j) U
 have ho2:=hx2.one_
 refine Ja (v:=.pointer (some (ad2.add (j * 4)))) (Pa (i:=(j:Int)) Mg O hA2 O U U) (Ja (v:=.agg (List.toArray cs2)) (Fc (l:=cs2) isAgg27 sizeOf27 O hl2 (hF.cells0 hk2)) (Ca (Jc O) ?_))
 refine Jb hF (ih _ (List.getElem_mem _) (by have:=Rf (List.getElem_mem (l:=xs) (n:=j) U); omega) (by have:=Ch (List.getElem_mem (l:=xs) (n:=j) U); rw [Lf] at hm; omega) h _ _ _ (hF.rep hx2)) (Vb BH O O O) ?_
 clear hF; intro w hF
 refine Ca (Hc O) (Bc (Ca (Jc O) (Ca (Pn O) (Ea ?_))))
 refine Mi O O (fun hc2=>?_) (fun hc2=>?_)
 refine Ia (Ca (Hc O) (Ea ?_))
 refine Td (v:=.bool false) O O ?_
 refine ⟨congrArg Value.bool ?_,hF.same⟩
 rw [Su]
 · first | (rw [Cy (by assumption)]; rfl) | (rw [Iy (by assumption) (Vi (by assumption))]; rfl) | (rw [Zo (f:=Fe (Jy h)) (l:=xs) (j:=j) U (Vi (by assumption))]; simp; done) | (have hz:xs.all (Fe (Jy h))=true:=(by rw [←List.take_of_length_le (show xs.length≤j by omega)]; exact ha); rw [hz]; first | (rw [Cu (Ef (by assumption)) (by assumption)]; rfl) | (rw [Au (Ef (by assumption)) (Ef (by assumption))]; rfl))
 refine Qa (Eb (Ga (Fa (Ca (Va O) (Ca (If (((j+1:Nat):Int)) O O) (Ca (Wb O) (Xa ?_)))))))
 refine Ib ⟨_,?_,j+1,O,U,(XB U ha (Ef (by assumption))),Vp,hF⟩
 omega
 refine Dc (Cc O ?_)
 refine Ga (Ia (Ca (Hc O) (Ea ?_)))
 refine Td (v:=.bool true) O O ?_
 refine ⟨congrArg Value.bool ?_,hF.same⟩
 rw [Su]
 · first | (rw [Cy (by assumption)]; rfl) | (rw [Iy (by assumption) (Vi (by assumption))]; rfl) | (rw [Zo (f:=Fe (Jy h)) (l:=xs) (j:=j) U (Vi (by assumption))]; simp; done) | (have hz:xs.all (Fe (Jy h))=true:=(by rw [←List.take_of_length_le (show xs.length≤j by omega)]; exact ha); rw [hz]; first | (rw [Cu (Ef (by assumption)) (by assumption)]; rfl) | (rw [Au (Ef (by assumption)) (Ef (by assumption))]; rfl))
 refine Da (Da (Ca (Gc O O) (Ca (Gc O O) (Ea (Qj O (Ha (Ia (Ca (Wb O) (Xa ?_)))))))))
 refine Ga (Ta ?_)
 refine Lc (fun μ σ w=>∃ (j:Nat),μ=xs.length - j∧(j≤xs.length)∧((xs.take j).all (Fe (Jy h))=true)∧AllEq σ [(1,.bool (h)),(2,.pointer (some ⟨b1,0,none⟩)),(6,.int .i64 ((j:Int)))]∧FR w0 [] [(b1,.cells #[.int .i64 k,.string (bs t),.slice A ks.length c,.slice B xs.length e] 27)] w) _ ⟨0,O,(Nat.zero_le _),Ma,Vp,hF⟩ ?_
 clear hF; rintro μ σ w ⟨j,rfl,hj,ha,hs,hF⟩
 refine Cg.slots hs ?_
 clear hs; intro σ
 refine Ha (Ia (Ca (Va O) (Ca (Ec Pc O) (Tc (Mf isAgg22 O hF.F 0 O O) (Ca (Df underlying22 O) (Ca (Yg O O) (Ea ?_)))))))
 refine Yb O O (fun hc1=>?_) (fun hc1=>?_)
 refine Qa (Ga (Ha (Ta (Ia (Ca (Ec Pc O) (Tc (Mf isAgg22 O hF.F 0 O O) (Ca (Va O) ?_)))))))
 obtain ⟨ad3,CL,hA3,hl3,hk3,hx3⟩:=hX.tree_elem (i:=j) U
 have ho3:=hx3.one_
 refine Ja (v:=.pointer (some (ad3.add (j * 4)))) (Pa (i:=(j:Int)) Mg O hA3 O U U) (Ja (v:=.agg (List.toArray CL)) (Fc (l:=CL) isAgg27 sizeOf27 O hl3 (hF.cells0 hk3)) (Ca (Jc O) ?_))
 refine Jb hF (ih _ (List.getElem_mem _) (by have:=Rf (List.getElem_mem (l:=xs) (n:=j) U); omega) (by have:=Ch (List.getElem_mem (l:=xs) (n:=j) U); rw [Lf] at hm; omega) h _ _ _ (hF.rep hx3)) (Vb BH O O O) ?_
 clear hF; intro w hF
 refine Ca (Hc O) (Bc (Ca (Jc O) (Ca (Pn O) (Ea ?_))))
 refine Mi O O (fun hc2=>?_) (fun hc2=>?_)
 refine Ia (Ca (Hc O) (Ea ?_))
 refine Td (v:=.bool false) O O ?_
 refine ⟨congrArg Value.bool ?_,hF.same⟩
 rw [Su]
 · first | (rw [Cy (by assumption)]; rfl) | (rw [Iy (by assumption) (Vi (by assumption))]; rfl) | (rw [Zo (f:=Fe (Jy h)) (l:=xs) (j:=j) U (Vi (by assumption))]; simp; done) | (have hz:xs.all (Fe (Jy h))=true:=(by rw [←List.take_of_length_le (show xs.length≤j by omega)]; exact ha); rw [hz]; first | (rw [Cu (Ef (by assumption)) (by assumption)]; rfl) | (rw [Au (Ef (by assumption)) (Ef (by assumption))]; rfl))
 refine Qa (Eb (Ga (Fa (Ca (Va O) (Ca (If (((j+1:Nat):Int)) O O) (Ca (Wb O) (Xa ?_)))))))
 refine Ib ⟨_,?_,j+1,O,U,(XB U ha (Ef (by assumption))),Vp,hF⟩
 omega
 refine Dc (Cc O ?_)
 refine Ga (Ia (Ca (Hc O) (Ea ?_)))
 refine Td (v:=.bool true) O O ?_
 refine ⟨congrArg Value.bool ?_,hF.same⟩
 rw [Su]
 · first | (rw [Cy (by assumption)]; rfl) | (rw [Iy (by assumption) (Vi (by assumption))]; rfl) | (rw [Zo (f:=Fe (Jy h)) (l:=xs) (j:=j) U (Vi (by assumption))]; simp; done) | (have hz:xs.all (Fe (Jy h))=true:=(by rw [←List.take_of_length_le (show xs.length≤j by omega)]; exact ha); rw [hz]; first | (rw [Cu (Ef (by assumption)) (by assumption)]; rfl) | (rw [Au (Ef (by assumption)) (Ef (by assumption))]; rfl))
theorem O7 (x:Tree):ZF x:=Tree.ind EB x
theorem H2 (x:Tree) (hsz:Oc x≤1000000000) (hm:Lf x≤1073741824) (S:Nat→Prop) (w0:World) (cs:List Value) (hR:Rep S w0 (Vc x) cs):Calls prog 31 #[.agg cs.toArray] w0 (De fun v w'=>v=.bool (Je x)∧Same [] w0 w'):=by
 have hl:cs.length=4:=hR.length.trans (Dd x)
 have ho:=hR.one_
 refine Ka func31 O ntmps31 Kb (Sc _) ?_
 have hF:=FR.start w0 []
 refine Ia ?_
 refine Io (v:=.agg (List.toArray cs)) (cs:=(List.toArray cs)) hF O O ?_
 clear hF; rintro b1 w hb1 hF -
 refine Ca (Hc O) (Bc (Ja (v:=.agg (List.toArray cs)) (Fc (l:=cs) isAgg27 sizeOf27 O hl (hF.cellsAll 0 O)) ?_))
 refine Jb hF (S_ x hsz _ _ cs (hF.rep hR)) (Cb CO O O) ?_
 clear hF; intro w hF
 refine Ca (J1 O O) (Ca (Jc O) ?_)
 refine Hb (d:=6) O (fun hg0=>?_) (fun hg0=>?_)
 refine Ja (v:=.agg (List.toArray cs)) (Fc (l:=cs) isAgg27 sizeOf27 O hl (hF.cellsAll 0 O)) ?_
 refine Jb hF (H6 x hsz _ _ cs (hF.rep hR)) (Cb FL O O) ?_
 clear hF; intro w hF
 refine Ca (J1 O O) (Ca (Ic O O) (Ca (Jc O) ?_))
 refine Hb (d:=11) O (fun hg1=>?_) (fun hg1=>?_)
 refine Ja (v:=.agg (List.toArray cs)) (Fc (l:=cs) isAgg27 sizeOf27 O hl (hF.cellsAll 0 O)) ?_
 refine Jb hF ((by have h:=O7 x hsz hm false _ _ cs (hF.rep hR); rw [KO] at h; exact h)) (Vb BH O O O) ?_
 clear hF; intro w hF
 refine Ca (Ic O O) (Ca (Hc O) (Ea ?_))
 refine Td (v:=.bool _) O O ?_
 refine ⟨congrArg Value.bool ?_,hF.same⟩
 unfold Je Rl
 · first | (rw [decide_eq_false (show ¬Oc x≤4096 by omega)]; simp; done) | (rw [decide_eq_false (show ¬Cd x≤32 by omega)]; simp; done) | (rw [decide_eq_true (show Oc x≤4096 by omega),decide_eq_true (show Cd x≤32 by omega)]; simp; done) | simp_all
 refine Da (Da (Ca (Gc O O) (Ca (Hc O) (Ea ?_))))
 refine Td (v:=.bool false) O O ?_
 refine ⟨congrArg Value.bool ?_,hF.same⟩
 unfold Je Rl
 · first | (rw [decide_eq_false (show ¬Oc x≤4096 by omega)]; simp; done) | (rw [decide_eq_false (show ¬Cd x≤32 by omega)]; simp; done) | (rw [decide_eq_true (show Oc x≤4096 by omega),decide_eq_true (show Cd x≤32 by omega)]; simp; done) | simp_all
 refine Da (Da (Da (Ca (Gc O O) (Ca (Jc O) (Da (Da (Ca (Gc O O) (Ca (Hc O) (Ea ?_)))))))))
 refine Td (v:=.bool false) O O ?_
 refine ⟨congrArg Value.bool ?_,hF.same⟩
 unfold Je Rl
 · first | (rw [decide_eq_false (show ¬Oc x≤4096 by omega)]; simp; done) | (rw [decide_eq_false (show ¬Cd x≤32 by omega)]; simp; done) | (rw [decide_eq_true (show Oc x≤4096 by omega),decide_eq_true (show Cd x≤32 by omega)]; simp; done) | simp_all
theorem MS (x:Tree) (hsz:Oc x≤1000000000) (hm:Lf x≤1073741824) (S:Nat→Prop) (w0:World) (cs:List Value) (hR:Rep S w0 (Vc x) cs):Calls prog 80 #[.agg cs.toArray] w0 (De fun v w'=>v=.bool (Tj x)∧Same [] w0 w'):=by
 have hl:cs.length=4:=hR.length.trans (Dd x)
 have ho:=hR.one_
 refine Ka func80 O ntmps80 Kb (Sc _) ?_
 have hF:=FR.start w0 []
 refine Ia ?_
 refine Io (v:=.agg (List.toArray cs)) (cs:=(List.toArray cs)) hF O O ?_
 clear hF; rintro b1 w hb1 hF -
 refine Ca (Hc O) (Bc (Ja (v:=.agg (List.toArray cs)) (Fc (l:=cs) isAgg27 sizeOf27 O hl (hF.cellsAll 0 O)) ?_))
 refine Jb hF (S_ x hsz _ _ cs (hF.rep hR)) (Cb CO O O) ?_
 clear hF; intro w hF
 refine Ca (J1 O O) (Ca (Jc O) ?_)
 refine Hb (d:=6) O (fun hg0=>?_) (fun hg0=>?_)
 refine Ja (v:=.agg (List.toArray cs)) (Fc (l:=cs) isAgg27 sizeOf27 O hl (hF.cellsAll 0 O)) ?_
 refine Jb hF (H6 x hsz _ _ cs (hF.rep hR)) (Cb FL O O) ?_
 clear hF; intro w hF
 refine Ca (J1 O O) (Ca (Ic O O) (Ca (Jc O) ?_))
 refine Hb (d:=11) O (fun hg1=>?_) (fun hg1=>?_)
 refine Ja (v:=.agg (List.toArray cs)) (Fc (l:=cs) isAgg27 sizeOf27 O hl (hF.cellsAll 0 O)) ?_
 refine Jb hF ((by have h:=O7 x hsz hm true _ _ cs (hF.rep hR); rw [OR] at h; exact h)) (Vb BH O O O) ?_
 clear hF; intro w hF
 refine Ca (Ic O O) (Ca (Hc O) (Ea ?_))
 refine Td (v:=.bool _) O O ?_
 refine ⟨congrArg Value.bool ?_,hF.same⟩
 unfold Tj Rl
 · first | (rw [decide_eq_false (show ¬Oc x≤4096 by omega)]; simp; done) | (rw [decide_eq_false (show ¬Cd x≤32 by omega)]; simp; done) | (rw [decide_eq_true (show Oc x≤4096 by omega),decide_eq_true (show Cd x≤32 by omega)]; simp; done) | simp_all
 refine Da (Da (Ca (Gc O O) (Ca (Hc O) (Ea ?_))))
 refine Td (v:=.bool false) O O ?_
 refine ⟨congrArg Value.bool ?_,hF.same⟩
 unfold Tj Rl
 · first | (rw [decide_eq_false (show ¬Oc x≤4096 by omega)]; simp; done) | (rw [decide_eq_false (show ¬Cd x≤32 by omega)]; simp; done) | (rw [decide_eq_true (show Oc x≤4096 by omega),decide_eq_true (show Cd x≤32 by omega)]; simp; done) | simp_all
 refine Da (Da (Da (Ca (Gc O O) (Ca (Jc O) (Da (Da (Ca (Gc O O) (Ca (Hc O) (Ea ?_)))))))))
 refine Td (v:=.bool false) O O ?_
 refine ⟨congrArg Value.bool ?_,hF.same⟩
 unfold Tj Rl
 · first | (rw [decide_eq_false (show ¬Oc x≤4096 by omega)]; simp; done) | (rw [decide_eq_false (show ¬Cd x≤32 by omega)]; simp; done) | (rw [decide_eq_true (show Oc x≤4096 by omega),decide_eq_true (show Cd x≤32 by omega)]; simp; done) | simp_all
def HS (ks:List Str) (key:Str):Int:=if key∈ks then ((ks.idxOf key:Nat):Int) else -1
theorem IN:∀ {ks:List Str} {key:Str} {j:Nat} (h:j < ks.length),(∀ x∈ks.take j,x≠key)→ks[j]=key→ks.idxOf key=j
  | k :: ks, key, 0, _, _, he => by
    have he':k=key:=he
    rw [List.idxOf_cons,he']; simp
  | k :: ks, key, j + 1, h, hn, he => by
    have h0:k≠key:=hn k Ma
    rw [List.idxOf_cons]
    have hb:(k == key)=false:=by simpa using h0
    rw [hb]
    simp only [cond_false]
    rw [IN (ks:=ks) (j:=j) (by simpa using h) (fun x hx=>hn x (by simp [hx])) (by simpa using he)]
theorem AN {ks:List Str} {key:Str} {j:Nat} (h:j < ks.length) (hn:∀ x∈ks.take j,x≠key) (he:ks[j]=key):HS ks key=(j:Int):=by
  rw [HS,if_pos (by rw [←he]; exact List.getElem_mem h),IN h hn he]
theorem ZS {ks:List Str} {key:Str} (hn:∀ x∈ks,x≠key):HS ks key = -1:=by
  rw [HS,if_neg (fun h=>hn key h rfl)]
theorem ER {ks:List Str} {key:Str} {j:Nat} (h:j < ks.length) (hn:∀ x∈ks.take j,x≠key) (he:ks[j]≠key):∀ x∈ks.take (j+1),x≠key:=by
  rw [List.take_succ_eq_append_getElem h]
  intro x hx
  rcases List.mem_append.1 hx with hx | hx
  · exact hn x hx
  · rw [List.mem_singleton.1 hx]; exact he
theorem at_c (k:Int) (t:Str) (ks:List Str) (xs:List Tree) (key:Str) (S:Nat→Prop) (w0:World) (cs:List Value) (hR:Rep S w0 (Vc (.node k t ks xs)) cs):Calls prog 108 #[.agg cs.toArray,.string (bs key)] w0 (De fun v w'=>v=.int .i64 (HS ks key)∧Same [] w0 w'):=by
 obtain ⟨A,c,B,e,rfl,-,-,hK,hX⟩:=hR.tree_inv
 have hKl:=hK.slice_len
 refine Ka func108 O ntmps108 Kb (Ee _ _) ?_
 have hF:=FR.start w0 []
 refine Ia ?_
 refine Bh hF O ?_
 clear hF; rintro b1 w hb1 hF -
 refine Ca (Wb O) (Ea (Ha (Ia (Ca (Wb O) (Ea (Ta ?_))))))
 refine Lc (fun μ σ w=>∃ (j:Nat),μ=ks.length - j∧(j≤ks.length)∧(∀ x∈ks.take j,x≠key)∧AllEq σ [(1,.string (bs key)),(2,.pointer (some ⟨b1,0,none⟩)),(5,.int .i64 ((j:Int)))]∧FR w0 [] [(b1,.cells #[.int .i64 k,.string (bs t),.slice A ks.length c,.slice B xs.length e] 27)] w) _ ⟨0,O,(Nat.zero_le _),Ma,Vp,hF⟩ ?_
 clear hF; rintro μ σ w ⟨j,rfl,hj,hno,hs,hF⟩
 refine Cg.slots hs ?_
 clear hs; intro σ
 refine Ha (Ia (Ca (Va O) (Ca (Ec Af O) (Tc (Mf isAgg25 O hF.F 0 O O) (Ca (Df underlying25 O) (Ca (Yg O O) (Ea ?_)))))))
 refine Yb O O (fun hc0=>?_) (fun hc0=>?_)
 refine Qa (Ga (Ha (Ta (Ia (Ca (Ec Af O) (Tc (Mf isAgg25 O hF.F 0 O O) (Ca (Va O) ?_)))))))
 obtain ⟨ad0,hA0,hk0,hx0⟩:=hK.str_elem (i:=j) U
 refine Ja (v:=.pointer (some (ad0.add (j * 1)))) (Pa (i:=(j:Int)) Gk O hA0 O U U) (Ja (v:=.string (bs (ks[j]))) (Ya isAgg9 O (hF.cell0 hk0)) (Ca (Qc O) (Ca (Ay O O) (Ea ?_))))
 refine Yb O O (fun hc1=>?_) (fun hc1=>?_)
 refine Ia (Ca (Va O) (Ca (Wb O) (Ea ?_)))
 refine Td (v:=.int .i64 ((j:Int))) O O ?_
 exact ⟨by rw [AN U hno (by assumption)],hF.same⟩
 refine Qa (Eb (Ga (Fa (Ca (Va O) (Ca (If (((j+1:Nat):Int)) O O) (Ca (Wb O) (Xa ?_)))))))
 refine Ib ⟨_,?_,j+1,O,U,(ER U hno (by assumption)),Vp,hF⟩
 omega
 refine Dc (Cc O ?_)
 refine Ga (Ia (Ca (Wb O) (Ea ?_)))
 refine Td (v:=.int .i64 ((-1))) O O ?_
 exact ⟨by rw [ZS (by rw [List.take_of_length_le U] at hno; exact hno)],hF.same⟩
end Go.Scarf
