/- A part of the proof. -/
import Derived.Test.YthhhbkkelnaekaaGreatDoorW16
set_option linter.all false
set_option maxHeartbeats 8000000
set_option maxRecDepth 10000
namespace Go.Scarf
open Go.RowKit Go.Proofs Go.Proofs.Tryz
mutual
def VQ:Tree→Tree→Bool
  | .node k t ks xs,.node k' t' ks' ys=>decide (k=k') && decide (t=t') && decide (ks=ks') && IE xs ys
def IE:List Tree→List Tree→Bool
  | [],[]=>true
  | x::xs,y::ys=>VQ x y && IE xs ys
  | _,_=>false
end
theorem LI:∀ {xs ys:List Tree},(∀ x∈xs,∀ y,VQ x y=true↔x=y)→(IE xs ys=true↔xs=ys)
  | [],[],_=>by simp [IE]
  | [],_::_,_=>by simp [IE]
  | _::_,[],_=>by simp [IE]
  | x :: xs, y :: ys, h => by
    rw [IE,Bool.and_eq_true,h x Ma y,LI (fun z hz=>h z (by simp [hz]))]
    simp
theorem Rw (x:Tree):∀ y,VQ x y=true↔x=y:=Tree.ind (Q:=fun x=>∀ y,VQ x y=true↔x=y) (fun k t ks xs ih y=>by
  obtain ⟨k',t',ks',ys⟩:=y
  rw [VQ,Bool.and_eq_true,Bool.and_eq_true,Bool.and_eq_true,LI ih]
  simp [and_assoc]) x
theorem Kl (x:Tree):VQ x x=true:=(Rw x x).2 rfl
theorem Py {x y:Tree} (h:x≠y):VQ x y=false:=by rw [Bool.eq_false_iff]; exact fun e=>h ((Rw x y).1 e)
instance : DecidableEq Tree:=fun x y=>if h:VQ x y=true then .isTrue ((Rw x y).1 h) else .isFalse (fun e=>h ((Rw x y).2 e))
theorem Q6 {α:Type} {xs ys:List α} {j:Nat} (h:j < xs.length) (h2:j < ys.length) (ha:xs.take j=ys.take j) (he:xs[j]=ys[j]):xs.take (j+1)=ys.take (j+1):=by
  rw [List.take_succ_eq_append_getElem h,List.take_succ_eq_append_getElem h2,ha,he]
def FE (x:Tree):Prop:=∀ y S S' w0 cs ct,Rep S w0 (Vc x) cs→Rep S' w0 (Vc y) ct→Calls prog 9 #[.agg cs.toArray,.agg ct.toArray] w0 (De fun v w'=>v=.bool (VQ x y)∧Same [] w0 w')
def K9 (x:Tree):Prop:=∀ S w0 cs,Rep S w0 (Vc x) cs→Oc x≤1000000000→(Vn x≤8796093022208)→WM 6 #[.agg cs.toArray] (Vc x) w0
mutual
def Fr (left deep:Int):Tree→Int | .node _ _ ks xs=>if 60 < deep then -1 else Qm (left - 1 - ks.length) deep xs
def Qm (left deep:Int):List Tree→Int | []=>left | x::xs=>if left < 0 then left else Qm (Fr left (deep+1) x) deep xs
end
mutual
def Pj:Tree→Bool | .node _ t ks xs=>decide (t.length≤2048) && ks.all (fun k=>decide (k.length≤1024)) && Nm xs
def Nm:List Tree→Bool | []=>true | x::xs=>Pj x && Nm xs
end
def Vu (x:Tree) (most:Int):Bool:=decide (0≤Fr most 0 x) && Pj x
theorem FB (deep:Int):∀ (xs:List Tree) (left:Int),(∀ x∈xs,∀ l d:Int,0≤l→Fr l d x≤l)→Qm left deep xs≤left
  | [],left,_=>by rw [Qm]; exact Int.le_refl _
  | x :: xs, left, h => by
    rw [Qm]
    split
    · exact Int.le_refl _
    · have h1 := h x Ma left (deep + 1) U
      have h2:=FB deep xs (Fr left (deep+1) x) (fun y hy=>h y (by simp [hy]))
      omega
theorem JR (x:Tree):∀ l d:Int,0≤l→Fr l d x≤l:=Tree.ind (Q:=fun x=>∀ l d:Int,0≤l→Fr l d x≤l) (fun k t ks xs ih l d hl=>by
  rw [Fr]
  split
  · omega
  · have := FB d xs (l - 1 - ks.length) ih
    omega) x
theorem Sy {left deep:Int} (h:left < 0):∀ xs:List Tree,Qm left deep xs=left
  | []=>by rw [Qm]
  | x::xs=>by rw [Qm,if_pos h]
theorem RE (x:Tree):∀ l d:Int,0≤l→0≤d→0≤Fr l d x→Fr l d x=l - Oc x - Vn x∧d+Cd x≤61:=Tree.ind (Q:=fun x=>∀ l d:Int,0≤l→0≤d→0≤Fr l d x→Fr l d x=l - Oc x - Vn x∧d+Cd x≤61) (fun k t ks xs ih l d hl hd h=>by
  rw [Fr] at h ⊢
  split at h
  · omega
  · rename_i hd60
    rw [if_neg hd60]
    have key:∀ (ys:List Tree),(∀ y∈ys,y∈xs)→∀ m:Int,0≤Qm m d ys→Qm m d ys=m - Fd ys - Pm ys∧d+1+Md ys≤61:=by
      intro ys
      induction ys with
      | nil=>intro _ m hm; simp only [Qm,Fd,Pm,Md]; omega
      | cons y ys ihy =>
        intro hm m h0
        rw [Qm] at h0 ⊢
        split at h0
        · omega
        · rename_i hmm
          rw [if_neg hmm]
          obtain ⟨a1,a2⟩:=ihy (fun z hz=>hm z (by simp [hz])) _ h0
          have h3:0≤Fr m (d+1) y:=by
            rcases Int.lt_or_le (Fr m (d+1) y) 0 with hlt | hge
            · rw [Sy hlt] at h0; omega
            · exact hge
          obtain ⟨b1,b2⟩:=ih y (hm y Ma) m (d+1) U U h3
          simp only [Fd,Pm,Md]
          omega
    obtain ⟨a1,a2⟩:=key xs (fun _ h=>h) _ h
    rw [Oc,Vn,Cd]
    omega) x
theorem Xp {x:Tree} {most:Int} (hm:0≤most) (h:Vu x most=true):(Oc x:Int)+Vn x≤most∧Cd x≤61∧Pj x=true:=by
  unfold Vu at h
  rw [Bool.and_eq_true,decide_eq_true_eq] at h
  obtain ⟨a,b⟩:=RE x most 0 hm U h.1
  exact ⟨by omega,by omega,h.2⟩
theorem EA (x:Tree):Pj x=true→U4 x:=Tree.ind (Q:=fun x=>Pj x=true→U4 x) (fun k t ks xs ih h=>by
  rw [Pj,Bool.and_eq_true,Bool.and_eq_true,decide_eq_true_eq,List.all_eq_true] at h
  rw [U4]
  refine ⟨by omega,fun k hk=>by have:=h.1.2 k hk; simp only [decide_eq_true_eq] at this; omega,?_⟩
  have key:∀ ys:List Tree,(∀ y∈ys,y∈xs)→Nm ys=true→Z4 ys:=by
    intro ys
    induction ys with
    | nil=>intro _ _; rw [Z4]; trivial
    | cons y ys ihy =>
      intro hm hs
      rw [Nm,Bool.and_eq_true] at hs
      rw [Z4]
      exact ⟨ih y (hm y Ma) hs.1,ihy (fun z hz=>hm z (by simp [hz])) hs.2⟩
  exact key xs (fun _ h=>h) h.2) x
theorem BE {left deep:Int} {xs:List Tree} {j:Nat} (h:j < xs.length) (h0:¬left < 0):Qm left deep (xs.drop j)=Qm (Fr left (deep+1) xs[j]) deep (xs.drop (j+1)):=by
  rw [List.drop_eq_getElem_cons h,Qm,if_neg h0]
def SX (x:Tree):Prop:=∀ (left deep:Int) S w0 cs,0≤left→left≤1000000→0≤deep→deep≤61→Rep S w0 (Vc x) cs→Calls prog 26 #[.agg cs.toArray,.int .i64 left,.int .i64 deep] w0 (De fun v w'=>v=.int .i64 (Fr left deep x)∧Same [] w0 w')
def QD (x:Tree):Prop:=∀ S w0 cs,Rep S w0 (Vc x) cs→Calls prog 27 #[.agg cs.toArray] w0 (De fun v w'=>v=.bool (Pj x)∧Same [] w0 w')
theorem BA {xs:List Tree} {x:Tree} (h:x∈xs) (hs:Pj x=false):Nm xs=false:=by
  induction xs with
  | nil=>cases h
  | cons y ys ih =>
    rw [Nm]
    rcases List.mem_cons.1 h with rfl | h
    · rw [hs]; rfl
    · rw [ih h,Bool.and_false]
theorem CC {xs:List Tree} (h:∀ j (hj:j < xs.length),Pj xs[j]=true):Nm xs=true:=by
  induction xs with
  | nil=>rfl
  | cons y ys ih =>
    have h0:Pj y=true:=h 0 Ma
    rw [Nm,h0,Bool.true_and]
    exact ih (fun j hj=>by have:=h (j+1) (by simpa using hj); simpa using this)
theorem FD (k:Int) (t:Str) (ks:List Str) (xs:List Tree) (ih:∀ x,x∈xs→FE x):FE (.node k t ks xs):=by
 rintro ⟨k',t',ks',ys⟩ S S' w0 cs ct hR hR'
 obtain ⟨A,c,B,e,rfl,-,-,hK,hX⟩:=hR.tree_inv
 obtain ⟨A',c',B',e',rfl,-,-,hK',hY⟩:=hR'.tree_inv
 have hXl:=hX.slice_len
 have hKl:=hK.slice_len
 have hYl:=hY.slice_len
 have hKl':=hK'.slice_len
 refine Ka func9 O ntmps9 Kb (Ee _ _) ?_
 have hF:=FR.start w0 []
 refine Ia ?_
 refine Bh hF O ?_
 clear hF; rintro b1 w hb1 hF -
 refine Bh hF O ?_
 clear hF; rintro b2 w hb2 hF -
 refine Ca (Hc O) (Ea (Ha (Ia (Ca (Ec Ke O) (Tc (Hl isAgg3 O hF.F 1 O O) (Ca (Ec Ke O) (Tc (Hl isAgg3 O hF.F 0 O O) (Ca (Sq O O) (Ca (Jc O) ?_)))))))))
 refine Hb (d:=13) O (fun hg0=>?_) (fun hg0=>?_)
 refine Da (Da (Da (Da (Da (Ca (Ic O O) (Ca (Jc O) (Da (Da (Da (Da (Da (Da (Da ?_)))))))))))))
 refine Ca (Ic O O) (Ca (Jc O) (Da (Da (Da (Da (Da (Da (Da (Ca (Ic O O) (Ea (Ae O (Ha ?_))))))))))))
 refine Fa (Ca (Hc O) (Ea ?_))
 refine Td (v:=.bool false) O O ?_
 refine ⟨congrArg Value.bool (Py (fun he=>?_)).symm,hF.same⟩; cases he; first | exact absurd rfl (by assumption) | (simp only [Kl] at hc4; cases hc4)
 refine Ca (Ec Of O) (Tc (Tp isAgg9 O hF.F 1 O O) (Ca (Ec Of O) (Tc (Tp isAgg9 O hF.F 0 O O) (Ca (yns O O) (Ca (Gc O O) (Ca (Jc O) ?_))))))
 refine Hb (d:=20) O (fun hg1=>?_) (fun hg1=>?_)
 refine Da (Da (Da (Da (Da (Da (Da (Ca (Ic O O) (Ca (Jc O) (Da (Da (Da (Da (Da ?_)))))))))))))
 refine Da (Da (Ca (Ic O O) (Ea (Ae O (Ia (Ca (Hc O) (Ea ?_)))))))
 refine Td (v:=.bool false) O O ?_
 refine ⟨congrArg Value.bool (Py (fun he=>?_)).symm,hF.same⟩; cases he; first | exact absurd rfl (by assumption) | (simp only [Kl] at hc4; cases hc4)
 refine Ca (Ec Af O) (Tc (Mf isAgg25 O hF.F 1 O O) (Ca (Df underlying25 O) (Ca (Ec Af O) (Tc (Mf isAgg25 O hF.F 0 O O) (Ca (Df underlying25 O) (Ca (Sq O O) (Ca (Gc O O) (Ca (Jc O) ?_))))))))
 refine Hb (d:=29) O (fun hg2=>?_) (fun hg2=>?_)
 refine Da (Da (Da (Da (Da (Da (Da (Ca (Ic O O) (Ea (Ae O (Ia (Ca (Hc O) ?_)))))))))))
 refine Ea ?_
 refine Td (v:=.bool false) O O ?_
 refine ⟨congrArg Value.bool (Py (fun he=>?_)).symm,hF.same⟩; cases he; first | exact absurd rfl (by assumption) | (simp only [Kl] at hc4; cases hc4)
 refine Ca (Ec Pc O) (Tc (Mf isAgg22 O hF.F 1 O O) (Ca (Df underlying22 O) (Ca (Ec Pc O) (Tc (Mf isAgg22 O hF.F 0 O O) (Ca (Df underlying22 O) (Ca (Sq O O) (Ca (Gc O O) (Ea ?_))))))))
 refine Yb O O (fun hc0=>?_) (fun hc0=>?_)
 refine Ia (Ca (Hc O) (Ea ?_))
 refine Td (v:=.bool false) O O ?_
 refine ⟨congrArg Value.bool (Py (fun he=>?_)).symm,hF.same⟩; cases he; first | exact absurd rfl (by assumption) | (simp only [Kl] at hc4; cases hc4)
 refine Qa (Ga (Ha (Ia (Ca (Wb O) (Ea (Ta ?_))))))
 refine Lc (fun μ σ w=>∃ (j:Nat),μ=ks.length - j∧(j≤ks.length)∧(ks.take j=ks'.take j)∧AllEq σ [(2,.pointer (some ⟨b1,0,none⟩)),(3,.pointer (some ⟨b2,0,none⟩)),(5,.int .i64 ((j:Int)))]∧FR w0 [] [(b2,.cells #[.int .i64 k',.string (bs t'),.slice A' ks'.length c',.slice B' ys.length e'] 27),(b1,.cells #[.int .i64 k,.string (bs t),.slice A ks.length c,.slice B xs.length e] 27)] w) _ ⟨0,O,(Nat.zero_le _),Ma,Vp,hF⟩ ?_
 clear hF; rintro μ σ w ⟨j,rfl,hj,ha,hs,hF⟩
 refine Cg.slots hs ?_
 clear hs; intro σ
 refine Ha (Ia (Ca (Va O) (Ca (Ec Af O) (Tc (Mf isAgg25 O hF.F 1 O O) (Ca (Df underlying25 O) (Ca (Yg O O) (Ea ?_)))))))
 refine Yb O O (fun hc1=>?_) (fun hc1=>?_)
 refine Qa (Ga (Ha (Ta (Ha ?_))))
 refine Ff (zs:=[]) (.free 0 (.free 1 (.free 2 (.free 3 (.free 4 (.free 5 (.free 6 (.free 7 (.free 8 (.free 9 (.free 10 .nil))))))))))) hF ?_
 clear hF; intro w hF
 refine Db O (Ec Af O) (Uk O (Mf isAgg25 O C0 1 O O) (Db O (Va O) ?_))
 obtain ⟨ad3,hA3,hk3,hx3⟩:=hK.str_elem (i:=j) U
 refine Oa O (v:=.pointer (some (ad3.add (j * 1)))) (fun w hC=>Pa (i:=(j:Int)) Gk O hA3 O U U) (Oa O (v:=.string (bs (ks[j]))) (fun w hC=>Ya isAgg9 O (hC.cell0 hk3)) (Db O (Ec Af O) (Uk O (Mf isAgg25 O C0 0 O O) (Db O (Va O) ?_))))
 obtain ⟨ad4,hA4,hk4,hx4⟩:=hK'.str_elem (i:=j) U
 refine Oa O (v:=.pointer (some (ad4.add (j * 1)))) (fun w hC=>Pa (i:=(j:Int)) Gk O hA4 O U U) (Oa O (v:=.string (bs (ks'[j]))) (fun w hC=>Ya isAgg9 O (hC.cell0 hk4)) (Db O (yns O O) (Mc (Ga ?_))))
 refine Yb O O (fun hc2=>?_) (fun hc2=>?_)
 refine Ia (Ca (Hc O) (Ea ?_))
 refine Td (v:=.bool false) O O ?_
 refine ⟨congrArg Value.bool (Py (fun he=>?_)).symm,hF.same⟩; cases he; first | exact absurd rfl (by assumption) | (simp only [Kl] at hc4; cases hc4)
 refine Qa (Eb (Ga (Fa (Ca (Va O) (Ca (Sl O O) (Ca (Wb O) (Xa ?_)))))))
 refine Ib ⟨_,?_,j+1,O,U,(Q6 U U ha (by simpa using hc2)),Vp,hF⟩
 omega
 refine Dc (Cc O ?_)
 refine Ga (Ha (Ia (Ca (Wb O) (Ea (Ta ?_)))))
 refine Lc (fun μ σ w=>∃ (i:Nat),μ=xs.length - i∧(i≤xs.length)∧(xs.take i=ys.take i)∧AllEq σ [(2,.pointer (some ⟨b1,0,none⟩)),(3,.pointer (some ⟨b2,0,none⟩)),(6,.int .i64 ((i:Int)))]∧FR w0 [] [(b2,.cells #[.int .i64 k',.string (bs t'),.slice A' ks'.length c',.slice B' ys.length e'] 27),(b1,.cells #[.int .i64 k,.string (bs t),.slice A ks.length c,.slice B xs.length e] 27)] w) _ ⟨0,O,(Nat.zero_le _),Ma,Vp,hF⟩ ?_
 clear hF; rintro μ σ w ⟨i,rfl,hi,hb,hs,hF⟩
 refine Cg.slots hs ?_
 clear hs; intro σ
 have hke:ks=ks':=by rw [List.take_of_length_le U,List.take_of_length_le U] at ha; exact ha
 refine Ha (Ia (Ca (Va O) (Ca (Ec Pc O) (Tc (Mf isAgg22 O hF.F 1 O O) (Ca (Df underlying22 O) (Ca (Yg O O) (Ea ?_)))))))
 refine Yb O O (fun hc3=>?_) (fun hc3=>?_)
 refine Qa (Ga (Ha (Ta (Ha ?_))))
 refine Ff (zs:=[]) (.free 0 (.free 1 (.free 2 (.free 3 (.free 4 (.free 5 (.free 6 (.free 7 (.free 8 (.free 9 (.act 10 (.free 11 .nil)))))))))))) hF ?_
 clear hF; intro w hF
 refine Db O (Ec Pc O) (Uk O (Mf isAgg22 O C0 1 O O) (Db O (Va O) ?_))
 obtain ⟨ad5,cs5,hA5,hl5,hk5,hx5⟩:=hX.tree_elem (i:=i) U
 have ho5:=hx5.one_
 refine Oa O (v:=.pointer (some (ad5.add (i * 4)))) (fun w hC=>Pa (i:=(i:Int)) Mg O hA5 O U U) (Oa O (v:=.agg (List.toArray cs5)) (fun w hC=>Fc (l:=cs5) isAgg27 sizeOf27 O hl5 (hC.cells0 hk5)) (Db O (Ec Pc O) (Uk O (Mf isAgg22 O C0 0 O O) (Db O (Va O) ?_))))
 obtain ⟨ad6,cs6,hA6,hl6,hk6,hx6⟩:=hY.tree_elem (i:=i) U
 have ho6:=hx6.one_
 refine Oa O (v:=.pointer (some (ad6.add (i * 4)))) (fun w hC=>Pa (i:=(i:Int)) Mg O hA6 O U U) (Oa O (v:=.agg (List.toArray cs6)) (fun w hC=>Fc (l:=cs6) isAgg27 sizeOf27 O hl6 (hC.cells0 hk6)) ?_)
 refine Um hF (ih _ (List.getElem_mem (l:=xs) (n:=i) U) ys[i] _ _ _ _ _ (hF.rep hx5) (hF.rep hx6)) O (Vb DR O O O) ?_
 clear hF; intro w hF
 refine ⟨hF,?_⟩
 refine Db O (Hc O) (Mc (Ga (Ia (Ca (Jc O) (Ca (Pn O) (Ea ?_))))))
 refine Mi O O (fun hc4=>?_) (fun hc4=>?_)
 refine Ia (Ca (Hc O) (Ea ?_))
 refine Td (v:=.bool false) O O ?_
 refine ⟨congrArg Value.bool (Py (fun he=>?_)).symm,hF.same⟩; cases he; first | exact absurd rfl (by assumption) | (simp only [Kl] at hc4; cases hc4)
 refine Qa (Eb (Ga (Fa (Ca (Va O) (Ca (Sl O O) (Ca (Wb O) (Xa ?_)))))))
 refine Ib ⟨_,?_,i+1,O,U,(Q6 U U hb ((Rw _ _).1 (by simpa using hc4))),Vp,hF⟩
 omega
 refine Dc (Cc O ?_)
 refine Ga (Ia (Ca (Hc O) (Ea ?_)))
 refine Td (v:=.bool true) O O ?_
 have e3:xs=ys:=(by have h1:=hb; rw [List.take_of_length_le U] at h1; rw [List.take_of_length_le U] at h1; exact h1); have e1:k=k':=Classical.not_not.1 hg0; have e2:t=t':=Classical.not_not.1 hg1; subst hke e3 e1 e2; exact ⟨congrArg Value.bool (Kl _).symm,hF.same⟩
theorem M9 (x:Tree):FE x:=Tree.ind FD x
theorem JM (k:Int) (t:Str) (ks:List Str) (xs:List Tree) (ih:∀ x,x∈xs→SX x):SX (.node k t ks xs):=by
 intro left deep S w0 cs h0 h1 h2 h3 hR
 obtain ⟨A,c,B,e,rfl,-,-,hK,hX⟩:=hR.tree_inv
 have hXl:=hX.slice_len
 have hKl:=hK.slice_len
 refine Ka func26 O ntmps26 Kb (Dp _ _ _) ?_
 have hF:=FR.start w0 []
 refine Ia ?_
 refine Bh hF O ?_
 clear hF; rintro b1 w hb1 hF -
 refine Ca (Wb O) (Ea (Ha (Ia (Ca (Va O) (Ca (Ho O O) (Ea ?_))))))
 refine Yb O O (fun hc0=>?_) (fun hc0=>?_)
 refine Ia (Ca (Wb O) (Ea ?_))
 refine Td (v:=.int .i64 ((-1))) O O ?_
 exact ⟨congrArg (Value.int .i64) (by rw [Fr,if_pos U]),hF.same⟩
 refine Qa (Ga (Ia (Ca (Va O) (Ca (Fo O O) (Ca (Ec Af O) (Tc (Mf isAgg25 O hF.F 0 O O) (Ca (Df underlying25 O) (Ca (Fo O O) (Ca (Wb O) (Ea (Ha ?_)))))))))))
 refine Ia (Ca (Wb O) (Ea (Ta ?_)))
 refine Lc (fun μ σ w=>∃ (j:Nat),∃ (lf:Int),μ=xs.length - j∧(j≤xs.length)∧(lf≤1000000)∧(Qm (left - 1 - ks.length) deep xs=Qm lf deep (xs.drop j))∧AllEq σ [(1,.int .i64 lf),(2,.int .i64 deep),(3,.pointer (some ⟨b1,0,none⟩)),(7,.int .i64 ((j:Int)))]∧FR w0 [] [(b1,.cells #[.int .i64 k,.string (bs t),.slice A ks.length c,.slice B xs.length e] 27)] w) _ ⟨0,(left - 1 - ks.length),O,(Nat.zero_le _),U,Ma,Gm,hF⟩ ?_
 clear hF; rintro μ σ w ⟨j,lf,rfl,hj,hlf,hf,hs,hF⟩
 refine Cg.slots hs ?_
 clear hs; intro σ
 refine Ha (Ia (Ca (Va O) (Ca (Ec Pc O) (Tc (Mf isAgg22 O hF.F 0 O O) (Ca (Df underlying22 O) (Ca (Yg O O) (Ca (Jc O) ?_)))))))
 refine Hb (d:=21) O (fun hg0=>?_) (fun hg0=>?_)
 refine Ca (Va O) (Ca (Rv O O) (Ca (Ic O O) (Ea ?_)))
 refine Yb O O (fun hc1=>?_) (fun hc1=>?_)
 refine Qa (Ga (Ha (Ta (Fa (Ca (Ec Pc O) (Tc (Mf isAgg22 O hF.F 0 O O) (Ca (Va O) ?_)))))))
 obtain ⟨ad1,cs1,hA1,hl1,hk1,hx1⟩:=hX.tree_elem (i:=j) U
 have ho1:=hx1.one_
 refine Ja (v:=.pointer (some (ad1.add (j * 4)))) (Pa (i:=(j:Int)) Mg O hA1 O U U) (Ja (v:=.agg (List.toArray cs1)) (Fc (l:=cs1) isAgg27 sizeOf27 O hl1 (hF.cells0 hk1)) (Ca (Va O) (Ca (Va O) (Ca (Sl O O) ?_))))
 refine Jb hF (ih _ (List.getElem_mem (l:=xs) (n:=j) U) lf (deep+1) _ _ _ U U U U (hF.rep hx1)) (Gd IU O O O O) ?_
 clear hF; intro w hF
 refine Ca (Wb O) (Xa (Eb (Ga (Fa (Ca (Va O) (Ca (Sl O O) (Ca (Wb O) (Xa ?_))))))))
 refine Ib ⟨_,?_,j+1,Fr lf (deep+1) xs[j],O,U,(by have:=JR xs[j] lf (deep+1) U; omega),(hf.trans (BE U U)),Gm,hF⟩
 omega
 refine Dc (Cc O ?_)
 refine Ga (Ia (Ca (Va O) (Ca (Wb O) (Ea ?_))))
 refine Td (v:=.int .i64 lf) O O ?_
 refine ⟨congrArg (Value.int .i64) ?_,hF.same⟩
 rw [Fr,if_neg U,hf]
 · first | (rw [List.drop_eq_nil_of_le U,Qm]; done) | (rw [Sy U])
 refine Da (Da (Ca (Gc O O) (Ea (Ie O ?_))))
 refine Dc (Cc O ?_)
 refine Ga (Ia (Ca (Va O) (Ca (Wb O) (Ea ?_))))
 refine Td (v:=.int .i64 lf) O O ?_
 refine ⟨congrArg (Value.int .i64) ?_,hF.same⟩
 rw [Fr,if_neg U,hf]
 · first | (rw [List.drop_eq_nil_of_le U,Qm]; done) | (rw [Sy U])
theorem PY (x:Tree):SX x:=Tree.ind JM x
theorem OF (k:Int) (t:Str) (ks:List Str) (xs:List Tree) (ih:∀ x,x∈xs→QD x):QD (.node k t ks xs):=by
  intro S w0 cs hR
  obtain ⟨A,c,B,e,rfl,-,-,hK,hX⟩:=hR.tree_inv
  have hXl:=hX.slice_len
  have hKl:=hK.slice_len
  refine Ka func27 O ntmps27 Kb (Sc _) ?_
  have hF:=FR.start w0 []
  refine Ha ?_
  refine Fa ?_
  refine Bh hF O ?_
  clear hF; intro b1 w hb1 hF hE
  clear hE
  refine Ca (Hc O) ?_
  refine Xa ?_
  refine Ga ?_
  refine Ha ?_
  refine Ha ?_
  refine Fa ?_
  refine Ca (Ec Of O) ?_
  refine Tc (Tp isAgg9 O hF.F 0 O O) ?_
  refine Ca (Xl underlying9 O) ?_
  refine Ca (Ho O O) ?_
  refine Xa ?_
  refine Ga ?_
  refine Yb O O (fun hc0=>?_) (fun hc0=>?_)
  ·
    refine Ha ?_
    refine Fa ?_
    refine Ca (Hc O) ?_
    refine Xa ?_
    refine Ga ?_
    refine Td (v:=.bool false) O O ?_
    exact ⟨congrArg Value.bool (by rw [Pj,decide_eq_false U]; rfl),hF.same⟩
  ·
    refine Qa ?_
    refine Ga ?_
    refine Ha ?_
    refine Ha ?_
    refine Fa ?_
    refine Ca (Wb O) ?_
    refine Xa ?_
    refine Ga ?_
    refine Ta ?_
    refine Lc (fun μ σ w=>∃ (j:Nat),μ=ks.length - j∧(j≤ks.length)∧(∀ i (hi:i < j) (hk:i < ks.length),ks[i].length≤1024)∧AllEq σ [(1,.pointer (some ⟨b1,0,none⟩)),(3,.int .i64 ((j:Int)))]∧FR w0 [] [(b1,.cells #[.int .i64 k,.string (bs t),.slice A ks.length c,.slice B xs.length e] 27)] w) _ ⟨0,O,(Nat.zero_le _),(fun i hi=>absurd hi U),Iw,hF⟩ ?_
    clear hF; rintro μ σ w ⟨j,rfl,hj,ha,hs,hF⟩
    refine Cg.slots hs ?_
    clear hs; intro σ
    refine Ha ?_
    refine Ha ?_
    refine Fa ?_
    refine Ca (Va O) ?_
    refine Ca (Ec Af O) ?_
    refine Tc (Mf isAgg25 O hF.F 0 O O) ?_
    refine Ca (Df underlying25 O) ?_
    refine Ca (Yg O O) ?_
    refine Xa ?_
    refine Ga ?_
    refine Yb O O (fun hc1=>?_) (fun hc1=>?_)
    ·
      refine Qa ?_
      refine Ga ?_
      refine Ha ?_
      refine Ta ?_
      refine Ha ?_
      refine Fa ?_
      refine Ca (Ec Af O) ?_
      refine Tc (Mf isAgg25 O hF.F 0 O O) ?_
      refine Ca (Va O) ?_
      obtain ⟨ad0,hA0,hk0,hx0⟩:=hK.str_elem (i:=j) U
      refine Ja (v:=.pointer (some (ad0.add (j * 1)))) (Pa (i:=(j:Int)) Gk O hA0 O U U) ?_
      refine Ja (v:=.string (bs (ks[j]))) (Ya isAgg9 O (hF.cell0 hk0)) ?_
      refine Ca (Xl underlying9 O) ?_
      refine Ca (Ho O O) ?_
      refine Xa ?_
      refine Ga ?_
      refine Yb O O (fun hc2=>?_) (fun hc2=>?_)
      ·
        refine Ha ?_
        refine Fa ?_
        refine Ca (Hc O) ?_
        refine Xa ?_
        refine Ga ?_
        refine Td (v:=.bool false) O O ?_
        have hno:ks.all (fun k=>decide (k.length≤1024))=false:=by
          rw [Bool.eq_false_iff]; intro hall; have:=List.all_eq_true.1 hall ks[j] (List.getElem_mem _); simp only [decide_eq_true_eq] at this; omega
        exact ⟨congrArg Value.bool (by rw [Pj,hno,Bool.and_false]; rfl),hF.same⟩
      ·
        refine Qa ?_
        refine Eb ?_
        refine Ga ?_
        refine Fa ?_
        refine Ca (Va O) ?_
        refine Ca (Sl O O) ?_
        refine Ca (Wb O) ?_
        refine Xa ?_
        refine Ib ⟨_,?_,j+1,rfl,U,(fun i hi hk=>by rcases Nat.lt_or_ge i j with h | h; exact ha i h hk; obtain rfl:i=j:=U; omega),Iw,hF⟩
        omega
    ·
      refine Dc (Cc O ?_)
      refine Ga ?_
      refine Ha ?_
      refine Ha ?_
      refine Fa ?_
      refine Ca (Wb O) ?_
      refine Xa ?_
      refine Ga ?_
      refine Ta ?_
      refine Lc (fun μ σ w=>∃ (i:Nat),μ=xs.length - i∧(i≤xs.length)∧(∀ m (hm:m < i) (hk:m < xs.length),Pj xs[m]=true)∧AllEq σ [(1,.pointer (some ⟨b1,0,none⟩)),(4,.int .i64 ((i:Int)))]∧FR w0 [] [(b1,.cells #[.int .i64 k,.string (bs t),.slice A ks.length c,.slice B xs.length e] 27)] w) _ ⟨0,O,(Nat.zero_le _),(fun i hi=>absurd hi U),Iw,hF⟩ ?_
      clear hF; rintro μ σ w ⟨i,rfl,hi,hb,hs,hF⟩
      refine Cg.slots hs ?_
      clear hs; intro σ
      refine Ha ?_
      refine Ha ?_
      refine Fa ?_
      refine Ca (Va O) ?_
      refine Ca (Ec Pc O) ?_
      refine Tc (Mf isAgg22 O hF.F 0 O O) ?_
      refine Ca (Df underlying22 O) ?_
      refine Ca (Yg O O) ?_
      refine Xa ?_
      refine Ga ?_
      refine Yb O O (fun hc3=>?_) (fun hc3=>?_)
      ·
        refine Qa ?_
        refine Ga ?_
        refine Ha ?_
        refine Ta ?_
        refine Ha ?_
        refine Fa ?_
        refine Ca (Ec Pc O) ?_
        refine Tc (Mf isAgg22 O hF.F 0 O O) ?_
        refine Ca (Va O) ?_
        obtain ⟨ad1,cs1,hA1,hl1,hk1,hx1⟩:=hX.tree_elem (i:=i) U
        have ho1:=hx1.one_
        refine Ja (v:=.pointer (some (ad1.add (i * 4)))) (Pa (i:=(i:Int)) Mg O hA1 O U U) ?_
        refine Ja (v:=.agg (List.toArray cs1)) (Fc (l:=cs1) isAgg27 sizeOf27 O hl1 (hF.cells0 hk1)) ?_
        refine Jb hF (ih _ (List.getElem_mem (l:=xs) (n:=i) U) _ _ _ (hF.rep hx1)) (Cb JU O O) ?_
        clear hF; intro w hF
        refine Ca (Hc O) ?_
        refine Xa ?_
        refine Ga ?_
        refine Ha ?_
        refine Fa ?_
        refine Ca (Jc O) ?_
        refine Ca (Pn O) ?_
        refine Xa ?_
        refine Ga ?_
        refine Mi O O (fun hc4=>?_) (fun hc4=>?_)
        ·
          refine Ha ?_
          refine Fa ?_
          refine Ca (Hc O) ?_
          refine Xa ?_
          refine Ga ?_
          refine Td (v:=.bool false) O O ?_
          exact ⟨congrArg Value.bool (by rw [Pj,BA (List.getElem_mem (l:=xs) (n:=i) U) (by simpa using hc4),Bool.and_false]),hF.same⟩
        ·
          refine Qa ?_
          refine Eb ?_
          refine Ga ?_
          refine Fa ?_
          refine Ca (Va O) ?_
          refine Ca (Sl O O) ?_
          refine Ca (Wb O) ?_
          refine Xa ?_
          refine Ib ⟨_,?_,i+1,rfl,U,(fun m hm hk=>by rcases Nat.lt_or_ge m i with h | h; exact hb m h hk; obtain rfl:m=i:=U; simpa using hc4),Iw,hF⟩
          omega
      ·
        refine Dc (Cc O ?_)
        refine Ga ?_
        refine Ha ?_
        refine Fa ?_
        refine Ca (Hc O) ?_
        refine Xa ?_
        refine Ga ?_
        refine Td (v:=.bool true) O O ?_
        have h1:ks.all (fun k=>decide (k.length≤1024))=true:=by
          rw [List.all_eq_true]; intro k hk; obtain ⟨q,hq,rfl⟩:=List.getElem_of_mem hk; simp only [decide_eq_true_eq]; exact ha q U hq
        exact ⟨congrArg Value.bool (by rw [Pj,h1,decide_eq_true U,CC (fun m hm=>hb m U hm)]; rfl),hF.same⟩
theorem DT (x:Tree):QD x:=Tree.ind OF x
theorem KZ (x:Tree) (most:Int) (h0:0≤most) (h1:most≤1000000) (S:Nat→Prop) (w0:World) (cs:List Value) (hR:Rep S w0 (Vc x) cs):Calls prog 15 #[.agg cs.toArray,.int .i64 most] w0 (De fun v w'=>v=.bool (Vu x most)∧Same [] w0 w'):=by
 have hl:cs.length=4:=hR.length.trans (Dd x)
 have ho:=hR.one_
 refine Ka func15 O ntmps15 Kb (Ee _ _) ?_
 have hF:=FR.start w0 []
 refine Ia ?_
 refine Io (v:=.agg (List.toArray cs)) (cs:=(List.toArray cs)) hF O O ?_
 clear hF; rintro b1 w hb1 hF -
 refine Ca (Hc O) (Bc (Ja (v:=.agg (List.toArray cs)) (Fc (l:=cs) isAgg27 sizeOf27 O hl (hF.cellsAll 0 O)) (Ca (Va O) ?_)))
 refine Jb hF (PY x most 0 S _ cs h0 h1 U U (hF.rep hR)) (Gd IU O O O O) ?_
 clear hF; intro w hF
 refine Ca (Wb O) (Bc (Ca (Va O) (Ca (Rv O O) (Ca (Jc O) ?_))))
 refine Hb (d:=11) O (fun hg0=>?_) (fun hg0=>?_)
 refine Ja (v:=.agg (List.toArray cs)) (Fc (l:=cs) isAgg27 sizeOf27 O hl (hF.cellsAll 0 O)) ?_
 refine Jb hF (DT x S _ cs (hF.rep hR)) (Cb JU O O) ?_
 clear hF; intro w hF
 refine Ca (Ic O O) (Ca (Hc O) (Ea ?_))
 refine Td (v:=.bool _) O O ?_
 refine ⟨congrArg Value.bool ?_,hF.same⟩
 unfold Vu
 first | (rw [decide_eq_true hg0]; rfl) | (rw [decide_eq_false hg0]; rfl)
 refine Da (Da (Ca (Gc O O) (Ca (Hc O) (Ea ?_))))
 refine Td (v:=.bool false) O O ?_
 refine ⟨congrArg Value.bool ?_,hF.same⟩
 unfold Vu
 first | (rw [decide_eq_true hg0]; rfl) | (rw [decide_eq_false hg0]; rfl)
theorem MA (k:Int) (t:Str) (ks:List Str) (xs:List Tree) (ih:∀ x,x∈xs→K9 x):K9 (.node k t ks xs):=by
 intro S w0 cs hR hsz hky
 rw [Oc] at hsz
 rw [Vn] at hky
 have hxn:=Jn xs
 obtain ⟨A,c,B,e,rfl,hk,ht,hK,hX⟩:=hR.tree_inv
 have hXl:=hX.slice_len
 obtain ⟨eK,hrK,hKl,hKc⟩:=hK.slice_open (T7 ks)
 refine Ka func6 O ntmps6 Kb (Sc _) ?_
 have hF:=FR.start w0 []
 refine Ia ?_
 refine Bh hF O ?_
 clear hF; rintro b1 w hb1 hF -
 refine Fg (cs:=#[.int .i64 0,.string (bs []),.slice none 0 0,.slice none 0 0]) hF zeroValue27 O ?_
 clear hF; rintro b2 w hb2 hF -
 refine Ea (Ha ?_)
 refine Qf (fun σ w=>∃ (b4:Nat),∃ (A0:Option Addr),∃ (c0:Nat),∃ (sa:List (Nat × Obj)),(SlB 9 1 A0 ks.length c0 eK sa)∧AllEq σ [(1,.pointer (some ⟨b1,0,none⟩)),(2,.pointer (some ⟨b2,0,none⟩)),(3,.pointer (some ⟨b4,0,none⟩))]∧FR w0 [] ([(b4,.cells #[.int .i64 k,.string (bs t),.slice A0 ks.length c0,.slice none 0 0] 27),(b2,.cells #[.int .i64 0,.string (bs []),.slice none 0 0,.slice none 0 0] 27),(b1,.cells #[.int .i64 k,.string (bs t),.slice A ks.length c,.slice B xs.length e] 27)]++(sa++[])) w) ?_ ?_
 refine Ff (zs:=[10]) (.free 0 (.free 1 (.free 2 (.free 3 (.free 5 (.free 6 (.alt 4 (.alt 7 (.free 8 (.act 9 (.act 10 .nil))) (.act 9 (.act 7 (.free 8 (.act 10 .nil))))) (.act 9 (.act 4 (.act 7 (.free 8 (.act 10 .nil)))))))))))) hF ?_
 clear hF; intro w hF
 refine Db O (Ec Ke O) (Uk O (Hl isAgg3 O C0 1 O O) (Db O (Ec Of O) (Uk O (Tp isAgg9 O C0 1 O O) (Db O (Ec Af O) (Uk O (Mf isAgg25 O C0 1 O O) ?_)))))
 refine Mk ?_ ?_
 refine Ge 0 O hF (Qq underlying25 sizeOf9) ?_
 clear hF; rintro b3 w hb3 hF -
 refine ⟨hF.drop 1,?_⟩
 refine Mk ?_ ?_
 have hS0:SlB 9 1 (some ⟨b3,0,none⟩) 0 0 [] [(b3,.cells #[] 9)]:=⟨by simp,.inr ⟨b3,#[],rfl,rfl,Nat.le_refl _,Nat.zero_le _,by simp,by simp⟩⟩
 replace hF:=hF.toseg 0 rfl
 refine Rc [(b2,.cells #[.int .i64 0,.string (bs []),.slice none 0 0,.slice none 0 0] 27),(b1,.cells #[.int .i64 k,.string (bs t),.slice A ks.length c,.slice B xs.length e] 27)] [] (news:=eK) (len':=ks.length) (ys:=eK) rfl Zm hF hS0 rfl rfl (by rw [hKl]) (fun hk=>by obtain ⟨ad,hA,hc⟩:=hKc hk; exact ⟨ad,hA,Xb (hF.cells0 hc)⟩) (Pl hrK.one_) (by simp only [maxLen]; omega) (Nat.zero_add _) (rfl) U ?_
 clear hF; intro A0 c0 a_0 w hS0_a hF hE hnew
 clear hE hnew
 refine ⟨hF.sub (.cons_cons _ (.cons_cons _ (List.nil_sublist _))),?_⟩
 refine Oa O (v:=.agg #[.int .i64 k,.string (bs t),.slice A0 ks.length c0,.slice none 0 0]) (fun w hC=>by kernel_rfl) ?_
 refine Cm O (v:=fun b=>.pointer (some ⟨b,0,none⟩)) (o:=.cells #[.int .i64 0,.string (bs []),.slice none 0 0,.slice none 0 0] 27) hF (Mx zeroValue27) ?_
 clear hF; rintro b4 w hb4 hF -
 refine ⟨hF.sub (.cons _ (.cons_cons _ (.cons_cons _ (List.nil_sublist _)))),?_⟩
 refine FV O hF sizeOf27 O O Vm.app ?_
 clear hF; rintro w hF -
 refine Mc ?_
 exact Ib ⟨(b4),(A0),(c0),(a_0),(hS0_a),Vp,(((hF.front 2 O).front 2 O).front 2 O)⟩
 refine Cm O (v:=fun b=>.pointer (some ⟨b,0,none⟩)) (o:=.cells #[.int .i64 0,.string (bs []),.slice none 0 0,.slice none 0 0] 27) hF (Mx zeroValue27) ?_
 clear hF; rintro b5 w hb5 hF -
 refine ⟨hF.drop 2,?_⟩
 have hS0:SlB 9 1 (some ⟨b3,0,none⟩) 0 0 [] [(b3,.cells #[] 9)]:=⟨by simp,.inr ⟨b3,#[],rfl,rfl,Nat.le_refl _,Nat.zero_le _,by simp,by simp⟩⟩
 replace hF:=hF.toseg 1 rfl
 refine Rc [(b5,.cells #[.int .i64 0,.string (bs []),.slice none 0 0,.slice none 0 0] 27),(b2,.cells #[.int .i64 0,.string (bs []),.slice none 0 0,.slice none 0 0] 27),(b1,.cells #[.int .i64 k,.string (bs t),.slice A ks.length c,.slice B xs.length e] 27)] [] (news:=eK) (len':=ks.length) (ys:=eK) rfl Zm hF hS0 rfl rfl (by rw [hKl]) (fun hk=>by obtain ⟨ad,hA,hc⟩:=hKc hk; exact ⟨ad,hA,Xb (hF.cells0 hc)⟩) (Pl hrK.one_) (by simp only [maxLen]; omega) (Nat.zero_add _) (rfl) U ?_
 clear hF; intro A1 c1 a_1 w hS1_a hF hE hnew
 clear hE hnew
 refine ⟨hF.sub (.cons _ (.cons_cons _ (.cons_cons _ (List.nil_sublist _)))),?_⟩
 refine Oa O (v:=.agg #[.int .i64 k,.string (bs t),.slice A1 ks.length c1,.slice none 0 0]) (fun w hC=>by kernel_rfl) ?_
 refine FV O hF sizeOf27 O O Vm.app ?_
 clear hF; rintro w hF -
 refine Mc ?_
 exact Ib ⟨(b5),(A1),(c1),(a_1),(hS1_a),Vp,(((hF.front 2 O).front 2 O).front 2 O)⟩
 refine Cm O (v:=fun b=>.pointer (some ⟨b,0,none⟩)) (o:=.cells #[.int .i64 0,.string (bs []),.slice none 0 0,.slice none 0 0] 27) hF (Mx zeroValue27) ?_
 clear hF; rintro b6 w hb6 hF -
 refine ⟨hF.drop 1,?_⟩
 refine Ge 0 O hF (Qq underlying25 sizeOf9) ?_
 clear hF; rintro b7 w hb7 hF -
 refine ⟨hF.drop 2,?_⟩
 have hS0:SlB 9 1 (some ⟨b7,0,none⟩) 0 0 [] [(b7,.cells #[] 9)]:=⟨by simp,.inr ⟨b7,#[],rfl,rfl,Nat.le_refl _,Nat.zero_le _,by simp,by simp⟩⟩
 replace hF:=hF.toseg 0 rfl
 refine Rc [(b6,.cells #[.int .i64 0,.string (bs []),.slice none 0 0,.slice none 0 0] 27),(b2,.cells #[.int .i64 0,.string (bs []),.slice none 0 0,.slice none 0 0] 27),(b1,.cells #[.int .i64 k,.string (bs t),.slice A ks.length c,.slice B xs.length e] 27)] [] (news:=eK) (len':=ks.length) (ys:=eK) rfl Zm hF hS0 rfl rfl (by rw [hKl]) (fun hk=>by obtain ⟨ad,hA,hc⟩:=hKc hk; exact ⟨ad,hA,Xb (hF.cells0 hc)⟩) (Pl hrK.one_) (by simp only [maxLen]; omega) (Nat.zero_add _) (rfl) U ?_
 clear hF; intro A2 c2 a_2 w hS2_a hF hE hnew
 clear hE hnew
 refine ⟨hF.sub (.cons _ (.cons_cons _ (.cons_cons _ (List.nil_sublist _)))),?_⟩
 refine Oa O (v:=.agg #[.int .i64 k,.string (bs t),.slice A2 ks.length c2,.slice none 0 0]) (fun w hC=>by kernel_rfl) ?_
 refine FV O hF sizeOf27 O O Vm.app ?_
 clear hF; rintro w hF -
 refine Mc ?_
 exact Ib ⟨(b6),(A2),(c2),(a_2),(hS2_a),Vp,(((hF.front 2 O).front 2 O).front 2 O)⟩
 clear hF; rintro σ w ⟨b4,A0,c0,sa,hSa,hs,hF⟩
 refine Eg.slots hs ?_
 clear hs; intro σ
 refine Ga (Ha (Ia (Ca (Wb O) (Ea (Ta ?_)))))
 refine Lc (fun μ σ w=>∃ (j:Nat),∃ (A1:Option Addr),∃ (c1:Nat),∃ (sb:List (Nat × Obj)),∃ (cs1:List Value),μ=xs.length - j∧(j≤xs.length)∧(SlB 27 4 A1 j c1 cs1 sb)∧(RX w0 ([b4,b2,b1]++(sa.map (·.1)++sb.map (·.1))) w (Wc (xs.take j)) cs1)∧AllEq σ [(1,.pointer (some ⟨b1,0,none⟩)),(2,.pointer (some ⟨b2,0,none⟩)),(3,.pointer (some ⟨b4,0,none⟩)),(4,.int .i64 ((j:Int)))]∧FR w0 [] ([(b4,.cells #[.int .i64 k,.string (bs t),.slice A0 ks.length c0,.slice A1 j c1] 27),(b2,.cells #[.int .i64 0,.string (bs []),.slice none 0 0,.slice none 0 0] 27),(b1,.cells #[.int .i64 k,.string (bs t),.slice A ks.length c,.slice B xs.length e] 27)]++(sa++(sb++[]))) w) _ ⟨0,none,0,[],[],O,(Nat.zero_le _),(SlB.nil _ _),(RX.nil),Gm,hF⟩ ?_
 clear hF; rintro μ σ w ⟨j,A1,c1,sb,cs1,rfl,hj,hS,hDX,hs,hF⟩
 refine Cg.slots hs ?_
 clear hs; intro σ
 refine Ha (Ia (Ca (Va O) (Ca (Ec Pc O) (Tc (Mf isAgg22 O hF.F 2 O O) (Ca (Df underlying22 O) (Ca (Yg O O) (Ea ?_)))))))
 refine Yb O O (fun hc0=>?_) (fun hc0=>?_)
 refine Qa (Ga (Ha (Ta ?_)))
 refine Uc [11] (.free 0 (.free 1 (.free 2 (.free 3 (.free 4 (.free 5 (.free 6 (.act 7 (.act 8 (.act 9 (.free 10 (.act 11 .nil)))))))))))) hF ?_
 clear hF; intro w hF hE
 replace hDX:=hDX.ext hE
 clear hE
 refine ⟨fun wq=>FR w0 [] [(b4,.cells #[.int .i64 k,.string (bs t),.slice A0 ks.length c0,.slice A1 j c1] 27),(b2,.cells #[.int .i64 0,.string (bs []),.slice none 0 0,.slice none 0 0] 27),(b1,.cells #[.int .i64 k,.string (bs t),.slice A ks.length c,.slice B xs.length e] 27)] wq,hF.sub (.cons_cons _ (.cons_cons _ (.cons_cons _ (List.nil_sublist _)))),?_⟩
 refine Db O (Ec Pc O) (Uk O (Mf isAgg22 O C0 0 O O) (Db O (Ec Pc O) (Uk O (Mf isAgg22 O C0 2 O O) (Db O (Va O) ?_))))
 obtain ⟨ad3,CL,hA3,hl3,hk3,hx3⟩:=hX.tree_elem (i:=j) U
 have ho3:=hx3.one_
 refine Oa O (v:=.pointer (some (ad3.add (j * 4)))) (fun w hC=>Pa (i:=(j:Int)) Mg O hA3 O U U) (Oa O (v:=.agg (List.toArray CL)) (fun w hC=>Fc (l:=CL) isAgg27 sizeOf27 O hl3 (hC.cells0 hk3)) ?_)
 refine Ye O (ih _ (List.getElem_mem (l:=xs) (n:=j) U) _ _ CL (hF.rep hx3) (by have:=Rf (List.getElem_mem (l:=xs) (n:=j) U); omega) (by have:=M2 (List.getElem_mem (l:=xs) (n:=j) U); omega)) (Cb WS O O) ?_
 rintro _ w ⟨ct,rfl,hRt,hE⟩
 have hlt:ct.length=4:=hRt.length.trans (Dd _)
 have hot:=hRt.one_
 have hYX:=RX.made (ids:=[b4,b2,b1]++(sa.map (·.1)++sb.map (·.1))) hF.same.size (fun x hx=>hF.lt_ids (by grind)) hRt
 replace hDX:=(hDX.ext hE).append hYX
 replace hF:=hF.ext hE
 clear hE hYX
 refine ⟨hF.sub (.cons_cons _ (.cons_cons _ (.cons_cons _ (List.nil_sublist _)))),?_⟩
 refine Ge 1 O hF (Qh (l:=ct) underlying22 sizeOf27 zeroValue27 Ua Ua O hlt) ?_
 clear hF; intro b8 w hb8 hF hE
 replace hDX:=hDX.alloc hE hb8
 clear hE
 refine ⟨hF.sub (.cons _ (.cons_cons _ (.cons_cons _ (.cons_cons _ (List.nil_sublist _))))),?_⟩
 refine Rc ([(b8,.cells (List.toArray ct) 27),(b4,.cells #[.int .i64 k,.string (bs t),.slice A0 ks.length c0,.slice A1 j c1] 27),(b2,.cells #[.int .i64 0,.string (bs []),.slice none 0 0,.slice none 0 0] 27),(b1,.cells #[.int .i64 k,.string (bs t),.slice A ks.length c,.slice B xs.length e] 27)]++sa) [] (news:=ct) (len':=j+1) (ys:=cs1++ct) O F0 hF hS O O (by rw [hlt]) (fun _=>⟨_,O,Xb (hF.cellsAll 0 O)⟩) (Pl hot) (by simp only [maxLen]; omega) (O) (O) U ?_
 clear hF; intro A4 c4 i_4 w hS4_i hF hE hnew
 replace hDX:=hDX.step (ids':=[b8,b4,b2,b1]++(sa.map (·.1)++i_4.map (·.1))) hE (by grind) (by grind)
 clear hE hnew
 refine ⟨hF.sub (.cons _ (.cons_cons _ (.cons_cons _ (.cons_cons _ (List.nil_sublist _))))),?_⟩
 refine Db O (Ec Pc O) ?_
 refine Ad O 1 (l:=[.slice (A4) (j+1) (c4)]) (cs':=#[.int .i64 k,.string (bs t),.slice A0 ks.length c0,.slice (A4) (j+1) (c4)]) hF sizeOf22 O (v:=.slice (A4) (j+1) (c4)) O O Ed O Kb O ?_
 clear hF; intro w hF hE
 replace hDX:=hDX.store hE (by grind)
 clear hE
 replace hF:FR w0 [] ([(b8,.cells (List.toArray ct) 27),(b4,.cells #[.int .i64 k,.string (bs t),.slice A0 ks.length c0,.slice (A4) (j+1) (c4)] 27),(b2,.cells #[.int .i64 0,.string (bs []),.slice none 0 0,.slice none 0 0] 27),(b1,.cells #[.int .i64 k,.string (bs t),.slice A ks.length c,.slice B xs.length e] 27)]++(sa++(i_4++[]))) w:=hF
 refine Mc (Eb (Ga (Fa (Ca (Va O) (Ca (Sl O O) (Ca (Wb O) (Xa ?_)))))))
 refine Ib ⟨_,?_,j+1,A4,c4,i_4,cs1++ct,O,U,(by assumption),(by rw [Gq U]; exact hDX.sub (by grind)),Gm,hF.drop 1⟩
 omega
 refine Dc (Cc O ?_)
 refine Ga (Ia (Tc (Wj isAgg27 sizeOf27 O hF.F 0 O O) ?_))
 refine Me 1 (l:=[.int .i64 k,.string (bs t),.slice A0 ks.length c0,.slice A1 j c1]) (cs':=#[.int .i64 k,.string (bs t),.slice A0 ks.length c0,.slice A1 j c1]) hF sizeOf27 O (v:=.agg #[.int .i64 k,.string (bs t),.slice A0 ks.length c0,.slice A1 j c1]) O O Ed O Kb O ?_
 clear hF; intro w hF hE
 replace hDX:=hDX.store hE (by grind)
 clear hE
 replace hF:FR w0 [] ([(b4,.cells #[.int .i64 k,.string (bs t),.slice A0 ks.length c0,.slice A1 j c1] 27),(b2,.cells #[.int .i64 k,.string (bs t),.slice A0 ks.length c0,.slice A1 j c1] 27),(b1,.cells #[.int .i64 k,.string (bs t),.slice A ks.length c,.slice B xs.length e] 27)]++(sa++(sb++[]))) w:=hF
 refine Ea ?_
 refine Ub (Rb (Sa (Bn O (l:=[.int .i64 k,.string (bs t),.slice A0 ks.length c0,.slice A1 j c1]) O isAgg27 sizeOf27 O (hF.cellsAll 1 O)) ?_))
 have ej:j=xs.length:=by omega
 subst ej
 rw [List.take_length] at hDX
 refine ⟨_,O,?_,hF.same⟩
 have hKX:RX w0 [] w (ks.map Wp) eK:=hrK.lits
 exact Rep.tree_mk hk ht (hSa.rep (pre:=[_,_,_]) (post:=sb++[]) hF hKX Ma) (hS.rep (pre:=[_,_,_]++sa) (post:=[]) (by simpa using hF) hDX Ma)
theorem E3 (x:Tree):K9 x:=Tree.ind MA x
end Go.Scarf
namespace Go.Scarf
open Go.RowKit Go.Proofs Go.Proofs.Tryz
section
variable {P:Program} {w0 w w':World} {ids:List Nat} {ds:List D}
theorem Ce {P:Program} {ρ:Operand→Value} {o:Oper} {w w':World} {p:Prop} {_:Decidable p} (h:(execOp ρ o).run P w=.ok (.value (.bool (decide p))) w') (hp:p):(execOp ρ o).run P w=.ok (.value (.bool true)) w':=by rw [h,decide_eq_true hp]
theorem Zc {P:Program} {ρ:Operand→Value} {o:Oper} {w w':World} {p:Prop} {_:Decidable p} (h:(execOp ρ o).run P w=.ok (.value (.bool (decide p))) w') (hp:¬p):(execOp ρ o).run P w=.ok (.value (.bool false)) w':=by rw [h,decide_eq_false hp]
theorem FR.rowX {bs:List (Nat × Obj)} (hF:FR w0 [] bs w) (i:Nat) {b n:Nat} {l:List Value} {T:TypeId} (hi:bs[i]? = some (b,.cells l.toArray T)) (hr:RX w0 ids w ds l) (hb:b∉ids) (hn:ds.length=n) (hm:n≤9223372036854775807) :
    RX w0 ids w [.slice ds] [.slice (some ⟨b,0,none⟩) n n]:=by
  refine .one (Rep.slice_mk hn.symm (Nat.le_refl _) hm fun _=>⟨_,O,l,fun j hj=>⟨?_,?_⟩,hr⟩)
  · exact hF.cellsAll i hi j hj
  · exact ⟨hF.ge hi,hF.lt hi,hb,l.toArray,T,hF.heap hi⟩
theorem RX.tree {k:Int} {t:Str} {ks:List Str} {xs:List Tree} {v u:Value} (hk:-9223372036854775808≤k∧k≤9223372036854775807) (ht:t.length≤9223372036854775807)
    (h3:RX w0 ids w [Hf ks] [v]) (h4:RX w0 ids w [.slice (Wc xs)] [u]):RX w0 ids w [Vc (.node k t ks xs)] [.int .i64 k,.string (bs t),v,u]:=.one (Rep.tree_mk hk ht h3.rep h4.rep)
theorem RX.nils {ids:List Nat}:RX w0 ids w [.slice []] [.slice none 0 0]:=.one (Rep.nil_slice 0 U none)
theorem RX.num (t:Str) (ht:t.length≤9223372036854775807):RX w0 ids w [Vc (.node 3 t [] [])] [.int .i64 3,.string (bs t),.slice none 0 0,.slice none 0 0]:=RX.tree ⟨by omega,by omega⟩ ht RX.nils RX.nils
theorem RX.str (t:Str) (ht:t.length≤9223372036854775807):RX w0 ids w [Vc (.node 4 t [] [])] [.int .i64 4,.string (bs t),.slice none 0 0,.slice none 0 0]:=RX.tree ⟨by omega,by omega⟩ ht RX.nils RX.nils
end
end Go.Scarf
