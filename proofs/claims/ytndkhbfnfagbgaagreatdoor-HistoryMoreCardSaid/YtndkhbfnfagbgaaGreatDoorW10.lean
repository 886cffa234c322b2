/- A part of the proof. -/
import Derived.Test.YtndkhbfnfagbgaaGreatDoorW4
set_option linter.all false
set_option maxHeartbeats 8000000
set_option maxRecDepth 10000
namespace Go.Scarf
open Go.RowKit Go.Proofs Go.Proofs.Tryz
def MapRep(S:Nat->Prop)(w:World)(xs:List Tree)(l:MapL):Prop:=∀i (h:i<l.length),∃cs:List Value,l[i].2=.agg cs.toArray/\∃h2:i<xs.length,Rep S w (Zb xs[i]) cs
theorem MapRep.nil(S:Nat->Prop)(w:World)(xs:List Tree):MapRep S w xs []:=λi h=>absurd h Da
theorem MapRep.snoc{S:Nat->Prop}{w:World}{xs:List Tree}{l:MapL}{k:Str}{cs:List Value}(h:MapRep S w xs l)(hl:l.length<xs.length)(hr:Rep S w (Zb xs[l.length]) cs):MapRep S w xs (l++[(k,.agg cs.toArray)]):=by
  intro i hi;rw[dQ,List.length_singleton]at hi;by_cases he:i<l.length
  ·obtain⟨c, h1, h2, h3⟩ := h i he
   exact⟨c,by rw[List.getElem_append_left he];exact h1,h2,h3⟩
  obtain rfl : i = l.length := by omega
  exact⟨cs,by simp,hl,hr⟩
theorem WM{l:MapL}{ks:List Str}{j:Nat}(h:j<ks.length)(hl:l.map (·.1)=ks.take j)(hn:ks.Nodup):Lg l ks[j]=none:=by
  have hnot:¬ks[j]∈ks.take j:=λhm=>Z2 h hm hn;rw[<-hl]at hnot;unfold Lg;rw[Option.map_eq_none_iff,List.find?_eq_none];intro x hx he;exact hnot (nQ.2 ⟨x,hx,by simpa using he⟩)
theorem RS{l:MapL}{ks:List Str}{j:Nat}{v:Value}(h:j<ks.length)(hl:l.map (·.1)=ks.take j):(l++[(ks[j],v)]).map (·.1)=ks.take (j+1):=by
  rw[jQ,hl,iQ h];rfl
theorem keys_len{l:MapL}{ks:List Str}{j:Nat}(h:j<=ks.length)(hl:l.map (·.1)=ks.take j):l.length=j:=by
  have:=congrArg List.length hl;rw[rQ,List.length_take]at this;omega
theorem Ay(k:Int)(t:Str)(ks:List Str)(xs:List Tree)(hn:ks.Nodup)(hlen:ks.length=xs.length)(S:Nat->Prop)(w0:World)(cs:List Value)(hR:Rep S w0 (Zb (.node k t ks xs)) cs):Calls prog 115 #[.agg cs.toArray] w0 (Td λv w'=>∃(b:Nat)(l:MapL),v=.map (some b)/\w0.heap.size<=b/\w'.heap[b]? = some (Ji l)/\l.map (·.1)=ks/\MapRep S w' xs l/\Same [] w0 w'):=by
 obtain⟨A,c,B,e,rfl,-,-,hK,hX⟩:=hR.tree_inv;have hXl:=hX.slice_len;have hKl:=hK.slice_len;refine Ga func115 O ntmps115 Fb (Ad _) ?_;have hF:=FR.start w0 [];refine Ja (Ve hF O ?_);rintro b1 w hb1 hF -;refine Ca (Ry) (Fc (Ca (Xb Of O) (Yc (Rf xQ O hF.F 0 O O) (Ca (Ye dX O) ?_))));refine Xp (v:=λb=>.map (some b)) hF (JD xZ O) ?_;rintro b2 w hb2 hF -;refine Ca (Ry) (Ea (Ha (Ja (Ca (Xb Of O) (Yc (Rf xQ O hF.F 1 O O) (Ca (Ye dX O) (Ca (Kb O) (Ea (Va ?_)))))))));refine Rc (λμ σ w=>∃(j:Nat),∃(l:MapL),μ=ks.length-j/\(j<=ks.length)/\(l.map (·.1)=ks.take j)/\(MapRep S w0 xs l)/\AllEq σ [(1,V b1),(3,.map (some b2)),(11,.slice A ks.length c),(12,J ((ks.length:Nat))),(13,J ((j:Int)))]/\FR w0 [] [(b2,Ji (l)),(b1,.cells #[J k,I t,.slice A ks.length c,.slice B xs.length e] 27)] w) _ ⟨0,[],O,(Nat.zero_le _),Da,(MapRep.nil _ _ _),Yx,hF⟩ ?_;rintro μ σ w ⟨j,l,rfl,hj,hl,hr,hs,hF⟩;refine Cg.slots hs ?_;clear hs;intro σ;have hll:=keys_len hj hl;refine Ja (Ca (Kl O O) (Ea (Ha ?_)));refine Pc O O (λhc0=>?_) (λhc0=>?_);refine Ta (Ia (Ha (Va (Ja (Ca (Kb O) ?_)))));obtain⟨ad0,hA0,hk0,hx0⟩:=hK.str_elem (i:=j) sX;refine Ka (v:=.pointer (some (ad0.add (j*1)))) (Pa (i:=(j:Int)) Cr O hA0 O sX sX) (Ka (v:=I (ks[j])) (Jb fZ O (hF.cell0 hk0)) (Ca (Sc O) (Ca (Qm O) (Ea (Fa (Ca (Mr) (Ca (Ug O) (Ca (Xb Jc O) (Yc (Rf yQ O hF.F 1 O O) (Ca (Kb O) ?_))))))))));obtain⟨ad1,cs1,hA1,hl1,hk1,hx1⟩:=hX.tree_elem (i:=j) sX;have ho1:=hx1.one_;refine Ka (v:=.pointer (some (ad1.add (j*4)))) (Pa (i:=(j:Int)) Hj O hA1 O sX sX) (Ka (v:=.agg (List.toArray cs1)) (Ya (l:=cs1) aZ oZ O hl1 (hF.cells0 hk1)) ?_);refine Lx 0 (v:=.agg (List.toArray cs1)) hF xZ kX O O O O (WM sX hl hn) ?_;rintro w hF -;have hF:FR w0 [] [(b2,Ji (l++[(ks[j],.agg (List.toArray cs1))])),(b1,.cells #[J k,I t,.slice A ks.length c,.slice B xs.length e] 27)] w:=hF
 refine Db (Ib (Ia (Fa (Ca (Um O O) (Ca (Kb O) (Db ?_))))));refine Yb ⟨_,?_,j+1,l++[(ks[j],.agg (List.toArray cs1))],O,sX,(RS sX hl),(hr.snoc sX (by simpa only[hll]using hx1)),Yx,hF⟩;omega;refine Nc (Kc O ?_);refine Ia (Ja (Ca (Mr) (Ca (Ry) (Ea ?_))));refine Qd (v:=.map (some b2)) O O ?_;refine⟨b2,l,O,by have:=hF.ge (i:=0) O;exact this,hF.heap (i:=0) O,?_,?_,hF.same⟩;rw[hl];exact List.take_of_length_le sX;intro i hi;obtain⟨cs,h1,h2,h3⟩:=hr i hi;exact⟨cs,h1,h2,hF.rep h3⟩
def De:List Str->List Tree->Str->Option Tree
  | k::ks,x::xs,key=>if k=key then some x else De ks xs key
  | _,_,_=>none
def KE(q:Tree->Tree->Bool)(ks:List Str)(xs:List Tree)(ks':List Str)(ys:List Tree):Bool :=
  (ks.zip xs).all λp=>match De ks' ys p.1 with|some y=>q p.2 y|none=>false
theorem MapRep.tail{S:Nat->Prop}{w:World}{x:Tree}{xs:List Tree}{p:Str × Value}{l:MapL}(h:MapRep S w (x::xs) (p::l)):MapRep S w xs l:=by
  intro i hi;obtain⟨cs,h1,h2,h3⟩:=h (i+1) (by simpa using hi);exact⟨cs,by simpa using h1,by simpa using h2,by simpa using h3⟩
theorem Uu{S:Nat->Prop}{w:World}(key:Str):∀{ks:List Str}{xs:List Tree}{l:MapL},l.map (·.1)=ks->MapRep S w xs l ->
    (Lg l key=none/\De ks xs key=none)\/∃(cs:List Value)(y:Tree),Lg l key=some (.agg cs.toArray)/\De ks xs key=some y/\y∈xs/\Rep S w (Zb y) cs
  | ks, xs, [], hk, _ => by
    left;simp only[List.map_nil]at hk;subst hk;exact⟨O,by cases xs <;> rfl⟩
  | ks, [], p :: l, hk, hm => by
    obtain⟨cs,h1,h2,h3⟩:=hm 0 Da;simp at h2
  | ks, x :: xs, p :: l, hk, hm => by
    rw[List.map_cons]at hk;subst hk;by_cases h:p.1=key
    ·right
     obtain⟨cs,h1,h2,h3⟩:=hm 0 Da;refine⟨cs,x,?_,by simp[De,h],by simp,h3⟩;simp only[List.getElem_cons_zero]at h1;simp[Lg,h,h1]
    have e1 : Lg (p :: l) key = Lg l key := by simp[Lg, h]
    have e2:De (p.1::l.map (·.1)) (x::xs) key=De (l.map (·.1)) xs key:=by simp[De,h]
    rw[e1,e2];rcases Uu key rfl hm.tail with h|⟨cs,y,h1,h2,h3,h4⟩
    ·exact .inl h
    exact .inr ⟨cs,y,h1,h2,by simp[h3],h4⟩
def BothC(w0:World)(g:Nat)(xs ys:List Tree)(q:Tree->Tree->Bool):Prop:=∀x,x∈xs->∀y,y∈ys->∀S S' w cs ct,Same [] w0 w->Rep S w (Zb x) cs->Rep S' w (Zb y) ct->Calls prog g #[.agg cs.toArray,.agg ct.toArray] w (Td λv w'=>v=.bool (q x y)/\Same [] w w')
theorem BothC.ext{w0 w:World}{g:Nat}{xs ys:List Tree}{q:Tree->Tree->Bool}(h:BothC w0 g xs ys q)(hs:Same [] w0 w):BothC w g xs ys q:=λx hx y hy S S' w' cs ct hw=>h x hx y hy S S' w' cs ct (hs.trans hw)
def okAt(q:Tree->Tree->Bool)(ks:List Str)(xs:List Tree)(ks':List Str)(ys:List Tree)(i:Nat):Prop:=∀(h:i<ks.length)(h2:i<xs.length),∃y,De ks' ys ks[i]=some y/\q xs[i] y=true
theorem SU{q:Tree->Tree->Bool}{ks ks':List Str}{xs ys:List Tree}(h:∀i,i<ks.length->okAt q ks xs ks' ys i):KE q ks xs ks' ys=true:=by
  unfold KE;rw[List.all_eq_true];intro p hp;obtain⟨i,hi,rfl⟩:=List.getElem_of_mem hp;rw[List.length_zip]at hi;obtain⟨y,h1,h2⟩:=h i sX sX sX;rw[List.getElem_zip];simp only[h1,h2]
theorem O9{q:Tree->Tree->Bool}{ks ks':List Str}{xs ys:List Tree}{i:Nat}(h:i<ks.length)(h2:i<xs.length)(hn:∀y,De ks' ys ks[i]=some y->q xs[i] y=false):KE q ks xs ks' ys=false:=by
  unfold KE;rw[Bool.eq_false_iff];intro ha;have:=List.all_eq_true.1 ha ((ks.zip xs)[i]'(by rw[List.length_zip];omega)) (eQ _);rw[List.getElem_zip]at this;simp only at this;cases hl:De ks' ys ks[i]with
  | none=>rw[hl]at this;cases this
  | some y=>rw[hl]at this;simp only at this;rw[hn y hl]at this;cases this
theorem SJ(q:Tree->Tree->Bool)(ks ks':List Str)(xs ys:List Tree)(m1 m2:Nat)(l1 l2:MapL)(S S':Nat->Prop)(w0:World)(h1:w0.heap[m1]? = some (Ji l1))(h2:w0.heap[m2]? = some (Ji l2))(hk1:l1.map (·.1)=ks)(hk2:l2.map (·.1)=ks')(hm1:MapRep S w0 xs l1)(hm2:MapRep S' w0 ys l2)(hq:BothC w0 113 xs ys q):Calls prog 153 #[.map (some m1),.map (some m2),.func (.func 113) #[] #[]] w0 (Td λv w'=>v=.bool (decide (ks.length=ks'.length)&&KE q ks xs ks' ys)/\Same [] w0 w'):=by
 have e1:l1.length=ks.length:=by rw[<-hk1,rQ]
 have e2:l2.length=ks'.length:=by rw[<-hk2,rQ]
 refine Ga func153 O ntmps153 Fb (Oj _ _ _) ?_;have hF:=FR.start w0 [];refine Ja (Ca (Hc O) (Ea (Ha (Ja (Ca (Mr) (Ka (v:=J (((l1).length:Nat))) (UA xZ O (hF.heap0 h1)) (Ca (Mr) (Ka (v:=J (((l2).length:Nat))) (UA xZ O (hF.heap0 h2)) (Ca (Mz O O) (Db ?_))))))))));refine Ia (Pc O O (λhc0=>?_) (λhc0=>?_));refine Ja (Ca (Hc O) (Ea ?_));refine Qd (v:=.bool false) O O ?_;exact⟨congrArg Value.bool (by rw[decide_eq_false sX];rfl),hF.same⟩;refine Ta (Ia (Ha (Ja (Ca (Mr) ?_))));refine Xp (v:=λb=>V b) (o:=.mapIter (some m1) (l1).length #[] (l1).length) hF (x_rangeM xZ O (hF.heap0 h1)) ?_;rintro b1 w hb1 hF -;refine Ea (Va ?_);refine Rc (λμ σ w=>∃(seen:Array Nat),μ=X8 l1.length seen/\(∀i,i<l1.length->seen.contains i=true->okAt q ks xs ks' ys i)/\AllEq σ [(1,.map (some m2)),(2,.func (.func 113) #[] #[]),(17,V b1)]/\FR w0 [] [(b1,.mapIter (some m1) (l1).length (seen) (l1).length)] w) _ ⟨#[],O,(λi _ h=>by simp at h),I7,hF⟩ ?_;rintro μ σ w ⟨seen,rfl,hs_,hs,hF⟩;refine Cg.slots hs ?_;clear hs;intro σ;refine Ja (o_nextM 0 (b:=m1) (l:=l1) (seen:=seen) hF O O (hF.heap0 h1) (λhall=>?_) (λj w hj hn hF2 hE _=>?_));refine Ca (Fq O O) (Ea (Ha (Kg O ?_)));refine Nc (Kc O ?_);refine Ia (Ja (Ca (Hc O) (Ea ?_)));refine Qd (v:=.bool true) O O ?_;exact⟨congrArg Value.bool (by rw[decide_eq_true sX,SU (λi hi=>hs_ i sX (hall i sX))];rfl),hF.same⟩;clear hF;have hF:FR w0 [] [(b1,.mapIter (some m1) (l1).length ((seen).push j) (l1).length)] w:=hF2;clear hE hF2;refine Ca (Fq O O) (Ea (Ha (Ge O (Ta (Ia (Va (Ja ?_)))))));obtain⟨cx,hcx,hx2,hrx⟩:=hm1 j hj;have hox:=hrx.one_;have hlx:cx.length=4:=hrx.length.trans (Tc _);have hkj:(l1)[j].1=ks[j]'(by rw[<-hk1,rQ];exact hj):=by have:=List.getElem_map (·.1) (l:=l1) (i:=j) (h:=by rw[rQ];exact hj);simp only[hk1]at this;exact this.symm
 refine Ka (v:=.tuple #[I ((l1)[j].1),.agg (List.toArray cx)]) (x_entryM O hj (hF.heap (i:=0) O) (hF.heap0 h1) (hcx)) (Ca (FN O O) (Ca (N4 O O) ?_));refine Od (cs:=#[J 0,I [],aQ,aQ]) hF nX O ?_;rintro b2 w hb2 hF -;refine Ca (Qm O) ?_;refine Zf 0 (l:=cx) (cs':=(List.toArray cx)) hF (by rw[hlx];exact oZ) O (v:=.agg (List.toArray cx)) O O (hox) O (by rw[hlx];exact Nat.le_of_ble_eq_true O) (El (by rw[hlx];rfl)) ?_;rintro w hF -;refine Fc (Ca (Mr) (Ca (Ug O) ?_));rcases Uu (l1)[j].1 hk2 hm2 with ⟨hlk,hlt⟩|⟨cy,y,hlk,hlt,hym,hry⟩
 refine Ka (v:=.tuple #[.agg #[J 0,I [],aQ,aQ],.bool false]) (Gv xZ kX nX O O (hF.heap0 h2) (by rw[hlk];rfl) (by rw[hlk];rfl)) ?_;refine Ca (Ro O) (Ca (N4 O O) (Ca (Fq O O) ?_));refine Kh hF nX oZ O ?_;rintro b3 w hb3 hF -;refine Ca (Hc O) (Fc (Ca (Ae O) (Ca (Zj (b:=false) O) (Ca (Ae O) (Oa (Oa (Oa (Oa (Oa (Ca (Nd O O) ?_))))))))));refine Ea (Ge O (Ja (Ca (Hc O) (Ea ?_))));refine Qd (v:=.bool false) O O ?_;exact⟨congrArg Value.bool (by rw[O9 (i:=j) sX hx2 (λy hy=>by rw[<-hkj,hlt]at hy;cases hy),Bool.and_false]),hF.same⟩;have hoy:=hry.one_;have hly:cy.length=4:=hry.length.trans (Tc _);refine Ka (v:=.tuple #[.agg (List.toArray cy),.bool true]) (Gv xZ kX nX O O (hF.heap0 h2) (by rw[hlk];rfl) (by rw[hlk];rfl)) ?_;refine Ca (Ro O) (Ca (N4 O O) (Ca (Fq O O) ?_));refine Nw (l:=cy) hF nX (by rw[hly];exact oZ) (by rw[hly];rfl) (v:=.agg (List.toArray cy)) O O (hoy) O ?_;rintro b4 w hb4 hF -;refine Ca (Hc O) (Fc (Ca (Ae O) (Ca (Zj (b:=true) O) (Ca (Ae O) (Ca (Mr) (Ka (v:=.agg (List.toArray cx)) (Ya (l:=cx) aZ oZ O hlx (hF.cellsAll 1 O)) (Ka (v:=.agg (List.toArray cy)) (Ya (l:=cy) aZ oZ O hly (hF.cellsAll 0 O)) ?_)))))));refine Gb hF (hq _ (eQ hx2) y hym S S' _ cx cy hF.same (hF.rep hrx) (hF.rep hry)) (Xq O KN O O O) ?_;intro w hF;refine Ca (Zj O) (Ca (Md O O) (Ea ?_));refine Uf O O (λhc2=>?_) (λhc2=>?_);refine Ja (Ca (Hc O) (Ea ?_));refine Qd (v:=.bool false) O O ?_;exact⟨congrArg Value.bool (by rw[O9 (i:=j) sX hx2 (λy1 hy=>by rw[<-hkj,hlt]at hy;injection hy with hy;subst hy;simpa using hc2),Bool.and_false]),hF.same⟩;refine Ta (Ib ?_);refine Yb ⟨_,?_,seen.push j,rfl,(λi hi hc=>by rw[contains_push]at hc;rcases Bool.or_eq_true_iff.1 hc with hc|hc;exact hs_ i hi hc;obtain rfl:=beq_iff_eq.1 hc;exact λh _=>⟨y,by rw[<-hkj];exact hlt,by simpa using hc2⟩),I7,hF.drop 2⟩
 exact U5 hj hn
mutual
def Jp:Tree->Tree->Bool
  | .node k t ks xs,.node k' t' ks' ys=>decide (k=k')&&decide (t=t')&&decide (xs.length=ys.length)&&(if k≠6 then AD xs ys else decide (ks.length=ks'.length)&&UC xs ks ks' ys)
def AD:List Tree->List Tree->Bool
  | x::xs,y::ys=>Jp x y&&AD xs ys
  | _,_=>true
def UC:List Tree->List Str->List Str->List Tree->Bool
  | x::xs,k::ks,ks',ys=>(match De ks' ys k with|some y=>Jp x y|none=>false)&&UC xs ks ks' ys
  | _,_,_,_=>true
end
def Qr(q:Tree->Tree->Bool)(xs ys:List Tree):Bool:=decide (xs.length=ys.length)&&(xs.zip ys).all λp=>q p.1 p.2
theorem Cl:∀xs ys:List Tree,((xs.zip ys).all λp=>Jp p.1 p.2)=AD xs ys
  | [],ys=>by cases ys <;> simp[AD]
  | x::xs,[]=>by simp[AD]
  | x::xs,y::ys=>by rw[List.zip_cons_cons,List.all_cons,Cl xs ys,AD]
theorem Xk:∀(xs:List Tree)(ks ks':List Str)(ys:List Tree),KE Jp ks xs ks' ys=UC xs ks ks' ys
  | [],ks,ks',ys=>by cases ks <;> simp[KE,UC]
  | x::xs,[],ks',ys=>by simp[KE,UC]
  | x :: xs, k :: ks, ks', ys => by
    have:=Xk xs ks ks' ys;unfold KE at this ⊢;rw[List.zip_cons_cons,List.all_cons,this,UC]
    try rfl
theorem RA{q:Tree->Tree->Bool}{xs ys:List Tree}{j:Nat}(h:j<xs.length)(h2:j<ys.length)(ha:((xs.take j).zip (ys.take j)).all (λp=>q p.1 p.2)=true)(hq:q xs[j] ys[j]=true):((xs.take (j+1)).zip (ys.take (j+1))).all (λp=>q p.1 p.2)=true:=by
  rw[iQ h,iQ h2,List.zip_append (by rw[List.length_take,List.length_take];omega),List.all_append,ha];simp[hq]
theorem LL{q:Tree->Tree->Bool}{xs ys:List Tree}{j:Nat}(h:j<xs.length)(h2:j<ys.length)(hq:q xs[j] ys[j]=false):((xs.zip ys).all λp=>q p.1 p.2)=false:=by
  rw[Bool.eq_false_iff];intro ha;have:=List.all_eq_true.1 ha ((xs.zip ys)[j]'(by rw[List.length_zip];omega)) (eQ _);rw[List.getElem_zip]at this;simp only[hq]at this;cases this
theorem MapRep.ext{S:Nat->Prop}{w w':World}{xs:List Tree}{l:MapL}(h:MapRep S w xs l)(hs:Same [] w w'):MapRep S w' xs l:=λi hi=>by
  obtain⟨cs,h1,h2,h3⟩:=h i hi;exact⟨cs,h1,h2,h3.ext hs⟩
theorem Same.heap{w w':World}{b:Nat}{o:Obj}(hs:Same [] w w')(h:w.heap[b]? = some o):w'.heap[b]? = some o:=(hs.block b (Ma h) Da).trans h
theorem BD{q:Tree->Bool}:∀{xs:List Tree},Tt q xs=true->∀x∈xs,Af q x=true
  | [],_,_,h=>absurd h Da
  | y :: ys, h, x, hx => by
    rw[Tt,Bool.and_eq_true]at h;rcases oQ.1 hx with rfl|hx
    ·exact h.1
    exact BD h.2 x hx
theorem Lf{q:Tree->Bool}{k:Int}{t:Str}{ks:List Str}{xs:List Tree}(h:Af q (.node k t ks xs)=true):q (.node k t ks xs)=true/\∀x∈xs,Af q x=true:=by
  rw[Af,Bool.and_eq_true]at h;exact⟨h.1,BD h.2⟩
theorem Mp{t:Str}{ks:List Str}{xs:List Tree}(h:nodeB (.node 6 t ks xs)=true):ks.Nodup/\ks.length=xs.length:=by
  simp only[nodeB,Ms]at h;simp at h;exact⟨h.1.1.1,by omega⟩
def SameC(x:Tree):Prop:=∀y S S' w0 cs ct,Rep S w0 (Zb x) cs->Rep S' w0 (Zb y) ct->Af nodeB x=true->Af nodeB y=true->Calls prog 113 #[.agg cs.toArray,.agg ct.toArray] w0 (Td λv w'=>v=.bool (Jp x y)/\Same [] w0 w')
theorem OI(q:Tree->Tree->Bool)(xs ys:List Tree)(B B':Option Addr)(e e':Nat)(S S':Nat->Prop)(w0:World)(hX:Rep S w0 (.slice (Gd xs)) [.slice B xs.length e])(hY:Rep S' w0 (.slice (Gd ys)) [.slice B' ys.length e'])(hq:BothC w0 113 xs ys q):Calls prog 152 #[.slice B xs.length e,.slice B' ys.length e',.func (.func 113) #[] #[]] w0 (Td λv w'=>v=.bool (Qr q xs ys)/\Same [] w0 w'):=by
 have hXl:=hX.slice_len;have hYl:=hY.slice_len;refine Ga func152 O ntmps152 Fb (Oj _ _ _) ?_;have hF:=FR.start w0 [];refine Ja (Ca (Hc O) (Ea (Ha (Ja (Ca (Pd O) (Ca (Ye fX O) (Ca (Pd O) (Ca (Ye fX O) (Ca (Mz O O) (Db ?_))))))))));refine Ia (Pc O O (λhc0=>?_) (λhc0=>?_));refine Ja (Ca (Hc O) (Ea ?_));refine Qd (v:=.bool false) O O ?_;exact⟨congrArg Value.bool (by unfold Qr;rw[decide_eq_false sX];rfl),hF.same⟩;refine Ta (Ia (Ha (Ja (Ca (Pd O) (Ca (Ye fX O) (Ca (Kb O) (Ea (Va ?_))))))));refine Rc (λμ σ w=>∃(j:Nat),μ=xs.length-j/\(j<=xs.length)/\(((xs.take j).zip (ys.take j)).all (λp=>q p.1 p.2)=true)/\AllEq σ [(1,.slice B' ys.length e'),(2,.func (.func 113) #[] #[]),(15,.slice B xs.length e),(16,J ((xs.length:Nat))),(17,J ((j:Int)))]/\FR w0 [] [] w) _ ⟨0,O,(Nat.zero_le _),Da,Yx,hF⟩ ?_;rintro μ σ w ⟨j,rfl,hj,ha,hs,hF⟩;refine Cg.slots hs ?_;clear hs;intro σ;refine Ja (Ca (Kl O O) (Ea (Ha ?_)));refine Pc O O (λhc1=>?_) (λhc1=>?_);refine Ta (Ia (Ha (Va (Ja (Ca (Kb O) ?_)))));obtain⟨ad0,cs0,hA0,hl0,hk0,hx0⟩:=hX.tree_elem (i:=j) sX;have ho0:=hx0.one_;refine Ka (v:=.pointer (some (ad0.add (j*4)))) (Pa (i:=(j:Int)) Hj O hA0 O sX sX) (Ka (v:=.agg (List.toArray cs0)) (Ya (l:=cs0) aZ oZ O hl0 (hF.cells0 hk0)) ?_);refine Od (cs:=#[J 0,I [],aQ,aQ]) hF nX O ?_;rintro b1 w hb1 hF -;refine Ca (Sc O) ?_;refine Zf 0 (l:=cs0) (cs':=(List.toArray cs0)) hF (by rw[hl0];exact oZ) O (v:=.agg (List.toArray cs0)) O O (ho0) O (by rw[hl0];exact Nat.le_of_ble_eq_true O) (El (by rw[hl0];rfl)) ?_;rintro w hF -;refine Fc (Ca (Pd O) (Ca (Kb O) ?_));obtain⟨ad1,cs1,hA1,hl1,hk1,hx1⟩:=hY.tree_elem (i:=j) sX;have ho1:=hx1.one_;refine Ka (v:=.pointer (some (ad1.add (j*4)))) (Pa (i:=(j:Int)) Hj O hA1 O sX sX) (Ka (v:=.agg (List.toArray cs1)) (Ya (l:=cs1) aZ oZ O hl1 (hF.cells0 hk1)) ?_)
 refine Nw (l:=cs1) hF nX (by rw[hl1];exact oZ) (by rw[hl1];rfl) (v:=.agg (List.toArray cs1)) O O (ho1) O ?_;rintro b2 w hb2 hF -;refine Fc (Ca (Mr) (Ka (v:=.agg (List.toArray cs0)) (Ya (l:=cs0) aZ oZ O hl0 (hF.cellsAll 1 O)) (Ka (v:=.agg (List.toArray cs1)) (Ya (l:=cs1) aZ oZ O hl1 (hF.cellsAll 0 O)) ?_)));refine Gb hF (hq _ (List.getElem_mem (l:=xs) (n:=j) sX) _ (List.getElem_mem (l:=ys) (n:=j) sX) _ _ _ _ _ hF.same (hF.rep hx0) (hF.rep hx1)) (Xq O KN O O O) ?_;intro w hF;refine Ca (Zj O) (Ea ?_);refine Uf O O (λhc2=>?_) (λhc2=>?_);refine Ja (Ca (Hc O) (Ea ?_));refine Qd (v:=.bool false) O O ?_;exact⟨congrArg Value.bool (by unfold Qr;rw[LL (j:=j) sX sX (by simpa using hc2),Bool.and_false]),hF.same⟩;refine Ta (Ib (Ia (Fa (Ca (Um O O) (Ca (Kb O) (Db ?_))))));refine Yb ⟨_,?_,j+1,O,sX,(RA sX sX ha (by simpa using hc2)),Yx,hF.drop 2⟩;omega;refine Nc (Kc O ?_);refine Ia (Ja (Ca (Hc O) (Ea ?_)));refine Qd (v:=.bool true) O O ?_;have eX:xs.take j=xs:=List.take_of_length_le sX;have eY:ys.take j=ys:=List.take_of_length_le sX;rw[eX,eY]at ha;exact⟨congrArg Value.bool (by unfold Qr;rw[ha,decide_eq_true sX];rfl),hF.same⟩
theorem JT(k:Int)(t:Str)(ks:List Str)(xs:List Tree)(ih:∀x,x∈xs->SameC x):SameC (.node k t ks xs):=by
 rintro⟨k',t',ks',ys⟩ S S' w0 cs ct hR hR' hnx hny;have hnx:=Lf hnx;have hny:=Lf hny;obtain⟨A,c,B,e,rfl,-,-,hK,hX⟩:=hR.tree_inv;obtain⟨A',c',B',e',rfl,-,-,hK',hY⟩:=hR'.tree_inv;have hXl:=hX.slice_len;have hYl:=hY.slice_len;refine Ga func113 O ntmps113 Fb (Zc _ _) ?_;have hF:=FR.start w0 [];refine Ja (Ve hF O ?_);rintro b1 w hb1 hF -;refine Ve hF O ?_;rintro b2 w hb2 hF -;refine Ca (Hc O) (Ea (Ha (Va (Ha (Ja (Ca (Xb Wh O) (Yc (Xs bZ O hF.F 1 O O) (Ca (Xb Wh O) (Yc (Xs bZ O hF.F 0 O O) (Ca (Mz O O) (Ca (Hc O) ?_)))))))))));refine Ea (Pc O O (λhc0=>?_) (λhc0=>?_));refine Ta (Ia (Ge O (Ja (Ca (Hc O) (Ea ?_)))));refine Qd (v:=.bool false) O O ⟨congrArg Value.bool ?_,hF.same⟩;rw[Jp];clear hF hXl hYl hR hR' hX hY hK hK' ih hnx hny
 ·first|(simp_all[Qr,Cl,Xk];done)|(simp_all[Qr,Cl,Xk];omega)
 refine Ja (Ca (Xb Vh O) (Yc (Wy fZ O hF.F 1 O O) (Ca (Xb Vh O) (Yc (Wy fZ O hF.F 0 O O) (Ca (yns O O) (Ca (Hc O) (Ea ?_)))))));refine Pc O O (λhc1=>?_) (λhc1=>?_);refine Ta (Ia (Ge O (Ja (Ca (Hc O) (Ea ?_)))));refine Qd (v:=.bool false) O O ⟨congrArg Value.bool ?_,hF.same⟩;rw[Jp];clear hF hXl hYl hR hR' hX hY hK hK' ih hnx hny
 ·first|(simp_all[Qr,Cl,Xk];done)|(simp_all[Qr,Cl,Xk];omega)
 refine Fa (Ca (Xb Jc O) (Yc (Rf yQ O hF.F 1 O O) (Ca (Ye fX O) (Ca (Xb Jc O) (Yc (Rf yQ O hF.F 0 O O) (Ca (Ye fX O) (Ca (Mz O O) (Ca (Hc O) (Ea ?_)))))))));refine Pc O O (λhc2=>?_) (λhc2=>?_);refine Ja (Ca (Hc O) (Ea ?_));refine Qd (v:=.bool false) O O ⟨congrArg Value.bool ?_,hF.same⟩;rw[Jp];clear hF hXl hYl hR hR' hX hY hK hK' ih hnx hny
 ·first|(simp_all[Qr,Cl,Xk];done)|(simp_all[Qr,Cl,Xk];omega)
 refine Ja (Ca (Xb Wh O) (Yc (Xs bZ O hF.F 1 O O) (Ca (Mz O O) (Ca (Hc O) (Ea ?_)))));refine Pc O O (λhc3=>?_) (λhc3=>?_);refine Ja (Ca (Xb Jc O) (Yc (Rf yQ O hF.F 1 O O) (Ca (Xb Jc O) (Yc (Rf yQ O hF.F 0 O O) ?_))));refine Gb hF (OI Jp xs ys B B' e e' S S' _ (hF.rep hX) (hF.rep hY) (λx hx y hy S1 S2 w1 cs1 ct1 _ h1 h2=>ih x hx y S1 S2 w1 cs1 ct1 h1 h2 (hnx.2 x hx) (hny.2 y hy))) (Ic en_152 O O O O) ?_;intro w hF;refine Ca (Hc O) (Ea ?_);refine Qd (v:=.bool _) O O ⟨congrArg Value.bool ?_,hF.same⟩;rw[Jp];clear hF hXl hYl hR hR' hX hY hK hK' ih hnx hny
 ·first|(simp_all[Qr,Cl,Xk];done)|(simp_all[Qr,Cl,Xk];omega)
 refine Ta (Ib (Ia (Ha ?_)));refine If (zs:=.of []) (.free 0 (.free 2 (cQ [1,3,4] (.free 5 .nil)))) hF ?_;intro w hF;refine Hl O (Ch aZ oZ O C0 1 O O) (Hl O (Ch aZ oZ O C0 0 O O) ?_);have k6:k=6:=by simpa using hc3
 refine Qb O (Ay k t ks xs (Mp (k6▸hnx.1)).1 (Mp (k6▸hnx.1)).2 S _ _ (hF.rep hR)) (Ra ME O O) ?_;rintro _ w ⟨m1,l1,rfl,-,hm1,hk1,hr1,hE⟩;have hF:=hF.ext hE;refine⟨hF,?_⟩;have k6':k'=6:=by omega
 refine Qb O (Ay k' t' ks' ys (Mp (k6'▸hny.1)).1 (Mp (k6'▸hny.1)).2 S' _ _ (hF.rep hR')) (Ra ME O O) ?_;rintro _ w ⟨m2,l2,rfl,-,hm2,hk2,hr2,hE⟩;have hF:=hF.ext hE;have hm1:=hE.heap hm1;have hr1:=hr1.ext hE;refine⟨hF,?_⟩;refine Eh hF (SJ Jp ks ks' xs ys m1 m2 l1 l2 S S' _ hm1 hm2 hk1 hk2 hr1 hr2 (λx hx y hy S1 S2 w1 cs1 ct1 _ h1 h2=>ih x hx y S1 S2 w1 cs1 ct1 h1 h2 (hnx.2 x hx) (hny.2 y hy))) O (Ic en_153 O O O O) ?_;intro w hF;refine⟨hF,?_⟩;refine Hb O (Hc O) (Ec (Ia ?_));refine Qd (v:=.bool _) O O ⟨congrArg Value.bool ?_,hF.same⟩;rw[Jp];clear hF hXl hYl hR hR' hX hY hK hK' ih hnx hny
 ·first|(simp_all[Qr,Cl,Xk];done)|(simp_all[Qr,Cl,Xk];omega)
theorem same_c(x:Tree):SameC x:=Tree.ind JT x
def BothI(w0:World)(g:Nat)(xs ys:List Tree)(q:Tree->Tree->Int):Prop:=∀x,x∈xs->∀y,y∈ys->∀S S' w cs ct,Same [] w0 w->Rep S w (Zb x) cs->Rep S' w (Zb y) ct->Calls prog g #[.agg cs.toArray,.agg ct.toArray] w (Td λv w'=>v=J (q x y)/\Same [] w w')
theorem BothI.ext{w0 w:World}{g:Nat}{xs ys:List Tree}{q:Tree->Tree->Int}(h:BothI w0 g xs ys q)(hs:Same [] w0 w):BothI w g xs ys q:=λx hx y hy S S' w' cs ct hw=>h x hx y hy S S' w' cs ct (hs.trans hw)
def M1(x y:Tree):Bool:=Di x&&Di y&&Jp x y
theorem Hm{x:Tree}(h:Di x=true):Af nodeB x=true:=by unfold Di at h;rw[Bool.and_eq_true]at h;exact h.2
theorem JP(x y:Tree)(hsx:Wb x<=1000000000)(hsy:Wb y<=1000000000)(S S':Nat->Prop)(w0:World)(cs ct:List Value)(hR:Rep S w0 (Zb x) cs)(hR':Rep S' w0 (Zb y) ct)(hk:Yz x)(hk':Yz y)(hG:Gl w0):Calls prog 72 #[.agg cs.toArray,.agg ct.toArray] w0 (Td λv w'=>v=.bool (M1 x y)/\Same [] w0 w'):=by
 have hl:cs.length=4:=hR.length.trans (Tc x);have ho:=hR.one_;have hl':ct.length=4:=hR'.length.trans (Tc y);have ho':=hR'.one_;refine Ga func72 O ntmps72 Fb (Zc _ _) ?_;have hF:=FR.start w0 [];refine Ja (Ar (v:=.agg (List.toArray cs)) (cs:=(List.toArray cs)) hF O O ?_);rintro b1 w hb1 hF -;refine Ar (v:=.agg (List.toArray ct)) (cs:=(List.toArray ct)) hF O O ?_;rintro b2 w hb2 hF -;refine Ca (Hc O) (Fc (Ka (v:=.agg (List.toArray cs)) (Ya (l:=cs) aZ oZ O hl (hF.cellsAll 1 O)) ?_));refine Gb hF (S4 x hsx S _ cs (hF.rep hR) hk (hG.ext hF.same)) (Ra HB O O) ?_;intro w hF;refine Ca (Ae O) (Oe (d:=7) O (λhg0=>?_) (λhg0=>?_));refine Ka (v:=.agg (List.toArray ct)) (Ya (l:=ct) aZ oZ O hl' (hF.cellsAll 0 O)) (Gb hF (S4 y hsy S' _ ct (hF.rep hR') hk' (hG.ext hF.same)) (Ra HB O O) ?_);intro w hF;refine Ca (Nd O O) (Ca (Ae O) ?_);refine Oe (d:=11) O (λhg1=>?_) (λhg1=>?_);refine Ka (v:=.agg (List.toArray cs)) (Ya (l:=cs) aZ oZ O hl (hF.cellsAll 1 O)) (Ka (v:=.agg (List.toArray ct)) (Ya (l:=ct) aZ oZ O hl' (hF.cellsAll 0 O)) ?_);refine Gb hF (same_c x y S S' _ cs ct (hF.rep hR) (hF.rep hR') (Hm (by simp_all)) (Hm (by simp_all))) (Za KN O O O) ?_;intro w hF;refine Ca (Nd O O) (Ca (Hc O) (Ea ?_));refine Qd (v:=.bool _) O O ⟨congrArg Value.bool ?_,hF.same⟩;unfold M1;clear hF hR hR';simp_all;refine Oa (Oa (Oa (Ca (Md O O) (Ca (Hc O) (Ea ?_)))));refine Qd (v:=.bool false) O O ⟨congrArg Value.bool ?_,hF.same⟩;unfold M1;clear hF hR hR';simp_all;refine Oa (Oa (Ca (Md O O) (Ca (Ae O) (Oa (Oa (Oa (Ca (Md O O) (Ca (Hc O) (Ea ?_)))))))));refine Qd (v:=.bool false) O O ⟨congrArg Value.bool ?_,hF.same⟩;unfold M1;clear hF hR hR';simp_all
theorem of_c(s:Str)(w0:World):Calls prog 250 #[I s] w0 (Td λv w'=>v=.agg #[J 4,I s,aQ,aQ]/\Same [] w0 w'):=by
 refine Ga func250 O ntmps250 Fb (Ad _) ?_;have hF:=FR.start w0 [];refine Ja (Od (cs:=#[J 0,I [],aQ,aQ]) hF nX O ?_);rintro b1 w hb1 hF -;refine Fc (Ca (Ug O) ?_);refine Ka (w':=w) (v:=.agg #[J 4,I s,aQ,aQ]) Mb (Qf hF oZ O O Mh ?_);rintro w hF -;refine Ea (Cc (Bc (Sa (Ig O (l:=[J 4,I s,aQ,aQ]) O aZ oZ O (hF.cellsAll 0 O)) ?_)));exact⟨O,hF.same⟩
theorem KS(n:Int)(h1:-9223372036854775808<=n)(h2:n<=9223372036854775807)(w0:World)(hG:Gl w0):Calls prog 16 #[J n] w0 (Td λv w'=>v=.agg #[J 3,I (Ip (IG n)),aQ,aQ]/\Same [] w0 w'):=by
 refine Ga func16 O ntmps16 Fb (Ad _) ?_;have hF:=FR.start w0 [];refine Ja (Od (cs:=#[J 0,I [],aQ,aQ]) hF nX O ?_);rintro b1 w hb1 hF -;refine Fc (Ca (Kb O) ?_);refine Gb hF (numOf_c n h1 h2 _ (hG.ext hF.same)) (Ra en_35 O O) ?_;intro w hF;refine Gb hF (LX (IG n) (by have:=Jz (Lib.itoa n);exact fQ this Ua) _ (hG.ext hF.same)) (Ra en_34 O O) ?_;intro w hF;refine Ka (w':=w) (v:=.agg #[J 3,I (Ip (IG n)),aQ,aQ]) Mb (Qf hF oZ O O Mh ?_);rintro w hF -;refine Ea (Cc (Bc (Sa (Ig O (l:=[J 3,I (Ip (IG n)),aQ,aQ]) O aZ oZ O (hF.cellsAll 0 O)) ?_)));exact⟨O,hF.same⟩
end Go.Scarf
