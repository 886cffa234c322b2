/- A part of the proof. -/
import Derived.Test.YthnkjgpjdbdchaaGreatDoorW4
set_option linter.all false
set_option maxHeartbeats 8000000
set_option maxRecDepth 10000
namespace Go.Scarf
open Go.RowKit Go.Proofs Go.Proofs.Tryz
def MapRep(S:Nat->Prop)(w:World)(xs:List Tree)(l:MapL):Prop:=∀i (h:i<l.length),∃cs:List Value,l[i].2=.agg cs.toArray/\∃h2:i<xs.length,Rep S w (Wb xs[i]) cs
theorem MapRep.nil(S:Nat->Prop)(w:World)(xs:List Tree):MapRep S w xs []:=λi h=>absurd h Da
theorem MapRep.snoc{S:Nat->Prop}{w:World}{xs:List Tree}{l:MapL}{k:Str}{cs:List Value}(h:MapRep S w xs l)(hl:l.length<xs.length)(hr:Rep S w (Wb xs[l.length]) cs):MapRep S w xs (l++[(k,.agg cs.toArray)]):=by
  intro i hi;rw[dQ,List.length_singleton]at hi;by_cases he:i<l.length
  ·obtain⟨c, h1, h2, h3⟩ := h i he
   exact⟨c,by rw[List.getElem_append_left he];exact h1,h2,h3⟩
  obtain rfl : i = l.length := by omega
  exact⟨cs,by simp,hl,hr⟩
theorem BP{l:MapL}{ks:List Str}{j:Nat}(h:j<ks.length)(hl:l.map (·.1)=ks.take j)(hn:ks.Nodup):Rg l ks[j]=none:=by
  have hnot:¬ks[j]∈ks.take j:=λhm=>U0 h hm hn;rw[<-hl]at hnot;unfold Rg;rw[Option.map_eq_none_iff,List.find?_eq_none];intro x hx he;exact hnot (nQ.2 ⟨x,hx,by simpa using he⟩)
theorem VS{l:MapL}{ks:List Str}{j:Nat}{v:Value}(h:j<ks.length)(hl:l.map (·.1)=ks.take j):(l++[(ks[j],v)]).map (·.1)=ks.take (j+1):=by
  rw[jQ,hl,iQ h];rfl
theorem keys_len{l:MapL}{ks:List Str}{j:Nat}(h:j<=ks.length)(hl:l.map (·.1)=ks.take j):l.length=j:=by
  have:=congrArg List.length hl;rw[rQ,List.length_take]at this;omega
theorem Dy(k:Int)(t:Str)(ks:List Str)(xs:List Tree)(hn:ks.Nodup)(hlen:ks.length=xs.length)(S:Nat->Prop)(w0:World)(cs:List Value)(hR:Rep S w0 (Wb (.node k t ks xs)) cs):Calls prog 38 #[.agg cs.toArray] w0 (Wd λv w'=>∃(b:Nat)(l:MapL),v=.map (some b)/\w0.heap.size<=b/\w'.heap[b]? = some (Zf l)/\l.map (·.1)=ks/\MapRep S w' xs l/\Same [] w0 w'):=by
 obtain⟨A,c,B,e,rfl,-,-,hK,hX⟩:=hR.tree_inv;have hXl:=hX.slice_len;have hKl:=hK.slice_len;refine Fa func38 O ntmps38 Ib (Zc _) ?_;have hF:=FR.start w0 [];refine Ha (Df hF O ?_);rintro b1 w hb1 hF -;refine Ca (C3) (Jc (Ca (Zb Af O) (Rc (Tf wQ O hF.F 0 O O) (Ca (Mf bX O) ?_))));refine Ir (v:=λb=>.map (some b)) hF (RB jX O) ?_;rintro b2 w hb2 hF -;refine Ca (C3) (Ea (Ja (Ha (Ca (Zb Af O) (Rc (Tf wQ O hF.F 1 O O) (Ca (Mf bX O) (Ca (Qb O) (Ea (Za ?_)))))))));refine Ad (λμ σ w=>∃(j:Nat),∃(l:MapL),μ=ks.length-j/\(j<=ks.length)/\(l.map (·.1)=ks.take j)/\(MapRep S w0 xs l)/\AllEq σ [(1,V b1),(3,.map (some b2)),(11,.slice A ks.length c),(12,J ((ks.length:Nat))),(13,J ((j:Int)))]/\FR w0 [] [(b2,Zf (l)),(b1,.cells #[J k,I t,.slice A ks.length c,.slice B xs.length e] 25)] w) _ ⟨0,[],O,(Nat.zero_le _),Da,(MapRep.nil _ _ _),Xv,hF⟩ ?_;rintro μ σ w ⟨j,l,rfl,hj,hl,hr,hs,hF⟩;refine Cg.slots hs ?_;clear hs;intro σ;have hll:=keys_len hj hl;refine Ha (Ca (An O O) (Ea (Ja ?_)));refine Nc O O (λhc0=>?_) (λhc0=>?_);refine Wa (Ia (Ja (Za (Ha (Ca (Qb O) ?_)))));obtain⟨ad0,hA0,hk0,hx0⟩:=hK.str_elem (i:=j) sX;refine Ka (v:=.pointer (some (ad0.add (j*1)))) (Ta (i:=(j:Int)) Vm O hA0 O sX sX) (Ka (v:=I (ks[j])) (Ob fZ O (hF.cell0 hk0)) (Ca (Uc O) (Ca (Dn O) (Ea (Ga (Ca (Pt) (Ca (Hh O) (Ca (Zb Gc O) (Rc (Tf xQ O hF.F 1 O O) (Ca (Qb O) ?_))))))))));obtain⟨ad1,cs1,hA1,hl1,hk1,hx1⟩:=hX.tree_elem (i:=j) sX;have ho1:=hx1.one_;refine Ka (v:=.pointer (some (ad1.add (j*4)))) (Ta (i:=(j:Int)) Xd O hA1 O sX sX) (Ka (v:=.agg (List.toArray cs1)) (Va (l:=cs1) zQ oZ O hl1 (hF.cells0 hk1)) ?_);refine Px 0 (v:=.agg (List.toArray cs1)) hF jX kX O O O O (BP sX hl hn) ?_;rintro w hF -;have hF:FR w0 [] [(b2,Zf (l++[(ks[j],.agg (List.toArray cs1))])),(b1,.cells #[J k,I t,.slice A ks.length c,.slice B xs.length e] 25)] w:=hF
 refine Gb (Eb (Ia (Ga (Ca (Bm O O) (Ca (Qb O) (Gb ?_))))));refine Dc ⟨_,?_,j+1,l++[(ks[j],.agg (List.toArray cs1))],O,sX,(VS sX hl),(hr.snoc sX (by simpa only[hll]using hx1)),Xv,hF⟩;omega;refine Pc (Oc O ?_);refine Ia (Ha (Ca (Pt) (Ca (C3) (Ea ?_))));refine Pd (v:=.map (some b2)) O O ?_;refine⟨b2,l,O,by have:=hF.ge (i:=0) O;exact this,hF.heap (i:=0) O,?_,?_,hF.same⟩;rw[hl];exact List.take_of_length_le sX;intro i hi;obtain⟨cs,h1,h2,h3⟩:=hr i hi;exact⟨cs,h1,h2,hF.rep h3⟩
def Td:List Str->List Tree->Str->Option Tree
  | k::ks,x::xs,key=>if k=key then some x else Td ks xs key
  | _,_,_=>none
def CG(q:Tree->Tree->Bool)(ks:List Str)(xs:List Tree)(ks':List Str)(ys:List Tree):Bool :=
  (ks.zip xs).all λp=>match Td ks' ys p.1 with|some y=>q p.2 y|none=>false
theorem MapRep.tail{S:Nat->Prop}{w:World}{x:Tree}{xs:List Tree}{p:Str × Value}{l:MapL}(h:MapRep S w (x::xs) (p::l)):MapRep S w xs l:=by
  intro i hi;obtain⟨cs,h1,h2,h3⟩:=h (i+1) (by simpa using hi);exact⟨cs,by simpa using h1,by simpa using h2,by simpa using h3⟩
theorem Uu{S:Nat->Prop}{w:World}(key:Str):∀{ks:List Str}{xs:List Tree}{l:MapL},l.map (·.1)=ks->MapRep S w xs l ->
    (Rg l key=none/\Td ks xs key=none)\/∃(cs:List Value)(y:Tree),Rg l key=some (.agg cs.toArray)/\Td ks xs key=some y/\y∈xs/\Rep S w (Wb y) cs
  | ks, xs, [], hk, _ => by
    left;simp only[List.map_nil]at hk;subst hk;exact⟨O,by cases xs <;> rfl⟩
  | ks, [], p :: l, hk, hm => by
    obtain⟨cs,h1,h2,h3⟩:=hm 0 Da;simp at h2
  | ks, x :: xs, p :: l, hk, hm => by
    rw[List.map_cons]at hk;subst hk;by_cases h:p.1=key
    ·right
     obtain⟨cs,h1,h2,h3⟩:=hm 0 Da;refine⟨cs,x,?_,by simp[Td,h],by simp,h3⟩;simp only[List.getElem_cons_zero]at h1;simp[Rg,h,h1]
    have e1 : Rg (p :: l) key = Rg l key := by simp[Rg, h]
    have e2:Td (p.1::l.map (·.1)) (x::xs) key=Td (l.map (·.1)) xs key:=by simp[Td,h]
    rw[e1,e2];rcases Uu key rfl hm.tail with h|⟨cs,y,h1,h2,h3,h4⟩
    ·exact .inl h
    exact .inr ⟨cs,y,h1,h2,by simp[h3],h4⟩
def BothC(w0:World)(g:Nat)(xs ys:List Tree)(q:Tree->Tree->Bool):Prop:=∀x,x∈xs->∀y,y∈ys->∀S S' w cs ct,Same [] w0 w->Rep S w (Wb x) cs->Rep S' w (Wb y) ct->Calls prog g #[.agg cs.toArray,.agg ct.toArray] w (Wd λv w'=>v=.bool (q x y)/\Same [] w w')
theorem BothC.ext{w0 w:World}{g:Nat}{xs ys:List Tree}{q:Tree->Tree->Bool}(h:BothC w0 g xs ys q)(hs:Same [] w0 w):BothC w g xs ys q:=λx hx y hy S S' w' cs ct hw=>h x hx y hy S S' w' cs ct (hs.trans hw)
def okAt(q:Tree->Tree->Bool)(ks:List Str)(xs:List Tree)(ks':List Str)(ys:List Tree)(i:Nat):Prop:=∀(h:i<ks.length)(h2:i<xs.length),∃y,Td ks' ys ks[i]=some y/\q xs[i] y=true
theorem MS{q:Tree->Tree->Bool}{ks ks':List Str}{xs ys:List Tree}(h:∀i,i<ks.length->okAt q ks xs ks' ys i):CG q ks xs ks' ys=true:=by
  unfold CG;rw[List.all_eq_true];intro p hp;obtain⟨i,hi,rfl⟩:=List.getElem_of_mem hp;rw[List.length_zip]at hi;obtain⟨y,h1,h2⟩:=h i sX sX sX;rw[List.getElem_zip];simp only[h1,h2]
theorem K9{q:Tree->Tree->Bool}{ks ks':List Str}{xs ys:List Tree}{i:Nat}(h:i<ks.length)(h2:i<xs.length)(hn:∀y,Td ks' ys ks[i]=some y->q xs[i] y=false):CG q ks xs ks' ys=false:=by
  unfold CG;rw[Bool.eq_false_iff];intro ha;have:=List.all_eq_true.1 ha ((ks.zip xs)[i]'(by rw[List.length_zip];omega)) (eQ _);rw[List.getElem_zip]at this;simp only at this;cases hl:Td ks' ys ks[i]with
  | none=>rw[hl]at this;cases this
  | some y=>rw[hl]at this;simp only at this;rw[hn y hl]at this;cases this
theorem RJ(q:Tree->Tree->Bool)(ks ks':List Str)(xs ys:List Tree)(m1 m2:Nat)(l1 l2:MapL)(S S':Nat->Prop)(w0:World)(h1:w0.heap[m1]? = some (Zf l1))(h2:w0.heap[m2]? = some (Zf l2))(hk1:l1.map (·.1)=ks)(hk2:l2.map (·.1)=ks')(hm1:MapRep S w0 xs l1)(hm2:MapRep S' w0 ys l2)(hq:BothC w0 31 xs ys q):Calls prog 59 #[.map (some m1),.map (some m2),.func (.func 31) #[] #[]] w0 (Wd λv w'=>v=.bool (decide (ks.length=ks'.length)&&CG q ks xs ks' ys)/\Same [] w0 w'):=by
 have e1:l1.length=ks.length:=by rw[<-hk1,rQ]
 have e2:l2.length=ks'.length:=by rw[<-hk2,rQ]
 refine Fa func59 O ntmps59 Ib (Pk _ _ _) ?_;have hF:=FR.start w0 [];refine Ha (Ca (Ic O) (Ea (Ja (Ha (Ca (Pt) (Ka (v:=J (((l1).length:Nat))) (Y4 jX O (hF.heap0 h1)) (Ca (Pt) (Ka (v:=J (((l2).length:Nat))) (Y4 jX O (hF.heap0 h2)) (Ca (Dz O O) (Gb ?_))))))))));refine Ia (Nc O O (λhc0=>?_) (λhc0=>?_));refine Ha (Ca (Ic O) (Ea ?_));refine Pd (v:=.bool false) O O ?_;exact⟨congrArg Value.bool (by rw[decide_eq_false sX];rfl),hF.same⟩;refine Wa (Ia (Ja (Ha (Ca (Pt) ?_))));refine Ir (v:=λb=>V b) (o:=.mapIter (some m1) (l1).length #[] (l1).length) hF (OX jX O (hF.heap0 h1)) ?_;rintro b1 w hb1 hF -;refine Ea (Za ?_);refine Ad (λμ σ w=>∃(seen:Array Nat),μ=Z9 l1.length seen/\(∀i,i<l1.length->seen.contains i=true->okAt q ks xs ks' ys i)/\AllEq σ [(1,.map (some m2)),(2,.func (.func 31) #[] #[]),(17,V b1)]/\FR w0 [] [(b1,.mapIter (some m1) (l1).length (seen) (l1).length)] w) _ ⟨#[],O,(λi _ h=>by simp at h),WH,hF⟩ ?_;rintro μ σ w ⟨seen,rfl,hs_,hs,hF⟩;refine Cg.slots hs ?_;clear hs;intro σ;refine Ha (o_nextM 0 (b:=m1) (l:=l1) (seen:=seen) hF O O (hF.heap0 h1) (λhall=>?_) (λj w hj hn hF2 hE _=>?_));refine Ca (Ar O O) (Ea (Ja (Bg O ?_)));refine Pc (Oc O ?_);refine Ia (Ha (Ca (Ic O) (Ea ?_)));refine Pd (v:=.bool true) O O ?_;exact⟨congrArg Value.bool (by rw[decide_eq_true sX,MS (λi hi=>hs_ i sX (hall i sX))];rfl),hF.same⟩;clear hF;have hF:FR w0 [] [(b1,.mapIter (some m1) (l1).length ((seen).push j) (l1).length)] w:=hF2;clear hE hF2;refine Ca (Ar O O) (Ea (Ja (Le O (Wa (Ia (Za (Ha ?_)))))));obtain⟨cx,hcx,hx2,hrx⟩:=hm1 j hj;have hox:=hrx.one_;have hlx:cx.length=4:=hrx.length.trans (Tc _);have hkj:(l1)[j].1=ks[j]'(by rw[<-hk1,rQ];exact hj):=by have:=List.getElem_map (·.1) (l:=l1) (i:=j) (h:=by rw[rQ];exact hj);simp only[hk1]at this;exact this.symm
 refine Ka (v:=.tuple #[I ((l1)[j].1),.agg (List.toArray cx)]) (x_entryM O hj (hF.heap (i:=0) O) (hF.heap0 h1) (hcx)) (Ca (AM O O) (Ca (Py O O) ?_));refine Md (cs:=#[J 0,I [],aQ,aQ]) hF mX O ?_;rintro b2 w hb2 hF -;refine Ca (Dn O) ?_;refine Of 0 (l:=cx) (cs':=(List.toArray cx)) hF (by rw[hlx];exact oZ) O (v:=.agg (List.toArray cx)) O O (hox) O (by rw[hlx];exact Nat.le_of_ble_eq_true O) (Pl (by rw[hlx];rfl)) ?_;rintro w hF -;refine Jc (Ca (Pt) (Ca (Hh O) ?_));rcases Uu (l1)[j].1 hk2 hm2 with ⟨hlk,hlt⟩|⟨cy,y,hlk,hlt,hym,hry⟩
 refine Ka (v:=.tuple #[.agg #[J 0,I [],aQ,aQ],.bool false]) (Dv jX kX mX O O (hF.heap0 h2) (by rw[hlk];rfl) (by rw[hlk];rfl)) ?_;refine Ca (Bo O) (Ca (Py O O) (Ca (Ar O O) ?_));refine Kh hF mX oZ O ?_;rintro b3 w hb3 hF -;refine Ca (Ic O) (Jc (Ca (Fe O) (Ca (Jm (b:=false) O) (Ca (Fe O) (Qa (Qa (Qa (Qa (Qa (Ca (Dd O O) ?_))))))))));refine Ea (Le O (Ha (Ca (Ic O) (Ea ?_))));refine Pd (v:=.bool false) O O ?_;exact⟨congrArg Value.bool (by rw[K9 (i:=j) sX hx2 (λy hy=>by rw[<-hkj,hlt]at hy;cases hy),Bool.and_false]),hF.same⟩;have hoy:=hry.one_;have hly:cy.length=4:=hry.length.trans (Tc _);refine Ka (v:=.tuple #[.agg (List.toArray cy),.bool true]) (Dv jX kX mX O O (hF.heap0 h2) (by rw[hlk];rfl) (by rw[hlk];rfl)) ?_;refine Ca (Bo O) (Ca (Py O O) (Ca (Ar O O) ?_));refine Rv (l:=cy) hF mX (by rw[hly];exact oZ) (by rw[hly];rfl) (v:=.agg (List.toArray cy)) O O (hoy) O ?_;rintro b4 w hb4 hF -;refine Ca (Ic O) (Jc (Ca (Fe O) (Ca (Jm (b:=true) O) (Ca (Fe O) (Ca (Pt) (Ka (v:=.agg (List.toArray cx)) (Va (l:=cx) zQ oZ O hlx (hF.cellsAll 1 O)) (Ka (v:=.agg (List.toArray cy)) (Va (l:=cy) zQ oZ O hly (hF.cellsAll 0 O)) ?_)))))));refine Hb hF (hq _ (eQ hx2) y hym S S' _ cx cy hF.same (hF.rep hrx) (hF.rep hry)) (Vr O AW O O O) ?_;intro w hF;refine Ca (Jm O) (Ca (Ae O O) (Ea ?_));refine Ng O O (λhc2=>?_) (λhc2=>?_);refine Ha (Ca (Ic O) (Ea ?_));refine Pd (v:=.bool false) O O ?_;exact⟨congrArg Value.bool (by rw[K9 (i:=j) sX hx2 (λy1 hy=>by rw[<-hkj,hlt]at hy;injection hy with hy;subst hy;simpa using hc2),Bool.and_false]),hF.same⟩;refine Wa (Eb ?_);refine Dc ⟨_,?_,seen.push j,rfl,(λi hi hc=>by rw[contains_push]at hc;rcases Bool.or_eq_true_iff.1 hc with hc|hc;exact hs_ i hi hc;obtain rfl:=beq_iff_eq.1 hc;exact λh _=>⟨y,by rw[<-hkj];exact hlt,by simpa using hc2⟩),WH,hF.drop 2⟩
 exact R5 hj hn
mutual
def Ch:Tree->Tree->Bool
  | .node k t ks xs,.node k' t' ks' ys=>decide (k=k')&&decide (t=t')&&decide (xs.length=ys.length)&&(if k≠6 then C1 xs ys else decide (ks.length=ks'.length)&&W0 xs ks ks' ys)
def C1:List Tree->List Tree->Bool
  | x::xs,y::ys=>Ch x y&&C1 xs ys
  | _,_=>true
def W0:List Tree->List Str->List Str->List Tree->Bool
  | x::xs,k::ks,ks',ys=>(match Td ks' ys k with|some y=>Ch x y|none=>false)&&W0 xs ks ks' ys
  | _,_,_,_=>true
end
def Rs(q:Tree->Tree->Bool)(xs ys:List Tree):Bool:=decide (xs.length=ys.length)&&(xs.zip ys).all λp=>q p.1 p.2
theorem Nl:∀xs ys:List Tree,((xs.zip ys).all λp=>Ch p.1 p.2)=C1 xs ys
  | [],ys=>by cases ys <;> simp[C1]
  | x::xs,[]=>by simp[C1]
  | x::xs,y::ys=>by rw[List.zip_cons_cons,List.all_cons,Nl xs ys,C1]
theorem Wl:∀(xs:List Tree)(ks ks':List Str)(ys:List Tree),CG Ch ks xs ks' ys=W0 xs ks ks' ys
  | [],ks,ks',ys=>by cases ks <;> simp[CG,W0]
  | x::xs,[],ks',ys=>by simp[CG,W0]
  | x :: xs, k :: ks, ks', ys => by
    have:=Wl xs ks ks' ys;unfold CG at this ⊢;rw[List.zip_cons_cons,List.all_cons,this,W0]
    try rfl
theorem WA{q:Tree->Tree->Bool}{xs ys:List Tree}{j:Nat}(h:j<xs.length)(h2:j<ys.length)(ha:((xs.take j).zip (ys.take j)).all (λp=>q p.1 p.2)=true)(hq:q xs[j] ys[j]=true):((xs.take (j+1)).zip (ys.take (j+1))).all (λp=>q p.1 p.2)=true:=by
  rw[iQ h,iQ h2,List.zip_append (by rw[List.length_take,List.length_take];omega),List.all_append,ha];simp[hq]
theorem RN{q:Tree->Tree->Bool}{xs ys:List Tree}{j:Nat}(h:j<xs.length)(h2:j<ys.length)(hq:q xs[j] ys[j]=false):((xs.zip ys).all λp=>q p.1 p.2)=false:=by
  rw[Bool.eq_false_iff];intro ha;have:=List.all_eq_true.1 ha ((xs.zip ys)[j]'(by rw[List.length_zip];omega)) (eQ _);rw[List.getElem_zip]at this;simp only[hq]at this;cases this
theorem MapRep.ext{S:Nat->Prop}{w w':World}{xs:List Tree}{l:MapL}(h:MapRep S w xs l)(hs:Same [] w w'):MapRep S w' xs l:=λi hi=>by
  obtain⟨cs,h1,h2,h3⟩:=h i hi;exact⟨cs,h1,h2,h3.ext hs⟩
theorem Same.heap{w w':World}{b:Nat}{o:Obj}(hs:Same [] w w')(h:w.heap[b]? = some o):w'.heap[b]? = some o:=(hs.block b (Ma h) Da).trans h
theorem NB{q:Tree->Bool}:∀{xs:List Tree},Et q xs=true->∀x∈xs,Zd q x=true
  | [],_,_,h=>absurd h Da
  | y :: ys, h, x, hx => by
    rw[Et,Bool.and_eq_true]at h;rcases oQ.1 hx with rfl|hx
    ·exact h.1
    exact NB h.2 x hx
theorem Se{q:Tree->Bool}{k:Int}{t:Str}{ks:List Str}{xs:List Tree}(h:Zd q (.node k t ks xs)=true):q (.node k t ks xs)=true/\∀x∈xs,Zd q x=true:=by
  rw[Zd,Bool.and_eq_true]at h;exact⟨h.1,NB h.2⟩
theorem Tm{t:Str}{ks:List Str}{xs:List Tree}(h:nodeB (.node 6 t ks xs)=true):ks.Nodup/\ks.length=xs.length:=by
  simp only[nodeB,Yr]at h;simp at h;exact⟨h.1.1.1,by omega⟩
def SameC(x:Tree):Prop:=∀y S S' w0 cs ct,Rep S w0 (Wb x) cs->Rep S' w0 (Wb y) ct->Zd nodeB x=true->Zd nodeB y=true->Calls prog 31 #[.agg cs.toArray,.agg ct.toArray] w0 (Wd λv w'=>v=.bool (Ch x y)/\Same [] w0 w')
theorem IK(q:Tree->Tree->Bool)(xs ys:List Tree)(B B':Option Addr)(e e':Nat)(S S':Nat->Prop)(w0:World)(hX:Rep S w0 (.slice (Cd xs)) [.slice B xs.length e])(hY:Rep S' w0 (.slice (Cd ys)) [.slice B' ys.length e'])(hq:BothC w0 31 xs ys q):Calls prog 58 #[.slice B xs.length e,.slice B' ys.length e',.func (.func 31) #[] #[]] w0 (Wd λv w'=>v=.bool (Rs q xs ys)/\Same [] w0 w'):=by
 have hXl:=hX.slice_len;have hYl:=hY.slice_len;refine Fa func58 O ntmps58 Ib (Pk _ _ _) ?_;have hF:=FR.start w0 [];refine Ha (Ca (Ic O) (Ea (Ja (Ha (Ca (He O) (Ca (Mf cX O) (Ca (He O) (Ca (Mf cX O) (Ca (Dz O O) (Gb ?_))))))))));refine Ia (Nc O O (λhc0=>?_) (λhc0=>?_));refine Ha (Ca (Ic O) (Ea ?_));refine Pd (v:=.bool false) O O ?_;exact⟨congrArg Value.bool (by unfold Rs;rw[decide_eq_false sX];rfl),hF.same⟩;refine Wa (Ia (Ja (Ha (Ca (He O) (Ca (Mf cX O) (Ca (Qb O) (Ea (Za ?_))))))));refine Ad (λμ σ w=>∃(j:Nat),μ=xs.length-j/\(j<=xs.length)/\(((xs.take j).zip (ys.take j)).all (λp=>q p.1 p.2)=true)/\AllEq σ [(1,.slice B' ys.length e'),(2,.func (.func 31) #[] #[]),(15,.slice B xs.length e),(16,J ((xs.length:Nat))),(17,J ((j:Int)))]/\FR w0 [] [] w) _ ⟨0,O,(Nat.zero_le _),Da,Xv,hF⟩ ?_;rintro μ σ w ⟨j,rfl,hj,ha,hs,hF⟩;refine Cg.slots hs ?_;clear hs;intro σ;refine Ha (Ca (An O O) (Ea (Ja ?_)));refine Nc O O (λhc1=>?_) (λhc1=>?_);refine Wa (Ia (Ja (Za (Ha (Ca (Qb O) ?_)))));obtain⟨ad0,cs0,hA0,hl0,hk0,hx0⟩:=hX.tree_elem (i:=j) sX;have ho0:=hx0.one_;refine Ka (v:=.pointer (some (ad0.add (j*4)))) (Ta (i:=(j:Int)) Xd O hA0 O sX sX) (Ka (v:=.agg (List.toArray cs0)) (Va (l:=cs0) zQ oZ O hl0 (hF.cells0 hk0)) ?_);refine Md (cs:=#[J 0,I [],aQ,aQ]) hF mX O ?_;rintro b1 w hb1 hF -;refine Ca (Uc O) ?_;refine Of 0 (l:=cs0) (cs':=(List.toArray cs0)) hF (by rw[hl0];exact oZ) O (v:=.agg (List.toArray cs0)) O O (ho0) O (by rw[hl0];exact Nat.le_of_ble_eq_true O) (Pl (by rw[hl0];rfl)) ?_;rintro w hF -;refine Jc (Ca (He O) (Ca (Qb O) ?_));obtain⟨ad1,cs1,hA1,hl1,hk1,hx1⟩:=hY.tree_elem (i:=j) sX;have ho1:=hx1.one_;refine Ka (v:=.pointer (some (ad1.add (j*4)))) (Ta (i:=(j:Int)) Xd O hA1 O sX sX) (Ka (v:=.agg (List.toArray cs1)) (Va (l:=cs1) zQ oZ O hl1 (hF.cells0 hk1)) ?_)
 refine Rv (l:=cs1) hF mX (by rw[hl1];exact oZ) (by rw[hl1];rfl) (v:=.agg (List.toArray cs1)) O O (ho1) O ?_;rintro b2 w hb2 hF -;refine Jc (Ca (Pt) (Ka (v:=.agg (List.toArray cs0)) (Va (l:=cs0) zQ oZ O hl0 (hF.cellsAll 1 O)) (Ka (v:=.agg (List.toArray cs1)) (Va (l:=cs1) zQ oZ O hl1 (hF.cellsAll 0 O)) ?_)));refine Hb hF (hq _ (List.getElem_mem (l:=xs) (n:=j) sX) _ (List.getElem_mem (l:=ys) (n:=j) sX) _ _ _ _ _ hF.same (hF.rep hx0) (hF.rep hx1)) (Vr O AW O O O) ?_;intro w hF;refine Ca (Jm O) (Ea ?_);refine Ng O O (λhc2=>?_) (λhc2=>?_);refine Ha (Ca (Ic O) (Ea ?_));refine Pd (v:=.bool false) O O ?_;exact⟨congrArg Value.bool (by unfold Rs;rw[RN (j:=j) sX sX (by simpa using hc2),Bool.and_false]),hF.same⟩;refine Wa (Eb (Ia (Ga (Ca (Bm O O) (Ca (Qb O) (Gb ?_))))));refine Dc ⟨_,?_,j+1,O,sX,(WA sX sX ha (by simpa using hc2)),Xv,hF.drop 2⟩;omega;refine Pc (Oc O ?_);refine Ia (Ha (Ca (Ic O) (Ea ?_)));refine Pd (v:=.bool true) O O ?_;have eX:xs.take j=xs:=List.take_of_length_le sX;have eY:ys.take j=ys:=List.take_of_length_le sX;rw[eX,eY]at ha;exact⟨congrArg Value.bool (by unfold Rs;rw[ha,decide_eq_true sX];rfl),hF.same⟩
theorem NS(k:Int)(t:Str)(ks:List Str)(xs:List Tree)(ih:∀x,x∈xs->SameC x):SameC (.node k t ks xs):=by
 rintro⟨k',t',ks',ys⟩ S S' w0 cs ct hR hR' hnx hny;have hnx:=Se hnx;have hny:=Se hny;obtain⟨A,c,B,e,rfl,-,-,hK,hX⟩:=hR.tree_inv;obtain⟨A',c',B',e',rfl,-,-,hK',hY⟩:=hR'.tree_inv;have hXl:=hX.slice_len;have hYl:=hY.slice_len;refine Fa func31 O ntmps31 Ib (Hd _ _) ?_;have hF:=FR.start w0 [];refine Ha (Df hF O ?_);rintro b1 w hb1 hF -;refine Df hF O ?_;rintro b2 w hb2 hF -;refine Ca (Ic O) (Ea (Ja (Za (Ja (Ha (Ca (Zb Mg O) (Rc (Wr aZ O hF.F 1 O O) (Ca (Zb Mg O) (Rc (Wr aZ O hF.F 0 O O) (Ca (Dz O O) (Ca (Ic O) ?_)))))))))));refine Ea (Nc O O (λhc0=>?_) (λhc0=>?_));refine Wa (Ia (Le O (Ha (Ca (Ic O) (Ea ?_)))));refine Pd (v:=.bool false) O O ⟨congrArg Value.bool ?_,hF.same⟩;rw[Ch];clear hF hXl hYl hR hR' hX hY hK hK' ih hnx hny
 ·first|(simp_all[Rs,Nl,Wl];done)|(simp_all[Rs,Nl,Wl];omega)
 refine Ha (Ca (Zb Xh O) (Rc (Iy fZ O hF.F 1 O O) (Ca (Zb Xh O) (Rc (Iy fZ O hF.F 0 O O) (Ca (yns O O) (Ca (Ic O) (Ea ?_)))))));refine Nc O O (λhc1=>?_) (λhc1=>?_);refine Wa (Ia (Le O (Ha (Ca (Ic O) (Ea ?_)))));refine Pd (v:=.bool false) O O ⟨congrArg Value.bool ?_,hF.same⟩;rw[Ch];clear hF hXl hYl hR hR' hX hY hK hK' ih hnx hny
 ·first|(simp_all[Rs,Nl,Wl];done)|(simp_all[Rs,Nl,Wl];omega)
 refine Ga (Ca (Zb Gc O) (Rc (Tf xQ O hF.F 1 O O) (Ca (Mf cX O) (Ca (Zb Gc O) (Rc (Tf xQ O hF.F 0 O O) (Ca (Mf cX O) (Ca (Dz O O) (Ca (Ic O) (Ea ?_)))))))));refine Nc O O (λhc2=>?_) (λhc2=>?_);refine Ha (Ca (Ic O) (Ea ?_));refine Pd (v:=.bool false) O O ⟨congrArg Value.bool ?_,hF.same⟩;rw[Ch];clear hF hXl hYl hR hR' hX hY hK hK' ih hnx hny
 ·first|(simp_all[Rs,Nl,Wl];done)|(simp_all[Rs,Nl,Wl];omega)
 refine Ha (Ca (Zb Mg O) (Rc (Wr aZ O hF.F 1 O O) (Ca (Dz O O) (Ca (Ic O) (Ea ?_)))));refine Nc O O (λhc3=>?_) (λhc3=>?_);refine Ha (Ca (Zb Gc O) (Rc (Tf xQ O hF.F 1 O O) (Ca (Zb Gc O) (Rc (Tf xQ O hF.F 0 O O) ?_))));refine Hb hF (IK Ch xs ys B B' e e' S S' _ (hF.rep hX) (hF.rep hY) (λx hx y hy S1 S2 w1 cs1 ct1 _ h1 h2=>ih x hx y S1 S2 w1 cs1 ct1 h1 h2 (hnx.2 x hx) (hny.2 y hy))) (Kc en_58 O O O O) ?_;intro w hF;refine Ca (Ic O) (Ea ?_);refine Pd (v:=.bool _) O O ⟨congrArg Value.bool ?_,hF.same⟩;rw[Ch];clear hF hXl hYl hR hR' hX hY hK hK' ih hnx hny
 ·first|(simp_all[Rs,Nl,Wl];done)|(simp_all[Rs,Nl,Wl];omega)
 refine Wa (Eb (Ia (Ja ?_)));refine Ig (zs:=.of []) (.free 0 (.free 2 (cQ [1,3,4] (.free 5 .nil)))) hF ?_;intro w hF;refine Vi O (Rf zQ oZ O C0 1 O O) (Vi O (Rf zQ oZ O C0 0 O O) ?_);have k6:k=6:=by simpa using hc3
 refine Jb O (Dy k t ks xs (Tm (k6▸hnx.1)).1 (Tm (k6▸hnx.1)).2 S _ _ (hF.rep hR)) (Ra PR O O) ?_;rintro _ w ⟨m1,l1,rfl,-,hm1,hk1,hr1,hE⟩;have hF:=hF.ext hE;refine⟨hF,?_⟩;have k6':k'=6:=by omega
 refine Jb O (Dy k' t' ks' ys (Tm (k6'▸hny.1)).1 (Tm (k6'▸hny.1)).2 S' _ _ (hF.rep hR')) (Ra PR O O) ?_;rintro _ w ⟨m2,l2,rfl,-,hm2,hk2,hr2,hE⟩;have hF:=hF.ext hE;have hm1:=hE.heap hm1;have hr1:=hr1.ext hE;refine⟨hF,?_⟩;refine Lj hF (RJ Ch ks ks' xs ys m1 m2 l1 l2 S S' _ hm1 hm2 hk1 hk2 hr1 hr2 (λx hx y hy S1 S2 w1 cs1 ct1 _ h1 h2=>ih x hx y S1 S2 w1 cs1 ct1 h1 h2 (hnx.2 x hx) (hny.2 y hy))) O (Kc en_59 O O O O) ?_;intro w hF;refine⟨hF,?_⟩;refine Cb O (Ic O) (Fc (Ia ?_));refine Pd (v:=.bool _) O O ⟨congrArg Value.bool ?_,hF.same⟩;rw[Ch];clear hF hXl hYl hR hR' hX hY hK hK' ih hnx hny
 ·first|(simp_all[Rs,Nl,Wl];done)|(simp_all[Rs,Nl,Wl];omega)
theorem same_c(x:Tree):SameC x:=Tree.ind NS x
def BothI(w0:World)(g:Nat)(xs ys:List Tree)(q:Tree->Tree->Int):Prop:=∀x,x∈xs->∀y,y∈ys->∀S S' w cs ct,Same [] w0 w->Rep S w (Wb x) cs->Rep S' w (Wb y) ct->Calls prog g #[.agg cs.toArray,.agg ct.toArray] w (Wd λv w'=>v=J (q x y)/\Same [] w w')
theorem BothI.ext{w0 w:World}{g:Nat}{xs ys:List Tree}{q:Tree->Tree->Int}(h:BothI w0 g xs ys q)(hs:Same [] w0 w):BothI w g xs ys q:=λx hx y hy S S' w' cs ct hw=>h x hx y hy S S' w' cs ct (hs.trans hw)
def Ix(x y:Tree):Bool:=Ug x&&Ug y&&Ch x y
theorem Ik{x:Tree}(h:Ug x=true):Zd nodeB x=true:=by unfold Ug at h;rw[Bool.and_eq_true]at h;exact h.2
theorem JG(x y:Tree)(hsx:Rb x<=1000000000)(hsy:Rb y<=1000000000)(S S':Nat->Prop)(w0:World)(cs ct:List Value)(hR:Rep S w0 (Wb x) cs)(hR':Rep S' w0 (Wb y) ct)(hk:U2 x)(hk':U2 y)(hG:Gl w0):Calls prog 13 #[.agg cs.toArray,.agg ct.toArray] w0 (Wd λv w'=>v=.bool (Ix x y)/\Same [] w0 w'):=by
 have hl:cs.length=4:=hR.length.trans (Tc x);have ho:=hR.one_;have hl':ct.length=4:=hR'.length.trans (Tc y);have ho':=hR'.one_;refine Fa func13 O ntmps13 Ib (Hd _ _) ?_;have hF:=FR.start w0 [];refine Ha (Qp (v:=.agg (List.toArray cs)) (cs:=(List.toArray cs)) hF O O ?_);rintro b1 w hb1 hF -;refine Qp (v:=.agg (List.toArray ct)) (cs:=(List.toArray ct)) hF O O ?_;rintro b2 w hb2 hF -;refine Ca (Ic O) (Jc (Ka (v:=.agg (List.toArray cs)) (Va (l:=cs) zQ oZ O hl (hF.cellsAll 1 O)) ?_));refine Hb hF (Iz x hsx S _ cs (hF.rep hR) hk (hG.ext hF.same)) (Ra Y7 O O) ?_;intro w hF;refine Ca (Fe O) (Bf (d:=7) O (λhg0=>?_) (λhg0=>?_));refine Ka (v:=.agg (List.toArray ct)) (Va (l:=ct) zQ oZ O hl' (hF.cellsAll 0 O)) (Hb hF (Iz y hsy S' _ ct (hF.rep hR') hk' (hG.ext hF.same)) (Ra Y7 O O) ?_);intro w hF;refine Ca (Dd O O) (Ca (Fe O) ?_);refine Bf (d:=11) O (λhg1=>?_) (λhg1=>?_);refine Ka (v:=.agg (List.toArray cs)) (Va (l:=cs) zQ oZ O hl (hF.cellsAll 1 O)) (Ka (v:=.agg (List.toArray ct)) (Va (l:=ct) zQ oZ O hl' (hF.cellsAll 0 O)) ?_);refine Hb hF (same_c x y S S' _ cs ct (hF.rep hR) (hF.rep hR') (Ik (by simp_all)) (Ik (by simp_all))) (Ya AW O O O) ?_;intro w hF;refine Ca (Dd O O) (Ca (Ic O) (Ea ?_));refine Pd (v:=.bool _) O O ⟨congrArg Value.bool ?_,hF.same⟩;unfold Ix;clear hF hR hR';simp_all;refine Qa (Qa (Qa (Ca (Ae O O) (Ca (Ic O) (Ea ?_)))));refine Pd (v:=.bool false) O O ⟨congrArg Value.bool ?_,hF.same⟩;unfold Ix;clear hF hR hR';simp_all;refine Qa (Qa (Ca (Ae O O) (Ca (Fe O) (Qa (Qa (Qa (Ca (Ae O O) (Ca (Ic O) (Ea ?_)))))))));refine Pd (v:=.bool false) O O ⟨congrArg Value.bool ?_,hF.same⟩;unfold Ix;clear hF hR hR';simp_all
theorem of_c(s:Str)(w0:World):Calls prog 254 #[I s] w0 (Wd λv w'=>v=.agg #[J 4,I s,aQ,aQ]/\Same [] w0 w'):=by
 refine Fa func254 O ntmps254 Ib (Zc _) ?_;have hF:=FR.start w0 [];refine Ha (Md (cs:=#[J 0,I [],aQ,aQ]) hF mX O ?_);rintro b1 w hb1 hF -;refine Jc (Ca (Hh O) ?_);refine Ka (w':=w) (v:=.agg #[J 4,I s,aQ,aQ]) Mb (If hF oZ O O Ih ?_);rintro w hF -;refine Ea (Cc (Bc (Ua (Uf O (l:=[J 4,I s,aQ,aQ]) O zQ oZ O (hF.cellsAll 0 O)) ?_)));exact⟨O,hF.same⟩
theorem num_c(n:Int)(h1:-9223372036854775808<=n)(h2:n<=9223372036854775807)(w0:World)(hG:Gl w0):Calls prog 19 #[J n] w0 (Wd λv w'=>v=.agg #[J 3,I (Ro (CE n)),aQ,aQ]/\Same [] w0 w'):=by
 refine Fa func19 O ntmps19 Ib (Zc _) ?_;have hF:=FR.start w0 [];refine Ha (Md (cs:=#[J 0,I [],aQ,aQ]) hF mX O ?_);rintro b1 w hb1 hF -;refine Jc (Ca (Qb O) ?_);refine Hb hF (CR n h1 h2 _ (hG.ext hF.same)) (Ra en_43 O O) ?_;intro w hF;refine Hb hF (JO (CE n) (by have:=Bs (Lib.itoa n);exact fQ this Oa) _ (hG.ext hF.same)) (Ra ZW O O) ?_;intro w hF;refine Ka (w':=w) (v:=.agg #[J 3,I (Ro (CE n)),aQ,aQ]) Mb (If hF oZ O O Ih ?_);rintro w hF -;refine Ea (Cc (Bc (Ua (Uf O (l:=[J 3,I (Ro (CE n)),aQ,aQ]) O zQ oZ O (hF.cellsAll 0 O)) ?_)));exact⟨O,hF.same⟩
end Go.Scarf
