/- A part of the proof. -/
import Derived.Test.YthnkjgpjdbdchaaGreatDoorW4
set_option linter.all false
set_option maxHeartbeats 8000000
set_option maxRecDepth 10000
namespace Go.Scarf
open Go.RowKit Go.Proofs Go.Proofs.Tryz
def MapRep(S:Nat->Prop)(w:World)(xs:List Tree)(l:MapL):Prop:=∀i (h:i<l.length),∃cs:List Value,l[i].2=.agg cs.toArray/\∃h2:i<xs.length,Rep S w (Ub xs[i]) cs
theorem MapRep.nil(S:Nat->Prop)(w:World)(xs:List Tree):MapRep S w xs []:=λi h=>absurd h Da
theorem MapRep.snoc{S:Nat->Prop}{w:World}{xs:List Tree}{l:MapL}{k:Str}{cs:List Value}(h:MapRep S w xs l)(hl:l.length<xs.length)(hr:Rep S w (Ub xs[l.length]) cs):MapRep S w xs (l++[(k,.agg cs.toArray)]):=by
  intro i hi;rw[dQ,List.length_singleton]at hi;by_cases he:i<l.length
  ·obtain⟨c, h1, h2, h3⟩ := h i he
   exact⟨c,by rw[List.getElem_append_left he];exact h1,h2,h3⟩
  obtain rfl : i = l.length := by omega
  exact⟨cs,by simp,hl,hr⟩
theorem PN{l:MapL}{ks:List Str}{j:Nat}(h:j<ks.length)(hl:l.map (·.1)=ks.take j)(hn:ks.Nodup):Bh l ks[j]=none:=by
  have hnot:¬ks[j]∈ks.take j:=λhm=>W1 h hm hn;rw[<-hl]at hnot;unfold Bh;rw[Option.map_eq_none_iff,List.find?_eq_none];intro x hx he;exact hnot (nQ.2 ⟨x,hx,by simpa using he⟩)
theorem NW{l:MapL}{ks:List Str}{j:Nat}{v:Value}(h:j<ks.length)(hl:l.map (·.1)=ks.take j):(l++[(ks[j],v)]).map (·.1)=ks.take (j+1):=by
  rw[jQ,hl,iQ h];rfl
theorem AY{l:MapL}{ks:List Str}{j:Nat}(h:j<=ks.length)(hl:l.map (·.1)=ks.take j):l.length=j:=by
  have:=congrArg List.length hl;rw[rQ,List.length_take]at this;omega
theorem Ty(k:Int)(t:Str)(ks:List Str)(xs:List Tree)(hn:ks.Nodup)(hlen:ks.length=xs.length)(S:Nat->Prop)(w0:World)(cs:List Value)(hR:Rep S w0 (Ub (.node k t ks xs)) cs):Calls prog 38 #[.agg cs.toArray] w0 (Be λv w'=>∃(b:Nat)(l:MapL),v=.map (some b)/\w0.heap.size<=b/\w'.heap[b]? = some (Rg l)/\l.map (·.1)=ks/\MapRep S w' xs l/\Same [] w0 w'):=by
 obtain⟨A,c,B,e,rfl,-,-,hK,hX⟩:=hR.tree_inv;have hXl:=hX.slice_len;have hKl:=hK.slice_len;refine Ga func38 O ntmps38 Ib (Id _) ?_;have hF:=FR.start w0 [];refine Ia (Bf hF O ?_);rintro b1 w hb1 hF -;refine Ca (C4) (Lc (Ca (Bc Ff O) (Sc (Xf wQ O hF.F 0 O O) (Ca (Tf cX O) ?_))));refine Us (v:=λb=>.map (some b)) hF (RF jX O) ?_;rintro b2 w hb2 hF -;refine Ca (C4) (Ea (Ja (Ia (Ca (Bc Ff O) (Sc (Xf wQ O hF.F 1 O O) (Ca (Tf cX O) (Ca (Vb O) (Ea (Za ?_)))))))));refine Fd (λμ σ w=>∃(j:Nat),∃(l:MapL),μ=ks.length-j/\(j<=ks.length)/\(l.map (·.1)=ks.take j)/\(MapRep S w0 xs l)/\AllEq σ [(1,V b1),(3,.map (some b2)),(11,.slice A ks.length c),(12,J ((ks.length:Nat))),(13,J ((j:Int)))]/\FR w0 [] [(b2,Rg (l)),(b1,.cells #[J k,I t,.slice A ks.length c,.slice B xs.length e] 25)] w) _ ⟨0,[],O,(Nat.zero_le _),Da,(MapRep.nil _ _ _),Jw,hF⟩ ?_;rintro μ σ w ⟨j,l,rfl,hj,hl,hr,hs,hF⟩;refine Cg.slots hs ?_;clear hs;intro σ;have hll:=AY hj hl;refine Ia (Ca (Hn O O) (Ea (Ja ?_)));refine Rc O O (λhc0=>?_) (λhc0=>?_);refine Va (Ha (Ja (Za (Ia (Ca (Vb O) ?_)))));obtain⟨ad0,hA0,hk0,hx0⟩:=hK.str_elem (i:=j) tX;refine Ma (v:=.pointer (some (ad0.add (j*1)))) (Ta (i:=(j:Int)) Zm O hA0 O tX tX) (Ma (v:=I (ks[j])) (Pb fZ O (hF.cell0 hk0)) (Ca (Yc O) (Ca (Cn O) (Ea (Fa (Ca (Zt) (Ca (Dh O) (Ca (Bc Gc O) (Sc (Xf xQ O hF.F 1 O O) (Ca (Vb O) ?_))))))))));obtain⟨ad1,cs1,hA1,hl1,hk1,hx1⟩:=hX.tree_elem (i:=j) tX;have ho1:=hx1.one_;refine Ma (v:=.pointer (some (ad1.add (j*4)))) (Ta (i:=(j:Int)) Ae O hA1 O tX tX) (Ma (v:=.agg (List.toArray cs1)) (Ya (l:=cs1) zQ oZ O hl1 (hF.cells0 hk1)) ?_);refine Sx 0 (v:=.agg (List.toArray cs1)) hF jX kX O O O O (PN tX hl hn) ?_;rintro w hF -;have hF:FR w0 [] [(b2,Rg (l++[(ks[j],.agg (List.toArray cs1))])),(b1,.cells #[J k,I t,.slice A ks.length c,.slice B xs.length e] 25)] w:=hF
 refine Gb (Fb (Ha (Fa (Ca (Bo O O) (Ca (Vb O) (Gb ?_))))));refine Cc ⟨_,?_,j+1,l++[(ks[j],.agg (List.toArray cs1))],O,tX,(NW tX hl),(hr.snoc tX (by simpa only[hll]using hx1)),Jw,hF⟩;omega;refine Wc (Vc O ?_);refine Ha (Ia (Ca (Zt) (Ca (C4) (Ea ?_))));refine Rd (v:=.map (some b2)) O O ?_;refine⟨b2,l,O,by have:=hF.ge (i:=0) O;exact this,hF.heap (i:=0) O,?_,?_,hF.same⟩;rw[hl];exact List.take_of_length_le tX;intro i hi;obtain⟨cs,h1,h2,h3⟩:=hr i hi;exact⟨cs,h1,h2,hF.rep h3⟩
def Jd:List Str->List Tree->Str->Option Tree
  | k::ks,x::xs,key=>if k=key then some x else Jd ks xs key
  | _,_,_=>none
def EH(q:Tree->Tree->Bool)(ks:List Str)(xs:List Tree)(ks':List Str)(ys:List Tree):Bool :=
  (ks.zip xs).all λp=>match Jd ks' ys p.1 with|some y=>q p.2 y|none=>false
theorem MapRep.tail{S:Nat->Prop}{w:World}{x:Tree}{xs:List Tree}{p:Str × Value}{l:MapL}(h:MapRep S w (x::xs) (p::l)):MapRep S w xs l:=by
  intro i hi;obtain⟨cs,h1,h2,h3⟩:=h (i+1) (by simpa using hi);exact⟨cs,by simpa using h1,by simpa using h2,by simpa using h3⟩
theorem Iw{S:Nat->Prop}{w:World}(key:Str):∀{ks:List Str}{xs:List Tree}{l:MapL},l.map (·.1)=ks->MapRep S w xs l ->
    (Bh l key=none/\Jd ks xs key=none)\/∃(cs:List Value)(y:Tree),Bh l key=some (.agg cs.toArray)/\Jd ks xs key=some y/\y∈xs/\Rep S w (Ub y) cs
  | ks, xs, [], hk, _ => by
    left;simp only[List.map_nil]at hk;subst hk;exact⟨O,by cases xs <;> rfl⟩
  | ks, [], p :: l, hk, hm => by
    obtain⟨cs,h1,h2,h3⟩:=hm 0 Da;simp at h2
  | ks, x :: xs, p :: l, hk, hm => by
    rw[List.map_cons]at hk;subst hk;by_cases h:p.1=key
    ·right
     obtain⟨cs,h1,h2,h3⟩:=hm 0 Da;refine⟨cs,x,?_,by simp[Jd,h],by simp,h3⟩;simp only[List.getElem_cons_zero]at h1;simp[Bh,h,h1]
    have e1 : Bh (p :: l) key = Bh l key := by simp[Bh, h]
    have e2:Jd (p.1::l.map (·.1)) (x::xs) key=Jd (l.map (·.1)) xs key:=by simp[Jd,h]
    rw[e1,e2];rcases Iw key rfl hm.tail with h|⟨cs,y,h1,h2,h3,h4⟩
    ·exact .inl h
    exact .inr ⟨cs,y,h1,h2,by simp[h3],h4⟩
def BothC(w0:World)(g:Nat)(xs ys:List Tree)(q:Tree->Tree->Bool):Prop:=∀x,x∈xs->∀y,y∈ys->∀S S' w cs ct,Same [] w0 w->Rep S w (Ub x) cs->Rep S' w (Ub y) ct->Calls prog g #[.agg cs.toArray,.agg ct.toArray] w (Be λv w'=>v=.bool (q x y)/\Same [] w w')
theorem BothC.ext{w0 w:World}{g:Nat}{xs ys:List Tree}{q:Tree->Tree->Bool}(h:BothC w0 g xs ys q)(hs:Same [] w0 w):BothC w g xs ys q:=λx hx y hy S S' w' cs ct hw=>h x hx y hy S S' w' cs ct (hs.trans hw)
def okAt(q:Tree->Tree->Bool)(ks:List Str)(xs:List Tree)(ks':List Str)(ys:List Tree)(i:Nat):Prop:=∀(h:i<ks.length)(h2:i<xs.length),∃y,Jd ks' ys ks[i]=some y/\q xs[i] y=true
theorem UV{q:Tree->Tree->Bool}{ks ks':List Str}{xs ys:List Tree}(h:∀i,i<ks.length->okAt q ks xs ks' ys i):EH q ks xs ks' ys=true:=by
  unfold EH;rw[List.all_eq_true];intro p hp;obtain⟨i,hi,rfl⟩:=List.getElem_of_mem hp;rw[List.length_zip]at hi;obtain⟨y,h1,h2⟩:=h i tX tX tX;rw[List.getElem_zip];simp only[h1,h2]
theorem LB{q:Tree->Tree->Bool}{ks ks':List Str}{xs ys:List Tree}{i:Nat}(h:i<ks.length)(h2:i<xs.length)(hn:∀y,Jd ks' ys ks[i]=some y->q xs[i] y=false):EH q ks xs ks' ys=false:=by
  unfold EH;rw[Bool.eq_false_iff];intro ha;have:=List.all_eq_true.1 ha ((ks.zip xs)[i]'(by rw[List.length_zip];omega)) (eQ _);rw[List.getElem_zip]at this;simp only at this;cases hl:Jd ks' ys ks[i]with
  | none=>rw[hl]at this;cases this
  | some y=>rw[hl]at this;simp only at this;rw[hn y hl]at this;cases this
theorem IM(q:Tree->Tree->Bool)(ks ks':List Str)(xs ys:List Tree)(m1 m2:Nat)(l1 l2:MapL)(S S':Nat->Prop)(w0:World)(h1:w0.heap[m1]? = some (Rg l1))(h2:w0.heap[m2]? = some (Rg l2))(hk1:l1.map (·.1)=ks)(hk2:l2.map (·.1)=ks')(hm1:MapRep S w0 xs l1)(hm2:MapRep S' w0 ys l2)(hq:BothC w0 31 xs ys q):Calls prog 59 #[.map (some m1),.map (some m2),.func (.func 31) #[] #[]] w0 (Be λv w'=>v=.bool (decide (ks.length=ks'.length)&&EH q ks xs ks' ys)/\Same [] w0 w'):=by
 have e1:l1.length=ks.length:=by rw[<-hk1,rQ]
 have e2:l2.length=ks'.length:=by rw[<-hk2,rQ]
 refine Ga func59 O ntmps59 Ib (Qm _ _ _) ?_;have hF:=FR.start w0 [];refine Ia (Ca (Jc O) (Ea (Ja (Ia (Ca (Zt) (Ma (v:=J (((l1).length:Nat))) (K4 jX O (hF.heap0 h1)) (Ca (Zt) (Ma (v:=J (((l2).length:Nat))) (K4 jX O (hF.heap0 h2)) (Ca (Bw O O) (Gb ?_))))))))));refine Ha (Rc O O (λhc0=>?_) (λhc0=>?_));refine Ia (Ca (Jc O) (Ea ?_));refine Rd (v:=.bool false) O O ?_;exact⟨congrArg Value.bool (by rw[decide_eq_false tX];rfl),hF.same⟩;refine Va (Ha (Ja (Ia (Ca (Zt) ?_))));refine Us (v:=λb=>V b) (o:=.mapIter (some m1) (l1).length #[] (l1).length) hF (GZ jX O (hF.heap0 h1)) ?_;rintro b1 w hb1 hF -;refine Ea (Za ?_);refine Fd (λμ σ w=>∃(seen:Array Nat),μ=J9 l1.length seen/\(∀i,i<l1.length->seen.contains i=true->okAt q ks xs ks' ys i)/\AllEq σ [(1,.map (some m2)),(2,.func (.func 31) #[] #[]),(17,V b1)]/\FR w0 [] [(b1,.mapIter (some m1) (l1).length (seen) (l1).length)] w) _ ⟨#[],O,(λi _ h=>by simp at h),GM,hF⟩ ?_;rintro μ σ w ⟨seen,rfl,hs_,hs,hF⟩;refine Cg.slots hs ?_;clear hs;intro σ;refine Ia (o_nextM 0 (b:=m1) (l:=l1) (seen:=seen) hF O O (hF.heap0 h1) (λhall=>?_) (λj w hj hn hF2 hE _=>?_));refine Ca (Tq O O) (Ea (Ja (Bg O ?_)));refine Wc (Vc O ?_);refine Ha (Ia (Ca (Jc O) (Ea ?_)));refine Rd (v:=.bool true) O O ?_;exact⟨congrArg Value.bool (by rw[decide_eq_true tX,UV (λi hi=>hs_ i tX (hall i tX))];rfl),hF.same⟩;clear hF;have hF:FR w0 [] [(b1,.mapIter (some m1) (l1).length ((seen).push j) (l1).length)] w:=hF2;clear hE hF2;refine Ca (Tq O O) (Ea (Ja (Se O (Va (Ha (Za (Ia ?_)))))));obtain⟨cx,hcx,hx2,hrx⟩:=hm1 j hj;have hox:=hrx.one_;have hlx:cx.length=4:=hrx.length.trans (Xc _);have hkj:(l1)[j].1=ks[j]'(by rw[<-hk1,rQ];exact hj):=by have:=List.getElem_map (·.1) (l:=l1) (i:=j) (h:=by rw[rQ];exact hj);simp only[hk1]at this;exact this.symm
 refine Ma (v:=.tuple #[I ((l1)[j].1),.agg (List.toArray cx)]) (x_entryM O hj (hF.heap (i:=0) O) (hF.heap0 h1) (hcx)) (Ca (ZP O O) (Ca (Zz O O) ?_));refine Td (cs:=#[J 0,I [],aQ,aQ]) hF mX O ?_;rintro b2 w hb2 hF -;refine Ca (Cn O) ?_;refine Mg 0 (l:=cx) (cs':=(List.toArray cx)) hF (by rw[hlx];exact oZ) O (v:=.agg (List.toArray cx)) O O (hox) O (by rw[hlx];exact Nat.le_of_ble_eq_true O) (Am (by rw[hlx];rfl)) ?_;rintro w hF -;refine Lc (Ca (Zt) (Ca (Dh O) ?_));rcases Iw (l1)[j].1 hk2 hm2 with ⟨hlk,hlt⟩|⟨cy,y,hlk,hlt,hym,hry⟩
 refine Ma (v:=.tuple #[.agg #[J 0,I [],aQ,aQ],.bool false]) (Wv jX kX mX O O (hF.heap0 h2) (by rw[hlk];rfl) (by rw[hlk];rfl)) ?_;refine Ca (So O) (Ca (Zz O O) (Ca (Tq O O) ?_));refine Qg hF mX oZ O ?_;rintro b3 w hb3 hF -;refine Ca (Jc O) (Lc (Ca (Hd O) (Ca (Fk (b:=false) O) (Ca (Hd O) (Ka (Ka (Ka (Ka (Ka (Ca (Kc O O) ?_))))))))));refine Ea (Se O (Ia (Ca (Jc O) (Ea ?_))));refine Rd (v:=.bool false) O O ?_;exact⟨congrArg Value.bool (by rw[LB (i:=j) tX hx2 (λy hy=>by rw[<-hkj,hlt]at hy;cases hy),Bool.and_false]),hF.same⟩;have hoy:=hry.one_;have hly:cy.length=4:=hry.length.trans (Xc _);refine Ma (v:=.tuple #[.agg (List.toArray cy),.bool true]) (Wv jX kX mX O O (hF.heap0 h2) (by rw[hlk];rfl) (by rw[hlk];rfl)) ?_;refine Ca (So O) (Ca (Zz O O) (Ca (Tq O O) ?_));refine Kw (l:=cy) hF mX (by rw[hly];exact oZ) (by rw[hly];rfl) (v:=.agg (List.toArray cy)) O O (hoy) O ?_;rintro b4 w hb4 hF -;refine Ca (Jc O) (Lc (Ca (Hd O) (Ca (Fk (b:=true) O) (Ca (Hd O) (Ca (Zt) (Ma (v:=.agg (List.toArray cx)) (Ya (l:=cx) zQ oZ O hlx (hF.cellsAll 1 O)) (Ma (v:=.agg (List.toArray cy)) (Ya (l:=cy) zQ oZ O hly (hF.cellsAll 0 O)) ?_)))))));refine Hb hF (hq _ (eQ hx2) y hym S S' _ cx cy hF.same (hF.rep hrx) (hF.rep hry)) (Ps O MX O O O) ?_;intro w hF;refine Ca (Fk O) (Ca (Ld O O) (Ea ?_));refine Jg O O (λhc2=>?_) (λhc2=>?_);refine Ia (Ca (Jc O) (Ea ?_));refine Rd (v:=.bool false) O O ?_;exact⟨congrArg Value.bool (by rw[LB (i:=j) tX hx2 (λy1 hy=>by rw[<-hkj,hlt]at hy;injection hy with hy;subst hy;simpa using hc2),Bool.and_false]),hF.same⟩;refine Va (Fb ?_);refine Cc ⟨_,?_,seen.push j,rfl,(λi hi hc=>by rw[contains_push]at hc;rcases Bool.or_eq_true_iff.1 hc with hc|hc;exact hs_ i hi hc;obtain rfl:=beq_iff_eq.1 hc;exact λh _=>⟨y,by rw[<-hkj];exact hlt,by simpa using hc2⟩),GM,hF.drop 2⟩
 exact N7 hj hn
mutual
def Gf:Tree->Tree->Bool
  | .node k t ks xs,.node k' t' ks' ys=>decide (k=k')&&decide (t=t')&&decide (xs.length=ys.length)&&(if k≠6 then D2 xs ys else decide (ks.length=ks'.length)&&I1 xs ks ks' ys)
def D2:List Tree->List Tree->Bool
  | x::xs,y::ys=>Gf x y&&D2 xs ys
  | _,_=>true
def I1:List Tree->List Str->List Str->List Tree->Bool
  | x::xs,k::ks,ks',ys=>(match Jd ks' ys k with|some y=>Gf x y|none=>false)&&I1 xs ks ks' ys
  | _,_,_,_=>true
end
def Ot(q:Tree->Tree->Bool)(xs ys:List Tree):Bool:=decide (xs.length=ys.length)&&(xs.zip ys).all λp=>q p.1 p.2
theorem Yl:∀xs ys:List Tree,((xs.zip ys).all λp=>Gf p.1 p.2)=D2 xs ys
  | [],ys=>by cases ys <;> simp[D2]
  | x::xs,[]=>by simp[D2]
  | x::xs,y::ys=>by rw[List.zip_cons_cons,List.all_cons,Yl xs ys,D2]
theorem Ul:∀(xs:List Tree)(ks ks':List Str)(ys:List Tree),EH Gf ks xs ks' ys=I1 xs ks ks' ys
  | [],ks,ks',ys=>by cases ks <;> simp[EH,I1]
  | x::xs,[],ks',ys=>by simp[EH,I1]
  | x :: xs, k :: ks, ks', ys => by
    have:=Ul xs ks ks' ys;unfold EH at this ⊢;rw[List.zip_cons_cons,List.all_cons,this,I1]
    try rfl
theorem UC{q:Tree->Tree->Bool}{xs ys:List Tree}{j:Nat}(h:j<xs.length)(h2:j<ys.length)(ha:((xs.take j).zip (ys.take j)).all (λp=>q p.1 p.2)=true)(hq:q xs[j] ys[j]=true):((xs.take (j+1)).zip (ys.take (j+1))).all (λp=>q p.1 p.2)=true:=by
  rw[iQ h,iQ h2,List.zip_append (by rw[List.length_take,List.length_take];omega),List.all_append,ha];simp[hq]
theorem ER{q:Tree->Tree->Bool}{xs ys:List Tree}{j:Nat}(h:j<xs.length)(h2:j<ys.length)(hq:q xs[j] ys[j]=false):((xs.zip ys).all λp=>q p.1 p.2)=false:=by
  rw[Bool.eq_false_iff];intro ha;have:=List.all_eq_true.1 ha ((xs.zip ys)[j]'(by rw[List.length_zip];omega)) (eQ _);rw[List.getElem_zip]at this;simp only[hq]at this;cases this
theorem MapRep.ext{S:Nat->Prop}{w w':World}{xs:List Tree}{l:MapL}(h:MapRep S w xs l)(hs:Same [] w w'):MapRep S w' xs l:=λi hi=>by
  obtain⟨cs,h1,h2,h3⟩:=h i hi;exact⟨cs,h1,h2,h3.ext hs⟩
theorem Same.heap{w w':World}{b:Nat}{o:Obj}(hs:Same [] w w')(h:w.heap[b]? = some o):w'.heap[b]? = some o:=(hs.block b (Oa h) Da).trans h
theorem HD{q:Tree->Bool}:∀{xs:List Tree},Bt q xs=true->∀x∈xs,Pd q x=true
  | [],_,_,h=>absurd h Da
  | y :: ys, h, x, hx => by
    rw[Bt,Bool.and_eq_true]at h;rcases oQ.1 hx with rfl|hx
    ·exact h.1
    exact HD h.2 x hx
theorem De{q:Tree->Bool}{k:Int}{t:Str}{ks:List Str}{xs:List Tree}(h:Pd q (.node k t ks xs)=true):q (.node k t ks xs)=true/\∀x∈xs,Pd q x=true:=by
  rw[Pd,Bool.and_eq_true]at h;exact⟨h.1,HD h.2⟩
theorem Lo{t:Str}{ks:List Str}{xs:List Tree}(h:nodeB (.node 6 t ks xs)=true):ks.Nodup/\ks.length=xs.length:=by
  simp only[nodeB,Tp]at h;simp at h;exact⟨h.1.1.1,by omega⟩
def TZ(x:Tree):Prop:=∀y S S' w0 cs ct,Rep S w0 (Ub x) cs->Rep S' w0 (Ub y) ct->Pd nodeB x=true->Pd nodeB y=true->Calls prog 31 #[.agg cs.toArray,.agg ct.toArray] w0 (Be λv w'=>v=.bool (Gf x y)/\Same [] w0 w')
theorem QL(q:Tree->Tree->Bool)(xs ys:List Tree)(B B':Option Addr)(e e':Nat)(S S':Nat->Prop)(w0:World)(hX:Rep S w0 (.slice (Gd xs)) [.slice B xs.length e])(hY:Rep S' w0 (.slice (Gd ys)) [.slice B' ys.length e'])(hq:BothC w0 31 xs ys q):Calls prog 58 #[.slice B xs.length e,.slice B' ys.length e',.func (.func 31) #[] #[]] w0 (Be λv w'=>v=.bool (Ot q xs ys)/\Same [] w0 w'):=by
 have hXl:=hX.slice_len;have hYl:=hY.slice_len;refine Ga func58 O ntmps58 Ib (Qm _ _ _) ?_;have hF:=FR.start w0 [];refine Ia (Ca (Jc O) (Ea (Ja (Ia (Ca (Je O) (Ca (Tf dX O) (Ca (Je O) (Ca (Tf dX O) (Ca (Bw O O) (Gb ?_))))))))));refine Ha (Rc O O (λhc0=>?_) (λhc0=>?_));refine Ia (Ca (Jc O) (Ea ?_));refine Rd (v:=.bool false) O O ?_;exact⟨congrArg Value.bool (by unfold Ot;rw[decide_eq_false tX];rfl),hF.same⟩;refine Va (Ha (Ja (Ia (Ca (Je O) (Ca (Tf dX O) (Ca (Vb O) (Ea (Za ?_))))))));refine Fd (λμ σ w=>∃(j:Nat),μ=xs.length-j/\(j<=xs.length)/\(((xs.take j).zip (ys.take j)).all (λp=>q p.1 p.2)=true)/\AllEq σ [(1,.slice B' ys.length e'),(2,.func (.func 31) #[] #[]),(15,.slice B xs.length e),(16,J ((xs.length:Nat))),(17,J ((j:Int)))]/\FR w0 [] [] w) _ ⟨0,O,(Nat.zero_le _),Da,Jw,hF⟩ ?_;rintro μ σ w ⟨j,rfl,hj,ha,hs,hF⟩;refine Cg.slots hs ?_;clear hs;intro σ;refine Ia (Ca (Hn O O) (Ea (Ja ?_)));refine Rc O O (λhc1=>?_) (λhc1=>?_);refine Va (Ha (Ja (Za (Ia (Ca (Vb O) ?_)))));obtain⟨ad0,cs0,hA0,hl0,hk0,hx0⟩:=hX.tree_elem (i:=j) tX;have ho0:=hx0.one_;refine Ma (v:=.pointer (some (ad0.add (j*4)))) (Ta (i:=(j:Int)) Ae O hA0 O tX tX) (Ma (v:=.agg (List.toArray cs0)) (Ya (l:=cs0) zQ oZ O hl0 (hF.cells0 hk0)) ?_);refine Td (cs:=#[J 0,I [],aQ,aQ]) hF mX O ?_;rintro b1 w hb1 hF -;refine Ca (Yc O) ?_;refine Mg 0 (l:=cs0) (cs':=(List.toArray cs0)) hF (by rw[hl0];exact oZ) O (v:=.agg (List.toArray cs0)) O O (ho0) O (by rw[hl0];exact Nat.le_of_ble_eq_true O) (Am (by rw[hl0];rfl)) ?_;rintro w hF -;refine Lc (Ca (Je O) (Ca (Vb O) ?_));obtain⟨ad1,cs1,hA1,hl1,hk1,hx1⟩:=hY.tree_elem (i:=j) tX;have ho1:=hx1.one_;refine Ma (v:=.pointer (some (ad1.add (j*4)))) (Ta (i:=(j:Int)) Ae O hA1 O tX tX) (Ma (v:=.agg (List.toArray cs1)) (Ya (l:=cs1) zQ oZ O hl1 (hF.cells0 hk1)) ?_)
 refine Kw (l:=cs1) hF mX (by rw[hl1];exact oZ) (by rw[hl1];rfl) (v:=.agg (List.toArray cs1)) O O (ho1) O ?_;rintro b2 w hb2 hF -;refine Lc (Ca (Zt) (Ma (v:=.agg (List.toArray cs0)) (Ya (l:=cs0) zQ oZ O hl0 (hF.cellsAll 1 O)) (Ma (v:=.agg (List.toArray cs1)) (Ya (l:=cs1) zQ oZ O hl1 (hF.cellsAll 0 O)) ?_)));refine Hb hF (hq _ (List.getElem_mem (l:=xs) (n:=j) tX) _ (List.getElem_mem (l:=ys) (n:=j) tX) _ _ _ _ _ hF.same (hF.rep hx0) (hF.rep hx1)) (Ps O MX O O O) ?_;intro w hF;refine Ca (Fk O) (Ea ?_);refine Jg O O (λhc2=>?_) (λhc2=>?_);refine Ia (Ca (Jc O) (Ea ?_));refine Rd (v:=.bool false) O O ?_;exact⟨congrArg Value.bool (by unfold Ot;rw[ER (j:=j) tX tX (by simpa using hc2),Bool.and_false]),hF.same⟩;refine Va (Fb (Ha (Fa (Ca (Bo O O) (Ca (Vb O) (Gb ?_))))));refine Cc ⟨_,?_,j+1,O,tX,(UC tX tX ha (by simpa using hc2)),Jw,hF.drop 2⟩;omega;refine Wc (Vc O ?_);refine Ha (Ia (Ca (Jc O) (Ea ?_)));refine Rd (v:=.bool true) O O ?_;have eX:xs.take j=xs:=List.take_of_length_le tX;have eY:ys.take j=ys:=List.take_of_length_le tX;rw[eX,eY]at ha;exact⟨congrArg Value.bool (by unfold Ot;rw[ha,decide_eq_true tX];rfl),hF.same⟩
theorem LV(k:Int)(t:Str)(ks:List Str)(xs:List Tree)(ih:∀x,x∈xs->TZ x):TZ (.node k t ks xs):=by
 rintro⟨k',t',ks',ys⟩ S S' w0 cs ct hR hR' hnx hny;have hnx:=De hnx;have hny:=De hny;obtain⟨A,c,B,e,rfl,-,-,hK,hX⟩:=hR.tree_inv;obtain⟨A',c',B',e',rfl,-,-,hK',hY⟩:=hR'.tree_inv;have hXl:=hX.slice_len;have hYl:=hY.slice_len;refine Ga func31 O ntmps31 Ib (Md _ _) ?_;have hF:=FR.start w0 [];refine Ia (Bf hF O ?_);rintro b1 w hb1 hF -;refine Bf hF O ?_;rintro b2 w hb2 hF -;refine Ca (Jc O) (Ea (Ja (Za (Ja (Ia (Ca (Bc Wf O) (Sc (Zq aZ O hF.F 1 O O) (Ca (Bc Wf O) (Sc (Zq aZ O hF.F 0 O O) (Ca (Bw O O) (Ca (Jc O) ?_)))))))))));refine Ea (Rc O O (λhc0=>?_) (λhc0=>?_));refine Va (Ha (Se O (Ia (Ca (Jc O) (Ea ?_)))));refine Rd (v:=.bool false) O O ⟨congrArg Value.bool ?_,hF.same⟩;rw[Gf];clear hF hXl hYl hR hR' hX hY hK hK' ih hnx hny
 ·first|(simp_all[Ot,Yl,Ul];done)|(simp_all[Ot,Yl,Ul];omega)
 refine Ia (Ca (Bc Fi O) (Sc (Zy fZ O hF.F 1 O O) (Ca (Bc Fi O) (Sc (Zy fZ O hF.F 0 O O) (Ca (yns O O) (Ca (Jc O) (Ea ?_)))))));refine Rc O O (λhc1=>?_) (λhc1=>?_);refine Va (Ha (Se O (Ia (Ca (Jc O) (Ea ?_)))));refine Rd (v:=.bool false) O O ⟨congrArg Value.bool ?_,hF.same⟩;rw[Gf];clear hF hXl hYl hR hR' hX hY hK hK' ih hnx hny
 ·first|(simp_all[Ot,Yl,Ul];done)|(simp_all[Ot,Yl,Ul];omega)
 refine Fa (Ca (Bc Gc O) (Sc (Xf xQ O hF.F 1 O O) (Ca (Tf dX O) (Ca (Bc Gc O) (Sc (Xf xQ O hF.F 0 O O) (Ca (Tf dX O) (Ca (Bw O O) (Ca (Jc O) (Ea ?_)))))))));refine Rc O O (λhc2=>?_) (λhc2=>?_);refine Ia (Ca (Jc O) (Ea ?_));refine Rd (v:=.bool false) O O ⟨congrArg Value.bool ?_,hF.same⟩;rw[Gf];clear hF hXl hYl hR hR' hX hY hK hK' ih hnx hny
 ·first|(simp_all[Ot,Yl,Ul];done)|(simp_all[Ot,Yl,Ul];omega)
 refine Ia (Ca (Bc Wf O) (Sc (Zq aZ O hF.F 1 O O) (Ca (Bw O O) (Ca (Jc O) (Ea ?_)))));refine Rc O O (λhc3=>?_) (λhc3=>?_);refine Ia (Ca (Bc Gc O) (Sc (Xf xQ O hF.F 1 O O) (Ca (Bc Gc O) (Sc (Xf xQ O hF.F 0 O O) ?_))));refine Hb hF (QL Gf xs ys B B' e e' S S' _ (hF.rep hX) (hF.rep hY) (λx hx y hy S1 S2 w1 cs1 ct1 _ h1 h2=>ih x hx y S1 S2 w1 cs1 ct1 h1 h2 (hnx.2 x hx) (hny.2 y hy))) (Oc en_58 O O O O) ?_;intro w hF;refine Ca (Jc O) (Ea ?_);refine Rd (v:=.bool _) O O ⟨congrArg Value.bool ?_,hF.same⟩;rw[Gf];clear hF hXl hYl hR hR' hX hY hK hK' ih hnx hny
 ·first|(simp_all[Ot,Yl,Ul];done)|(simp_all[Ot,Yl,Ul];omega)
 refine Va (Fb (Ha (Ja ?_)));refine Xg (zs:=.of []) (.free 0 (.free 2 (cQ [1,3,4] (.free 5 .nil)))) hF ?_;intro w hF;refine Wj O (Of zQ oZ O C0 1 O O) (Wj O (Of zQ oZ O C0 0 O O) ?_);have k6:k=6:=by simpa using hc3
 refine Qb O (Ty k t ks xs (Lo (k6▸hnx.1)).1 (Lo (k6▸hnx.1)).2 S _ _ (hF.rep hR)) (Ra TR O O) ?_;rintro _ w ⟨m1,l1,rfl,-,hm1,hk1,hr1,hE⟩;have hF:=hF.ext hE;refine⟨hF,?_⟩;have k6':k'=6:=by omega
 refine Qb O (Ty k' t' ks' ys (Lo (k6'▸hny.1)).1 (Lo (k6'▸hny.1)).2 S' _ _ (hF.rep hR')) (Ra TR O O) ?_;rintro _ w ⟨m2,l2,rfl,-,hm2,hk2,hr2,hE⟩;have hF:=hF.ext hE;have hm1:=hE.heap hm1;have hr1:=hr1.ext hE;refine⟨hF,?_⟩;refine Sj hF (IM Gf ks ks' xs ys m1 m2 l1 l2 S S' _ hm1 hm2 hk1 hk2 hr1 hr2 (λx hx y hy S1 S2 w1 cs1 ct1 _ h1 h2=>ih x hx y S1 S2 w1 cs1 ct1 h1 h2 (hnx.2 x hx) (hny.2 y hy))) O (Oc en_59 O O O O) ?_;intro w hF;refine⟨hF,?_⟩;refine Cb O (Jc O) (Hc (Ha ?_));refine Rd (v:=.bool _) O O ⟨congrArg Value.bool ?_,hF.same⟩;rw[Gf];clear hF hXl hYl hR hR' hX hY hK hK' ih hnx hny
 ·first|(simp_all[Ot,Yl,Ul];done)|(simp_all[Ot,Yl,Ul];omega)
theorem same_c(x:Tree):TZ x:=Tree.ind LV x
def BothI(w0:World)(g:Nat)(xs ys:List Tree)(q:Tree->Tree->Int):Prop:=∀x,x∈xs->∀y,y∈ys->∀S S' w cs ct,Same [] w0 w->Rep S w (Ub x) cs->Rep S' w (Ub y) ct->Calls prog g #[.agg cs.toArray,.agg ct.toArray] w (Be λv w'=>v=J (q x y)/\Same [] w w')
theorem BothI.ext{w0 w:World}{g:Nat}{xs ys:List Tree}{q:Tree->Tree->Int}(h:BothI w0 g xs ys q)(hs:Same [] w0 w):BothI w g xs ys q:=λx hx y hy S S' w' cs ct hw=>h x hx y hy S S' w' cs ct (hs.trans hw)
def Cr(x y:Tree):Bool:=Mf x&&Mf y&&Gf x y
theorem Uk{x:Tree}(h:Mf x=true):Pd nodeB x=true:=by unfold Mf at h;rw[Bool.and_eq_true]at h;exact h.2
theorem Kv(x y:Tree)(hsx:Mb x<=1000000000)(hsy:Mb y<=1000000000)(S S':Nat->Prop)(w0:World)(cs ct:List Value)(hR:Rep S w0 (Ub x) cs)(hR':Rep S' w0 (Ub y) ct)(hk:H3 x)(hk':H3 y)(hG:Gl w0):Calls prog 13 #[.agg cs.toArray,.agg ct.toArray] w0 (Be λv w'=>v=.bool (Cr x y)/\Same [] w0 w'):=by
 have hl:cs.length=4:=hR.length.trans (Xc x);have ho:=hR.one_;have hl':ct.length=4:=hR'.length.trans (Xc y);have ho':=hR'.one_;refine Ga func13 O ntmps13 Ib (Md _ _) ?_;have hF:=FR.start w0 [];refine Ia (Js (v:=.agg (List.toArray cs)) (cs:=(List.toArray cs)) hF O O ?_);rintro b1 w hb1 hF -;refine Js (v:=.agg (List.toArray ct)) (cs:=(List.toArray ct)) hF O O ?_;rintro b2 w hb2 hF -;refine Ca (Jc O) (Lc (Ma (v:=.agg (List.toArray cs)) (Ya (l:=cs) zQ oZ O hl (hF.cellsAll 1 O)) ?_));refine Hb hF (Uz x hsx S _ cs (hF.rep hR) hk (hG.ext hF.same)) (Ra NA O O) ?_;intro w hF;refine Ca (Hd O) (Zd (d:=7) O (λhg0=>?_) (λhg0=>?_));refine Ma (v:=.agg (List.toArray ct)) (Ya (l:=ct) zQ oZ O hl' (hF.cellsAll 0 O)) (Hb hF (Uz y hsy S' _ ct (hF.rep hR') hk' (hG.ext hF.same)) (Ra NA O O) ?_);intro w hF;refine Ca (Kc O O) (Ca (Hd O) ?_);refine Zd (d:=11) O (λhg1=>?_) (λhg1=>?_);refine Ma (v:=.agg (List.toArray cs)) (Ya (l:=cs) zQ oZ O hl (hF.cellsAll 1 O)) (Ma (v:=.agg (List.toArray ct)) (Ya (l:=ct) zQ oZ O hl' (hF.cellsAll 0 O)) ?_);refine Hb hF (same_c x y S S' _ cs ct (hF.rep hR) (hF.rep hR') (Uk (by simp_all)) (Uk (by simp_all))) (Xa MX O O O) ?_;intro w hF;refine Ca (Kc O O) (Ca (Jc O) (Ea ?_));refine Rd (v:=.bool _) O O ⟨congrArg Value.bool ?_,hF.same⟩;unfold Cr;clear hF hR hR';simp_all;refine Ka (Ka (Ka (Ca (Ld O O) (Ca (Jc O) (Ea ?_)))));refine Rd (v:=.bool false) O O ⟨congrArg Value.bool ?_,hF.same⟩;unfold Cr;clear hF hR hR';simp_all;refine Ka (Ka (Ca (Ld O O) (Ca (Hd O) (Ka (Ka (Ka (Ca (Ld O O) (Ca (Jc O) (Ea ?_)))))))));refine Rd (v:=.bool false) O O ⟨congrArg Value.bool ?_,hF.same⟩;unfold Cr;clear hF hR hR';simp_all
theorem of_c(s:Str)(w0:World):Calls prog 254 #[I s] w0 (Be λv w'=>v=.agg #[J 4,I s,aQ,aQ]/\Same [] w0 w'):=by
 refine Ga func254 O ntmps254 Ib (Id _) ?_;have hF:=FR.start w0 [];refine Ia (Td (cs:=#[J 0,I [],aQ,aQ]) hF mX O ?_);rintro b1 w hb1 hF -;refine Lc (Ca (Dh O) ?_);refine Ma (w':=w) (v:=.agg #[J 4,I s,aQ,aQ]) Ob (Pf hF oZ O O Yh ?_);rintro w hF -;refine Ea (Ec (Dc (Ua (Ug O (l:=[J 4,I s,aQ,aQ]) O zQ oZ O (hF.cellsAll 0 O)) ?_)));exact⟨O,hF.same⟩
theorem num_c(n:Int)(h1:-9223372036854775808<=n)(h2:n<=9223372036854775807)(w0:World)(hG:Gl w0):Calls prog 19 #[J n] w0 (Be λv w'=>v=.agg #[J 3,I (Io (TD n)),aQ,aQ]/\Same [] w0 w'):=by
 refine Ga func19 O ntmps19 Ib (Id _) ?_;have hF:=FR.start w0 [];refine Ia (Td (cs:=#[J 0,I [],aQ,aQ]) hF mX O ?_);rintro b1 w hb1 hF -;refine Lc (Ca (Vb O) ?_);refine Hb hF (BU n h1 h2 _ (hG.ext hF.same)) (Ra en_43 O O) ?_;intro w hF;refine Hb hF (XO (TD n) (by have:=Gs (Lib.itoa n);exact fQ this Pa) _ (hG.ext hF.same)) (Ra en_42 O O) ?_;intro w hF;refine Ma (w':=w) (v:=.agg #[J 3,I (Io (TD n)),aQ,aQ]) Ob (Pf hF oZ O O Yh ?_);rintro w hF -;refine Ea (Ec (Dc (Ua (Ug O (l:=[J 3,I (Io (TD n)),aQ,aQ]) O zQ oZ O (hF.cellsAll 0 O)) ?_)));exact⟨O,hF.same⟩
end Go.Scarf
