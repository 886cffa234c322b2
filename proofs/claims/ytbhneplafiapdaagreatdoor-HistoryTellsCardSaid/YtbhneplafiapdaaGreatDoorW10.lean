/- A part of the proof. -/
import Derived.Test.YtbhneplafiapdaaGreatDoorW4
set_option linter.all false
set_option maxHeartbeats 8000000
set_option maxRecDepth 10000
namespace Go.Scarf
open Go.RowKit Go.Proofs Go.Proofs.Tryz
def MapRep(S:Nat->Prop)(w:World)(xs:List Tree)(l:MapL):Prop:=∀i (h:i<l.length),∃cs:List Value,l[i].2=.agg cs.toArray/\∃h2:i<xs.length,Rep S w (Fc xs[i]) cs
theorem MapRep.nil(S:Nat->Prop)(w:World)(xs:List Tree):MapRep S w xs []:=λi h=>absurd h Ua
theorem MapRep.snoc{S:Nat->Prop}{w:World}{xs:List Tree}{l:MapL}{k:Str}{cs:List Value}(h:MapRep S w xs l)(hl:l.length<xs.length)(hr:Rep S w (Fc xs[l.length]) cs):MapRep S w xs (l++[(k,.agg cs.toArray)]):=by
  intro i hi;rw[dQ,List.length_singleton]at hi;by_cases he:i<l.length
  ·obtain⟨c, h1, h2, h3⟩ := h i he
   exact⟨c,by rw[List.getElem_append_left he];exact h1,h2,h3⟩
  obtain rfl : i = l.length := by omega
  exact⟨cs,by simp,hl,hr⟩
theorem QB{l:MapL}{ks:List Str}{j:Nat}(h:j<ks.length)(hl:l.map (·.1)=ks.take j)(hn:ks.Nodup):Dh l ks[j]=none:=by
  have hnot:¬ks[j]∈ks.take j:=λhm=>Ho h hm hn;rw[<-hl]at hnot;unfold Dh;rw[Option.map_eq_none_iff,List.find?_eq_none];intro x hx he;exact hnot (nQ.2 ⟨x,hx,by simpa using he⟩)
theorem VH{l:MapL}{ks:List Str}{j:Nat}{v:Value}(h:j<ks.length)(hl:l.map (·.1)=ks.take j):(l++[(ks[j],v)]).map (·.1)=ks.take (j+1):=by
  rw[jQ,hl,iQ h];rfl
theorem HL{l:MapL}{ks:List Str}{j:Nat}(h:j<=ks.length)(hl:l.map (·.1)=ks.take j):l.length=j:=by
  have:=congrArg List.length hl;rw[rQ,List.length_take]at this;omega
theorem J3(k:Int)(t:Str)(ks:List Str)(xs:List Tree)(hn:ks.Nodup)(hlen:ks.length=xs.length)(S:Nat->Prop)(w0:World)(cs:List Value)(hR:Rep S w0 (Fc (.node k t ks xs)) cs):Calls prog 70 #[.agg cs.toArray] w0 (Vd λv w'=>∃(b:Nat)(l:MapL),v=.map (some b)/\w0.heap.size<=b/\w'.heap[b]? = some (Ei l)/\l.map (·.1)=ks/\MapRep S w' xs l/\Same [] w0 w'):=by
 obtain⟨A,c,B,e,rfl,-,-,hK,hX⟩:=hR.tree_inv;have hXl:=hX.slice_len;have hKl:=hK.slice_len;refine Ka func70 O ntmps70 Mb (Jc _) ?_;have hF:=FR.start w0 [];refine Ia (Xf hF O ?_);rintro b1 w hb1 hF -;refine Ca (YN) (Ec (Ca (Cd Pe O) (Ed (Mh vQ O hF.F 0 O O) (Ca (Rf pZ O) ?_))));refine Wr (v:=λb=>.map (some b)) hF (Z3 uZ O) ?_;rintro b2 w hb2 hF -;refine Ca (YN) (Fa (Ha (Ia (Ca (Cd Pe O) (Ed (Mh vQ O hF.F 1 O O) (Ca (Rf pZ O) (Ca (Db O) (Fa (Sa ?_)))))))));refine Gc (λμ σ w=>∃(j:Nat),∃(l:MapL),μ=ks.length-j/\(j<=ks.length)/\(l.map (·.1)=ks.take j)/\(MapRep S w0 xs l)/\AllEq σ [(1,V b1),(3,.map (some b2)),(11,.slice A ks.length c),(12,J ((ks.length:Nat))),(13,J ((j:Int)))]/\FR w0 [] [(b2,Ei (l)),(b1,.cells #[J k,I t,.slice A ks.length c,.slice B xs.length e] 27)] w) _ ⟨0,[],O,(Nat.zero_le _),Ua,(MapRep.nil _ _ _),Ll,hF⟩ ?_;rintro μ σ w ⟨j,l,rfl,hj,hl,hr,hs,hF⟩;refine Cg.slots hs ?_;clear hs;intro σ;have hll:=HL hj hl;refine Ia (Ca (Tg O O) (Fa (Ha ?_)));refine Wb O O (λhc0=>?_) (λhc0=>?_);refine Ma (Ga (Ha (Sa (Ia (Ca (Db O) ?_)))));obtain⟨ad0,hA0,hk0,hx0⟩:=hK.str_elem (i:=j) U;refine Ja (v:=.pointer (some (ad0.add (j*1)))) (Qa (i:=(j:Int)) Tr O hA0 O U U) (Ja (v:=I (ks[j])) (Oc dZ O (hF.cell0 hk0)) (Ca (Bc O) (Ca (Qd O) (Fa (Ea (Ca (Ru) (Ca (Ic O) (Ca (Cd Rc O) (Ed (Mh wQ O hF.F 1 O O) (Ca (Db O) ?_))))))))));obtain⟨ad1,cs1,hA1,hl1,hk1,hx1⟩:=hX.tree_elem (i:=j) U;have ho1:=hx1.one_;refine Ja (v:=.pointer (some (ad1.add (j*4)))) (Qa (i:=(j:Int)) Zh O hA1 O U U) (Ja (v:=.agg (List.toArray cs1)) (Hb (l:=cs1) xQ fZ O hl1 (hF.cells0 hk1)) ?_);refine Zw 0 (v:=.agg (List.toArray cs1)) hF uZ tZ O O O O (QB U hl hn) ?_;rintro w hF -;have hF:FR w0 [] [(b2,Ei (l++[(ks[j],.agg (List.toArray cs1))])),(b1,.cells #[J k,I t,.slice A ks.length c,.slice B xs.length e] 27)] w:=hF
 refine Ra (Ib (Ga (Ea (Ca (Lk O O) (Ca (Db O) (Ra ?_))))));refine Za ⟨_,?_,j+1,l++[(ks[j],.agg (List.toArray cs1))],O,U,(VH U hl),(hr.snoc U (by simpa only[hll]using hx1)),Ll,hF⟩;omega;refine Zb (Vb O ?_);refine Ga (Ia (Ca (Ru) (Ca (YN) (Fa ?_))));refine Tc (v:=.map (some b2)) O O ?_;refine⟨b2,l,O,by have:=hF.ge (i:=0) O;exact this,hF.heap (i:=0) O,?_,?_,hF.same⟩;rw[hl];exact List.take_of_length_le U;intro i hi;obtain⟨cs,h1,h2,h3⟩:=hr i hi;exact⟨cs,h1,h2,hF.rep h3⟩
def Se:List Str->List Tree->Str->Option Tree
  | k::ks,x::xs,key=>if k=key then some x else Se ks xs key
  | _,_,_=>none
def J6(q:Tree->Tree->Bool)(ks:List Str)(xs:List Tree)(ks':List Str)(ys:List Tree):Bool :=
  (ks.zip xs).all λp=>match Se ks' ys p.1 with|some y=>q p.2 y|none=>false
theorem MapRep.tail{S:Nat->Prop}{w:World}{x:Tree}{xs:List Tree}{p:Str × Value}{l:MapL}(h:MapRep S w (x::xs) (p::l)):MapRep S w xs l:=by
  intro i hi;obtain⟨cs,h1,h2,h3⟩:=h (i+1) (by simpa using hi);exact⟨cs,by simpa using h1,by simpa using h2,by simpa using h3⟩
theorem J0{S:Nat->Prop}{w:World}(key:Str):∀{ks:List Str}{xs:List Tree}{l:MapL},l.map (·.1)=ks->MapRep S w xs l ->
    (Dh l key=none/\Se ks xs key=none)\/∃(cs:List Value)(y:Tree),Dh l key=some (.agg cs.toArray)/\Se ks xs key=some y/\y∈xs/\Rep S w (Fc y) cs
  | ks, xs, [], hk, _ => by
    left;simp only[List.map_nil]at hk;subst hk;exact⟨O,by cases xs <;> rfl⟩
  | ks, [], p :: l, hk, hm => by
    obtain⟨cs,h1,h2,h3⟩:=hm 0 Ua;simp at h2
  | ks, x :: xs, p :: l, hk, hm => by
    rw[List.map_cons]at hk;subst hk;by_cases h:p.1=key
    ·right
     obtain⟨cs,h1,h2,h3⟩:=hm 0 Ua;refine⟨cs,x,?_,by simp[Se,h],by simp,h3⟩;simp only[List.getElem_cons_zero]at h1;simp[Dh,h,h1]
    have e1 : Dh (p :: l) key = Dh l key := by simp[Dh, h]
    have e2:Se (p.1::l.map (·.1)) (x::xs) key=Se (l.map (·.1)) xs key:=by simp[Se,h]
    rw[e1,e2];rcases J0 key rfl hm.tail with h|⟨cs,y,h1,h2,h3,h4⟩
    ·exact .inl h
    exact .inr ⟨cs,y,h1,h2,by simp[h3],h4⟩
def BothC(w0:World)(g:Nat)(xs ys:List Tree)(q:Tree->Tree->Bool):Prop:=∀x,x∈xs->∀y,y∈ys->∀S S' w cs ct,Same [] w0 w->Rep S w (Fc x) cs->Rep S' w (Fc y) ct->Calls prog g #[.agg cs.toArray,.agg ct.toArray] w (Vd λv w'=>v=.bool (q x y)/\Same [] w w')
theorem BothC.ext{w0 w:World}{g:Nat}{xs ys:List Tree}{q:Tree->Tree->Bool}(h:BothC w0 g xs ys q)(hs:Same [] w0 w):BothC w g xs ys q:=λx hx y hy S S' w' cs ct hw=>h x hx y hy S S' w' cs ct (hs.trans hw)
def BX(q:Tree->Tree->Bool)(ks:List Str)(xs:List Tree)(ks':List Str)(ys:List Tree)(i:Nat):Prop:=∀(h:i<ks.length)(h2:i<xs.length),∃y,Se ks' ys ks[i]=some y/\q xs[i] y=true
theorem DI{q:Tree->Tree->Bool}{ks ks':List Str}{xs ys:List Tree}(h:∀i,i<ks.length->BX q ks xs ks' ys i):J6 q ks xs ks' ys=true:=by
  unfold J6;rw[List.all_eq_true];intro p hp;obtain⟨i,hi,rfl⟩:=List.getElem_of_mem hp;rw[List.length_zip]at hi;obtain⟨y,h1,h2⟩:=h i U U U;rw[List.getElem_zip];simp only[h1,h2]
theorem Az{q:Tree->Tree->Bool}{ks ks':List Str}{xs ys:List Tree}{i:Nat}(h:i<ks.length)(h2:i<xs.length)(hn:∀y,Se ks' ys ks[i]=some y->q xs[i] y=false):J6 q ks xs ks' ys=false:=by
  unfold J6;rw[Bool.eq_false_iff];intro ha;have:=List.all_eq_true.1 ha ((ks.zip xs)[i]'(by rw[List.length_zip];omega)) (eQ _);rw[List.getElem_zip]at this;simp only at this;cases hl:Se ks' ys ks[i]with
  | none=>rw[hl]at this;cases this
  | some y=>rw[hl]at this;simp only at this;rw[hn y hl]at this;cases this
theorem E9(q:Tree->Tree->Bool)(ks ks':List Str)(xs ys:List Tree)(m1 m2:Nat)(l1 l2:MapL)(S S':Nat->Prop)(w0:World)(h1:w0.heap[m1]? = some (Ei l1))(h2:w0.heap[m2]? = some (Ei l2))(hk1:l1.map (·.1)=ks)(hk2:l2.map (·.1)=ks')(hm1:MapRep S w0 xs l1)(hm2:MapRep S' w0 ys l2)(hq:BothC w0 46 xs ys q):Calls prog 69 #[.map (some m1),.map (some m2),.func (.func 46) #[] #[]] w0 (Vd λv w'=>v=.bool (decide (ks.length=ks'.length)&&J6 q ks xs ks' ys)/\Same [] w0 w'):=by
 have e1:l1.length=ks.length:=by rw[<-hk1,rQ]
 have e2:l2.length=ks'.length:=by rw[<-hk2,rQ]
 refine Ka func69 O ntmps69 Mb (Yp _ _ _) ?_;have hF:=FR.start w0 [];refine Ia (Ca (Eb O) (Fa (Ha (Ia (Ca (Ru) (Ja (v:=J (((l1).length:Nat))) (F4 uZ O (hF.heap0 h1)) (Ca (Ru) (Ja (v:=J (((l2).length:Nat))) (F4 uZ O (hF.heap0 h2)) (Ca (Ep O O) (Ra ?_))))))))));refine Ga (Wb O O (λhc0=>?_) (λhc0=>?_));refine Ia (Ca (Eb O) (Fa ?_));refine Tc (v:=.bool false) O O ?_;exact⟨congrArg Value.bool (by rw[decide_eq_false U];rfl),hF.same⟩;refine Ma (Ga (Ha (Ia (Ca (Ru) ?_))));refine Wr (v:=λb=>V b) (o:=.mapIter (some m1) (l1).length #[] (l1).length) hF (RL uZ O (hF.heap0 h1)) ?_;rintro b1 w hb1 hF -;refine Fa (Sa ?_);refine Gc (λμ σ w=>∃(seen:Array Nat),μ=J5 l1.length seen/\(∀i,i<l1.length->seen.contains i=true->BX q ks xs ks' ys i)/\AllEq σ [(1,.map (some m2)),(2,.func (.func 46) #[] #[]),(17,V b1)]/\FR w0 [] [(b1,.mapIter (some m1) (l1).length (seen) (l1).length)] w) _ ⟨#[],O,(λi _ h=>by simp at h),Mk,hF⟩ ?_;rintro μ σ w ⟨seen,rfl,hs_,hs,hF⟩;refine Cg.slots hs ?_;clear hs;intro σ;refine Ia (WQ 0 (b:=m1) (l:=l1) (seen:=seen) hF O O (hF.heap0 h1) (λhall=>?_) (λj w hj hn hF2 hE _=>?_));refine Ca (Qp O O) (Fa (Ha (If O ?_)));refine Zb (Vb O ?_);refine Ga (Ia (Ca (Eb O) (Fa ?_)));refine Tc (v:=.bool true) O O ?_;exact⟨congrArg Value.bool (by rw[decide_eq_true U,DI (λi hi=>hs_ i U (hall i U))];rfl),hF.same⟩;clear hF;have hF:FR w0 [] [(b1,.mapIter (some m1) (l1).length ((seen).push j) (l1).length)] w:=hF2;clear hE hF2;refine Ca (Qp O O) (Fa (Ha (Od O (Ma (Ga (Sa (Ia ?_)))))));obtain⟨cx,hcx,hx2,hrx⟩:=hm1 j hj;have hox:=hrx.one_;have hlx:cx.length=4:=hrx.length.trans (Id _);have hkj:(l1)[j].1=ks[j]'(by rw[<-hk1,rQ];exact hj):=by have:=List.getElem_map (·.1) (l:=l1) (i:=j) (h:=by rw[rQ];exact hj);simp only[hk1]at this;exact this.symm
 refine Ja (v:=.tuple #[I ((l1)[j].1),.agg (List.toArray cx)]) (AJ O hj (hF.heap (i:=0) O) (hF.heap0 h1) (hcx)) (Ca (RE O O) (Ca (J_ O O) ?_));refine Ve (cs:=#[J 0,I [],aQ,aQ]) hF vZ O ?_;rintro b2 w hb2 hF -;refine Ca (Qd O) ?_;refine Sj 0 (l:=cx) (cs':=(List.toArray cx)) hF (by rw[hlx];exact fZ) O (v:=.agg (List.toArray cx)) O O (hox) O (by rw[hlx];exact Nat.le_of_ble_eq_true O) (Tl (by rw[hlx];rfl)) ?_;rintro w hF -;refine Ec (Ca (Ru) (Ca (Ic O) ?_));rcases J0 (l1)[j].1 hk2 hm2 with ⟨hlk,hlt⟩|⟨cy,y,hlk,hlt,hym,hry⟩
 refine Ja (v:=.tuple #[.agg #[J 0,I [],aQ,aQ],.bool false]) (S0 uZ tZ vZ O O (hF.heap0 h2) (by rw[hlk];rfl) (by rw[hlk];rfl)) ?_;refine Ca (Tq O) (Ca (J_ O O) (Ca (Qp O O) ?_));refine Vl hF vZ fZ O ?_;rintro b3 w hb3 hF -;refine Ca (Eb O) (Ec (Ca (Xb O) (Ca (Bi (b:=false) O) (Ca (Xb O) (Da (Da (Da (Da (Da (Ca (Rb O O) ?_))))))))));refine Fa (Od O (Ia (Ca (Eb O) (Fa ?_))));refine Tc (v:=.bool false) O O ?_;exact⟨congrArg Value.bool (by rw[Az (i:=j) U hx2 (λy hy=>by rw[<-hkj,hlt]at hy;cases hy),Bool.and_false]),hF.same⟩;have hoy:=hry.one_;have hly:cy.length=4:=hry.length.trans (Id _);refine Ja (v:=.tuple #[.agg (List.toArray cy),.bool true]) (S0 uZ tZ vZ O O (hF.heap0 h2) (by rw[hlk];rfl) (by rw[hlk];rfl)) ?_;refine Ca (Tq O) (Ca (J_ O O) (Ca (Qp O O) ?_));refine O4 (l:=cy) hF vZ (by rw[hly];exact fZ) (by rw[hly];rfl) (v:=.agg (List.toArray cy)) O O (hoy) O ?_;rintro b4 w hb4 hF -;refine Ca (Eb O) (Ec (Ca (Xb O) (Ca (Bi (b:=true) O) (Ca (Xb O) (Ca (Ru) (Ja (v:=.agg (List.toArray cx)) (Hb (l:=cx) xQ fZ O hlx (hF.cellsAll 1 O)) (Ja (v:=.agg (List.toArray cy)) (Hb (l:=cy) xQ fZ O hly (hF.cellsAll 0 O)) ?_)))))));refine Ta hF (hq _ (eQ hx2) y hym S S' _ cx cy hF.same (hF.rep hrx) (hF.rep hry)) (D_ O RI O O O) ?_;intro w hF;refine Ca (Bi O) (Ca (Jb O O) (Fa ?_));refine Je O O (λhc2=>?_) (λhc2=>?_);refine Ia (Ca (Eb O) (Fa ?_));refine Tc (v:=.bool false) O O ?_;exact⟨congrArg Value.bool (by rw[Az (i:=j) U hx2 (λy1 hy=>by rw[<-hkj,hlt]at hy;injection hy with hy;subst hy;simpa using hc2),Bool.and_false]),hF.same⟩;refine Ma (Ib ?_);refine Za ⟨_,?_,seen.push j,rfl,(λi hi hc=>by rw[contains_push]at hc;rcases Bool.or_eq_true_iff.1 hc with hc|hc;exact hs_ i hi hc;obtain rfl:=beq_iff_eq.1 hc;exact λh _=>⟨y,by rw[<-hkj];exact hlt,by simpa using hc2⟩),Mk,hF.drop 2⟩
 exact W6 hj hn
mutual
def Al:Tree->Tree->Bool
  | .node k t ks xs,.node k' t' ks' ys=>decide (k=k')&&decide (t=t')&&decide (xs.length=ys.length)&&(if k≠6 then K3 xs ys else decide (ks.length=ks'.length)&&X3 xs ks ks' ys)
def K3:List Tree->List Tree->Bool
  | x::xs,y::ys=>Al x y&&K3 xs ys
  | _,_=>true
def X3:List Tree->List Str->List Str->List Tree->Bool
  | x::xs,k::ks,ks',ys=>(match Se ks' ys k with|some y=>Al x y|none=>false)&&X3 xs ks ks' ys
  | _,_,_,_=>true
end
def Hm(q:Tree->Tree->Bool)(xs ys:List Tree):Bool:=decide (xs.length=ys.length)&&(xs.zip ys).all λp=>q p.1 p.2
theorem Ph:∀xs ys:List Tree,((xs.zip ys).all λp=>Al p.1 p.2)=K3 xs ys
  | [],ys=>by cases ys <;> simp[K3]
  | x::xs,[]=>by simp[K3]
  | x::xs,y::ys=>by rw[List.zip_cons_cons,List.all_cons,Ph xs ys,K3]
theorem Uh:∀(xs:List Tree)(ks ks':List Str)(ys:List Tree),J6 Al ks xs ks' ys=X3 xs ks ks' ys
  | [],ks,ks',ys=>by cases ks <;> simp[J6,X3]
  | x::xs,[],ks',ys=>by simp[J6,X3]
  | x :: xs, k :: ks, ks', ys => by
    have:=Uh xs ks ks' ys;unfold J6 at this ⊢;rw[List.zip_cons_cons,List.all_cons,this,X3]
    try rfl
theorem W2{q:Tree->Tree->Bool}{xs ys:List Tree}{j:Nat}(h:j<xs.length)(h2:j<ys.length)(ha:((xs.take j).zip (ys.take j)).all (λp=>q p.1 p.2)=true)(hq:q xs[j] ys[j]=true):((xs.take (j+1)).zip (ys.take (j+1))).all (λp=>q p.1 p.2)=true:=by
  rw[iQ h,iQ h2,List.zip_append (by rw[List.length_take,List.length_take];omega),List.all_append,ha];simp[hq]
theorem VB{q:Tree->Tree->Bool}{xs ys:List Tree}{j:Nat}(h:j<xs.length)(h2:j<ys.length)(hq:q xs[j] ys[j]=false):((xs.zip ys).all λp=>q p.1 p.2)=false:=by
  rw[Bool.eq_false_iff];intro ha;have:=List.all_eq_true.1 ha ((xs.zip ys)[j]'(by rw[List.length_zip];omega)) (eQ _);rw[List.getElem_zip]at this;simp only[hq]at this;cases this
theorem MapRep.ext{S:Nat->Prop}{w w':World}{xs:List Tree}{l:MapL}(h:MapRep S w xs l)(hs:Same [] w w'):MapRep S w' xs l:=λi hi=>by
  obtain⟨cs,h1,h2,h3⟩:=h i hi;exact⟨cs,h1,h2,h3.ext hs⟩
theorem Same.heap{w w':World}{b:Nat}{o:Obj}(hs:Same [] w w')(h:w.heap[b]? = some o):w'.heap[b]? = some o:=(hs.block b (Wa h) Ua).trans h
theorem K4{q:Tree->Bool}:∀{xs:List Tree},Pr q xs=true->∀x∈xs,Me q x=true
  | [],_,_,h=>absurd h Ua
  | y :: ys, h, x, hx => by
    rw[Pr,Bool.and_eq_true]at h;rcases oQ.1 hx with rfl|hx
    ·exact h.1
    exact K4 h.2 x hx
theorem Wn{q:Tree->Bool}{k:Int}{t:Str}{ks:List Str}{xs:List Tree}(h:Me q (.node k t ks xs)=true):q (.node k t ks xs)=true/\∀x∈xs,Me q x=true:=by
  rw[Me,Bool.and_eq_true]at h;exact⟨h.1,K4 h.2⟩
theorem J7{t:Str}{ks:List Str}{xs:List Tree}(h:nodeB (.node 6 t ks xs)=true):ks.Nodup/\ks.length=xs.length:=by
  simp only[nodeB,Ym]at h;simp at h;exact⟨h.1.1.1,by omega⟩
def UI(x:Tree):Prop:=∀y S S' w0 cs ct,Rep S w0 (Fc x) cs->Rep S' w0 (Fc y) ct->Me nodeB x=true->Me nodeB y=true->Calls prog 46 #[.agg cs.toArray,.agg ct.toArray] w0 (Vd λv w'=>v=.bool (Al x y)/\Same [] w0 w')
theorem O7(q:Tree->Tree->Bool)(xs ys:List Tree)(B B':Option Addr)(e e':Nat)(S S':Nat->Prop)(w0:World)(hX:Rep S w0 (.slice (Ke xs)) [.slice B xs.length e])(hY:Rep S' w0 (.slice (Ke ys)) [.slice B' ys.length e'])(hq:BothC w0 46 xs ys q):Calls prog 68 #[.slice B xs.length e,.slice B' ys.length e',.func (.func 46) #[] #[]] w0 (Vd λv w'=>v=.bool (Hm q xs ys)/\Same [] w0 w'):=by
 have hXl:=hX.slice_len;have hYl:=hY.slice_len;refine Ka func68 O ntmps68 Mb (Yp _ _ _) ?_;have hF:=FR.start w0 [];refine Ia (Ca (Eb O) (Fa (Ha (Ia (Ca (Kd O) (Ca (Rf qZ O) (Ca (Kd O) (Ca (Rf qZ O) (Ca (Ep O O) (Ra ?_))))))))));refine Ga (Wb O O (λhc0=>?_) (λhc0=>?_));refine Ia (Ca (Eb O) (Fa ?_));refine Tc (v:=.bool false) O O ?_;exact⟨congrArg Value.bool (by unfold Hm;rw[decide_eq_false U];rfl),hF.same⟩;refine Ma (Ga (Ha (Ia (Ca (Kd O) (Ca (Rf qZ O) (Ca (Db O) (Fa (Sa ?_))))))));refine Gc (λμ σ w=>∃(j:Nat),μ=xs.length-j/\(j<=xs.length)/\(((xs.take j).zip (ys.take j)).all (λp=>q p.1 p.2)=true)/\AllEq σ [(1,.slice B' ys.length e'),(2,.func (.func 46) #[] #[]),(15,.slice B xs.length e),(16,J ((xs.length:Nat))),(17,J ((j:Int)))]/\FR w0 [] [] w) _ ⟨0,O,(Nat.zero_le _),Ua,Ll,hF⟩ ?_;rintro μ σ w ⟨j,rfl,hj,ha,hs,hF⟩;refine Cg.slots hs ?_;clear hs;intro σ;refine Ia (Ca (Tg O O) (Fa (Ha ?_)));refine Wb O O (λhc1=>?_) (λhc1=>?_);refine Ma (Ga (Ha (Sa (Ia (Ca (Db O) ?_)))));obtain⟨ad0,cs0,hA0,hl0,hk0,hx0⟩:=hX.tree_elem (i:=j) U;have ho0:=hx0.one_;refine Ja (v:=.pointer (some (ad0.add (j*4)))) (Qa (i:=(j:Int)) Zh O hA0 O U U) (Ja (v:=.agg (List.toArray cs0)) (Hb (l:=cs0) xQ fZ O hl0 (hF.cells0 hk0)) ?_);refine Ve (cs:=#[J 0,I [],aQ,aQ]) hF vZ O ?_;rintro b1 w hb1 hF -;refine Ca (Bc O) ?_;refine Sj 0 (l:=cs0) (cs':=(List.toArray cs0)) hF (by rw[hl0];exact fZ) O (v:=.agg (List.toArray cs0)) O O (ho0) O (by rw[hl0];exact Nat.le_of_ble_eq_true O) (Tl (by rw[hl0];rfl)) ?_;rintro w hF -;refine Ec (Ca (Kd O) (Ca (Db O) ?_));obtain⟨ad1,cs1,hA1,hl1,hk1,hx1⟩:=hY.tree_elem (i:=j) U;have ho1:=hx1.one_;refine Ja (v:=.pointer (some (ad1.add (j*4)))) (Qa (i:=(j:Int)) Zh O hA1 O U U) (Ja (v:=.agg (List.toArray cs1)) (Hb (l:=cs1) xQ fZ O hl1 (hF.cells0 hk1)) ?_);refine O4 (l:=cs1) hF vZ (by rw[hl1];exact fZ) (by rw[hl1];rfl) (v:=.agg (List.toArray cs1)) O O (ho1) O ?_
 rintro b2 w hb2 hF -;refine Ec (Ca (Ru) (Ja (v:=.agg (List.toArray cs0)) (Hb (l:=cs0) xQ fZ O hl0 (hF.cellsAll 1 O)) (Ja (v:=.agg (List.toArray cs1)) (Hb (l:=cs1) xQ fZ O hl1 (hF.cellsAll 0 O)) ?_)));refine Ta hF (hq _ (List.getElem_mem (l:=xs) (n:=j) U) _ (List.getElem_mem (l:=ys) (n:=j) U) _ _ _ _ _ hF.same (hF.rep hx0) (hF.rep hx1)) (D_ O RI O O O) ?_;intro w hF;refine Ca (Bi O) (Fa ?_);refine Je O O (λhc2=>?_) (λhc2=>?_);refine Ia (Ca (Eb O) (Fa ?_));refine Tc (v:=.bool false) O O ?_;exact⟨congrArg Value.bool (by unfold Hm;rw[VB (j:=j) U U (by simpa using hc2),Bool.and_false]),hF.same⟩;refine Ma (Ib (Ga (Ea (Ca (Lk O O) (Ca (Db O) (Ra ?_))))));refine Za ⟨_,?_,j+1,O,U,(W2 U U ha (by simpa using hc2)),Ll,hF.drop 2⟩;omega;refine Zb (Vb O ?_);refine Ga (Ia (Ca (Eb O) (Fa ?_)));refine Tc (v:=.bool true) O O ?_;have eX:xs.take j=xs:=List.take_of_length_le U;have eY:ys.take j=ys:=List.take_of_length_le U;rw[eX,eY]at ha;exact⟨congrArg Value.bool (by unfold Hm;rw[ha,decide_eq_true U];rfl),hF.same⟩
theorem EI(k:Int)(t:Str)(ks:List Str)(xs:List Tree)(ih:∀x,x∈xs->UI x):UI (.node k t ks xs):=by
 rintro⟨k',t',ks',ys⟩ S S' w0 cs ct hR hR' hnx hny;have hnx:=Wn hnx;have hny:=Wn hny;obtain⟨A,c,B,e,rfl,-,-,hK,hX⟩:=hR.tree_inv;obtain⟨A',c',B',e',rfl,-,-,hK',hY⟩:=hR'.tree_inv;have hXl:=hX.slice_len;have hYl:=hY.slice_len;refine Ka func46 O ntmps46 Mb (Ae _ _) ?_;have hF:=FR.start w0 [];refine Ia (Xf hF O ?_);rintro b1 w hb1 hF -;refine Xf hF O ?_;rintro b2 w hb2 hF -;refine Ca (Eb O) (Fa (Ha (Sa (Ha (Ia (Ca (Cd Pf O) (Ed (Jq yQ O hF.F 1 O O) (Ca (Cd Pf O) (Ed (Jq yQ O hF.F 0 O O) (Ca (Ep O O) (Ca (Eb O) ?_)))))))))));refine Fa (Wb O O (λhc0=>?_) (λhc0=>?_));refine Ma (Ga (Od O (Ia (Ca (Eb O) (Fa ?_)))));refine Tc (v:=.bool false) O O ⟨congrArg Value.bool ?_,hF.same⟩;rw[Al];clear hF hXl hYl hR hR' hX hY hK hK' ih hnx hny
 ·first|(simp_all[Hm,Ph,Uh];done)|(simp_all[Hm,Ph,Uh];omega)
 refine Ia (Ca (Cd Le O) (Ed (Em dZ O hF.F 1 O O) (Ca (Cd Le O) (Ed (Em dZ O hF.F 0 O O) (Ca (VZ O O) (Ca (Eb O) (Fa ?_)))))));refine Wb O O (λhc1=>?_) (λhc1=>?_);refine Ma (Ga (Od O (Ia (Ca (Eb O) (Fa ?_)))));refine Tc (v:=.bool false) O O ⟨congrArg Value.bool ?_,hF.same⟩;rw[Al];clear hF hXl hYl hR hR' hX hY hK hK' ih hnx hny
 ·first|(simp_all[Hm,Ph,Uh];done)|(simp_all[Hm,Ph,Uh];omega)
 refine Ea (Ca (Cd Rc O) (Ed (Mh wQ O hF.F 1 O O) (Ca (Rf qZ O) (Ca (Cd Rc O) (Ed (Mh wQ O hF.F 0 O O) (Ca (Rf qZ O) (Ca (Ep O O) (Ca (Eb O) (Fa ?_)))))))));refine Wb O O (λhc2=>?_) (λhc2=>?_);refine Ia (Ca (Eb O) (Fa ?_));refine Tc (v:=.bool false) O O ⟨congrArg Value.bool ?_,hF.same⟩;rw[Al];clear hF hXl hYl hR hR' hX hY hK hK' ih hnx hny
 ·first|(simp_all[Hm,Ph,Uh];done)|(simp_all[Hm,Ph,Uh];omega)
 refine Ia (Ca (Cd Pf O) (Ed (Jq yQ O hF.F 1 O O) (Ca (Ep O O) (Ca (Eb O) (Fa ?_)))));refine Wb O O (λhc3=>?_) (λhc3=>?_);refine Ia (Ca (Cd Rc O) (Ed (Mh wQ O hF.F 1 O O) (Ca (Cd Rc O) (Ed (Mh wQ O hF.F 0 O O) ?_))));refine Ta hF (O7 Al xs ys B B' e e' S S' _ (hF.rep hX) (hF.rep hY) (λx hx y hy S1 S2 w1 cs1 ct1 _ h1 h2=>ih x hx y S1 S2 w1 cs1 ct1 h1 h2 (hnx.2 x hx) (hny.2 y hy))) (Ng MY O O O O) ?_;intro w hF;refine Ca (Eb O) (Fa ?_);refine Tc (v:=.bool _) O O ⟨congrArg Value.bool ?_,hF.same⟩;rw[Al];clear hF hXl hYl hR hR' hX hY hK hK' ih hnx hny
 ·first|(simp_all[Hm,Ph,Uh];done)|(simp_all[Hm,Ph,Uh];omega)
 refine Ma (Ib (Ga (Ha ?_)));refine Te (zs:=.of []) (.free 0 (.free 2 (cQ [1,3,4] (.free 5 .nil)))) hF ?_;intro w hF;refine Cp O (Ej xQ fZ O C0 1 O O) (Cp O (Ej xQ fZ O C0 0 O O) ?_);have k6:k=6:=by simpa using hc3
 refine Tf O (J3 k t ks xs (J7 (k6▸hnx.1)).1 (J7 (k6▸hnx.1)).2 S _ _ (hF.rep hR)) (Va GR O O) ?_;rintro _ w ⟨m1,l1,rfl,-,hm1,hk1,hr1,hE⟩;have hF:=hF.ext hE;refine⟨hF,?_⟩;have k6':k'=6:=by omega
 refine Tf O (J3 k' t' ks' ys (J7 (k6'▸hny.1)).1 (J7 (k6'▸hny.1)).2 S' _ _ (hF.rep hR')) (Va GR O O) ?_;rintro _ w ⟨m2,l2,rfl,-,hm2,hk2,hr2,hE⟩;have hF:=hF.ext hE;have hm1:=hE.heap hm1;have hr1:=hr1.ext hE;refine⟨hF,?_⟩;refine Wf hF (E9 Al ks ks' xs ys m1 m2 l1 l2 S S' _ hm1 hm2 hk1 hk2 hr1 hr2 (λx hx y hy S1 S2 w1 cs1 ct1 _ h1 h2=>ih x hx y S1 S2 w1 cs1 ct1 h1 h2 (hnx.2 x hx) (hny.2 y hy))) O (Ng RW O O O O) ?_;intro w hF;refine⟨hF,?_⟩;refine Zc O (Eb O) (Xd (Ga ?_));refine Tc (v:=.bool _) O O ⟨congrArg Value.bool ?_,hF.same⟩;rw[Al];clear hF hXl hYl hR hR' hX hY hK hK' ih hnx hny
 ·first|(simp_all[Hm,Ph,Uh];done)|(simp_all[Hm,Ph,Uh];omega)
theorem XV(x:Tree):UI x:=Tree.ind EI x
def BothI(w0:World)(g:Nat)(xs ys:List Tree)(q:Tree->Tree->Int):Prop:=∀x,x∈xs->∀y,y∈ys->∀S S' w cs ct,Same [] w0 w->Rep S w (Fc x) cs->Rep S' w (Fc y) ct->Calls prog g #[.agg cs.toArray,.agg ct.toArray] w (Vd λv w'=>v=J (q x y)/\Same [] w w')
theorem BothI.ext{w0 w:World}{g:Nat}{xs ys:List Tree}{q:Tree->Tree->Int}(h:BothI w0 g xs ys q)(hs:Same [] w0 w):BothI w g xs ys q:=λx hx y hy S S' w' cs ct hw=>h x hx y hy S S' w' cs ct (hs.trans hw)
def C2(x y:Tree):Bool:=Zk x&&Zk y&&Al x y
theorem I1{x:Tree}(h:Zk x=true):Me nodeB x=true:=by unfold Zk at h;rw[Bool.and_eq_true]at h;exact h.2
theorem SQ(x y:Tree)(hsx:Ub x<=1000000000)(hsy:Ub y<=1000000000)(S S':Nat->Prop)(w0:World)(cs ct:List Value)(hR:Rep S w0 (Fc x) cs)(hR':Rep S' w0 (Fc y) ct)(hk:H2 x)(hk':H2 y)(hG:Gl w0):Calls prog 24 #[.agg cs.toArray,.agg ct.toArray] w0 (Vd λv w'=>v=.bool (C2 x y)/\Same [] w0 w'):=by
 have hl:cs.length=4:=hR.length.trans (Id x);have ho:=hR.one_;have hl':ct.length=4:=hR'.length.trans (Id y);have ho':=hR'.one_;refine Ka func24 O ntmps24 Mb (Ae _ _) ?_;have hF:=FR.start w0 [];refine Ia (Ip (v:=.agg (List.toArray cs)) (cs:=(List.toArray cs)) hF O O ?_);rintro b1 w hb1 hF -;refine Ip (v:=.agg (List.toArray ct)) (cs:=(List.toArray ct)) hF O O ?_;rintro b2 w hb2 hF -;refine Ca (Eb O) (Ec (Ja (v:=.agg (List.toArray cs)) (Hb (l:=cs) xQ fZ O hl (hF.cellsAll 1 O)) ?_));refine Ta hF (Z5 x hsx S _ cs (hF.rep hR) hk (hG.ext hF.same)) (Va VC O O) ?_;intro w hF;refine Ca (Xb O) (Uc (d:=7) O (λhg0=>?_) (λhg0=>?_));refine Ja (v:=.agg (List.toArray ct)) (Hb (l:=ct) xQ fZ O hl' (hF.cellsAll 0 O)) (Ta hF (Z5 y hsy S' _ ct (hF.rep hR') hk' (hG.ext hF.same)) (Va VC O O) ?_);intro w hF;refine Ca (Rb O O) (Ca (Xb O) ?_);refine Uc (d:=11) O (λhg1=>?_) (λhg1=>?_);refine Ja (v:=.agg (List.toArray cs)) (Hb (l:=cs) xQ fZ O hl (hF.cellsAll 1 O)) (Ja (v:=.agg (List.toArray ct)) (Hb (l:=ct) xQ fZ O hl' (hF.cellsAll 0 O)) ?_);refine Ta hF (XV x y S S' _ cs ct (hF.rep hR) (hF.rep hR') (I1 (by simp_all)) (I1 (by simp_all))) (Qb RI O O O) ?_;intro w hF;refine Ca (Rb O O) (Ca (Eb O) (Fa ?_));refine Tc (v:=.bool _) O O ⟨congrArg Value.bool ?_,hF.same⟩;unfold C2;clear hF hR hR';simp_all;refine Da (Da (Da (Ca (Jb O O) (Ca (Eb O) (Fa ?_)))));refine Tc (v:=.bool false) O O ⟨congrArg Value.bool ?_,hF.same⟩;unfold C2;clear hF hR hR';simp_all;refine Da (Da (Ca (Jb O O) (Ca (Xb O) (Da (Da (Da (Ca (Jb O O) (Ca (Eb O) (Fa ?_)))))))));refine Tc (v:=.bool false) O O ⟨congrArg Value.bool ?_,hF.same⟩;unfold C2;clear hF hR hR';simp_all
theorem AK(n:Int)(h1:-9223372036854775808<=n)(h2:n<=9223372036854775807)(w0:World)(hG:Gl w0):Calls prog 25 #[J n] w0 (Vd λv w'=>v=.agg #[J 3,I (Oi (LF n)),aQ,aQ]/\Same [] w0 w'):=by
 refine Ka func25 O ntmps25 Mb (Jc _) ?_;have hF:=FR.start w0 [];refine Ia (Ve (cs:=#[J 0,I [],aQ,aQ]) hF vZ O ?_);rintro b1 w hb1 hF -;refine Ec (Ca (Db O) ?_);refine Ta hF (TO n h1 h2 _ (hG.ext hF.same)) (Va IX O O) ?_;intro w hF;refine Ta hF (RM (LF n) (by have:=Ml (Lib.itoa n);exact fQ this Cc) _ (hG.ext hF.same)) (Va GT O O) ?_;intro w hF;refine Ja (w':=w) (v:=.agg #[J 3,I (Oi (LF n)),aQ,aQ]) Nc (Hh hF fZ O O Cj ?_);rintro w hF -;refine Fa (Gb (Fb (Pa (Kp O (l:=[J 3,I (Oi (LF n)),aQ,aQ]) O xQ fZ O (hF.cellsAll 0 O)) ?_)));exact⟨O,hF.same⟩
end Go.Scarf
