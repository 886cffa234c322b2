/- A part of the proof. -/
import Derived.Test.YtbhneplafiapdaaGreatDoorW4
set_option linter.all false
set_option maxHeartbeats 8000000
set_option maxRecDepth 10000
namespace Go.Scarf
open Go.RowKit Go.Proofs Go.Proofs.Tryz
def MapRep(S:Nat->Prop)(w:World)(xs:List Tree)(l:MapL):Prop:=∀i (h:i<l.length),∃cs:List Value,l[i].2=.agg cs.toArray/\∃h2:i<xs.length,Rep S w (Mb xs[i]) cs
theorem MapRep.nil(S:Nat->Prop)(w:World)(xs:List Tree):MapRep S w xs []:=λi h=>absurd h Pa
theorem MapRep.snoc{S:Nat->Prop}{w:World}{xs:List Tree}{l:MapL}{k:Str}{cs:List Value}(h:MapRep S w xs l)(hl:l.length<xs.length)(hr:Rep S w (Mb xs[l.length]) cs):MapRep S w xs (l++[(k,.agg cs.toArray)]):=by
  intro i hi;rw[dQ,List.length_singleton]at hi;by_cases he:i<l.length
  ·obtain⟨c, h1, h2, h3⟩ := h i he
   exact⟨c,by rw[List.getElem_append_left he];exact h1,h2,h3⟩
  obtain rfl : i = l.length := by omega
  exact⟨cs,by simp,hl,hr⟩
theorem H5{l:MapL}{ks:List Str}{j:Nat}(h:j<ks.length)(hl:l.map (·.1)=ks.take j)(hn:ks.Nodup):Af l ks[j]=none:=by
  have hnot:¬ks[j]∈ks.take j:=λhm=>Up h hm hn;rw[<-hl]at hnot;unfold Af;rw[Option.map_eq_none_iff,List.find?_eq_none];intro x hx he;exact hnot (nQ.2 ⟨x,hx,by simpa using he⟩)
theorem RA{l:MapL}{ks:List Str}{j:Nat}{v:Value}(h:j<ks.length)(hl:l.map (·.1)=ks.take j):(l++[(ks[j],v)]).map (·.1)=ks.take (j+1):=by
  rw[jQ,hl,iQ h];rfl
theorem SE{l:MapL}{ks:List Str}{j:Nat}(h:j<=ks.length)(hl:l.map (·.1)=ks.take j):l.length=j:=by
  have:=congrArg List.length hl;rw[rQ,List.length_take]at this;omega
theorem Tx(k:Int)(t:Str)(ks:List Str)(xs:List Tree)(hn:ks.Nodup)(hlen:ks.length=xs.length)(S:Nat->Prop)(w0:World)(cs:List Value)(hR:Rep S w0 (Mb (.node k t ks xs)) cs):Calls prog 70 #[.agg cs.toArray] w0 (Hd λv w'=>∃(b:Nat)(l:MapL),v=.map (some b)/\w0.heap.size<=b/\w'.heap[b]? = some (Wf l)/\l.map (·.1)=ks/\MapRep S w' xs l/\Same [] w0 w'):=by
 obtain⟨A,c,B,e,rfl,-,-,hK,hX⟩:=hR.tree_inv;have hXl:=hX.slice_len;have hKl:=hK.slice_len;refine Ga func70 O ntmps70 Ib (Kc _) ?_;have hF:=FR.start w0 [];refine Ka (Mg hF O ?_);rintro b1 w hb1 hF -;refine Da (JG) (Yb (Da (Ld Qi O) (Qd (Gm isAgg24 O hF.F 0 O O) (Da (Fh iZ O) ?_))));refine Rp (v:=λb=>.map (some b)) hF (Gy nZ O) ?_;rintro b2 w hb2 hF -;refine Da (JG) (Ea (Ja (Ka (Da (Ld Qi O) (Qd (Gm isAgg24 O hF.F 1 O O) (Da (Fh iZ O) (Da (Bc O) (Ea (Cb ?_)))))))));refine Yc (λμ σ w=>∃(j:Nat),∃(l:MapL),μ=ks.length-j/\(j<=ks.length)/\(l.map (·.1)=ks.take j)/\(MapRep S w0 xs l)/\AllEq σ [(1,V b1),(3,.map (some b2)),(11,.slice A ks.length c),(12,J ((ks.length:Nat))),(13,J ((j:Int)))]/\FR w0 [] [(b2,Wf (l)),(b1,.cells #[J k,I t,.slice A ks.length c,.slice B xs.length e] 27)] w) _ ⟨0,[],O,(Nat.zero_le _),Pa,(MapRep.nil _ _ _),I8,hF⟩ ?_;rintro μ σ w ⟨j,l,rfl,hj,hl,hr,hs,hF⟩;refine Cg.slots hs ?_;clear hs;intro σ;have hll:=SE hj hl;refine Ka (Da (Wo O O) (Ea (Ja ?_)));refine Tc O O (λhc0=>?_) (λhc0=>?_);refine Ta (Ha (Ja (Cb (Ka (Da (Bc O) ?_)))));obtain⟨ad0,hA0,hk0,hx0⟩:=hK.str_elem (i:=j) Ca;refine Oa (v:=.pointer (some (ad0.add (j*1)))) (Va (i:=(j:Int)) A9 O hA0 O Ca Ca) (Oa (v:=I (ks[j])) (Xd zQ O (hF.cell0 hk0)) (Da (Gd O) (Da (Bm O) (Ea (Ma (Da (Lq) (Da (Oe O) (Da (Ld Md O) (Qd (Gm uQ O hF.F 1 O O) (Da (Bc O) ?_))))))))));obtain⟨ad1,cs1,hA1,hl1,hk1,hx1⟩:=hX.tree_elem (i:=j) Ca;have ho1:=hx1.one_;refine Oa (v:=.pointer (some (ad1.add (j*4)))) (Va (i:=(j:Int)) Pk O hA1 O Ca Ca) (Oa (v:=.agg (List.toArray cs1)) (Db (l:=cs1) vQ bZ O hl1 (hF.cells0 hk1)) ?_);refine Sr 0 (v:=.agg (List.toArray cs1)) hF nZ mZ O O O O (H5 Ca hl hn) ?_;rintro w hF -;have hF:FR w0 [] [(b2,Wf (l++[(ks[j],.agg (List.toArray cs1))])),(b1,.cells #[J k,I t,.slice A ks.length c,.slice B xs.length e] 27)] w:=hF
 refine Eb (Ub (Ha (Ma (Da (Dm O O) (Da (Bc O) (Eb ?_))))));refine Hc ⟨_,?_,j+1,l++[(ks[j],.agg (List.toArray cs1))],O,Ca,(RA Ca hl),(hr.snoc Ca (by simpa only[hll]using hx1)),I8,hF⟩;omega;refine Rc (Nc O ?_);refine Ha (Ka (Da (Lq) (Da (JG) (Ea ?_))));refine Sc (v:=.map (some b2)) O O ?_;refine⟨b2,l,O,by have:=hF.ge (i:=0) O;exact this,hF.heap (i:=0) O,?_,?_,hF.same⟩;rw[hl];exact List.take_of_length_le Ca;intro i hi;obtain⟨cs,h1,h2,h3⟩:=hr i hi;exact⟨cs,h1,h2,hF.rep h3⟩
def Ic:List Str->List Tree->Str->Option Tree
  | k::ks,x::xs,key=>if k=key then some x else Ic ks xs key
  | _,_,_=>none
def U0(q:Tree->Tree->Bool)(ks:List Str)(xs:List Tree)(ks':List Str)(ys:List Tree):Bool :=
  (ks.zip xs).all λp=>match Ic ks' ys p.1 with|some y=>q p.2 y|none=>false
theorem MapRep.tail{S:Nat->Prop}{w:World}{x:Tree}{xs:List Tree}{p:Str × Value}{l:MapL}(h:MapRep S w (x::xs) (p::l)):MapRep S w xs l:=by
  intro i hi;obtain⟨cs,h1,h2,h3⟩:=h (i+1) (by simpa using hi);exact⟨cs,by simpa using h1,by simpa using h2,by simpa using h3⟩
theorem Hu{S:Nat->Prop}{w:World}(key:Str):∀{ks:List Str}{xs:List Tree}{l:MapL},l.map (·.1)=ks->MapRep S w xs l ->
    (Af l key=none/\Ic ks xs key=none)\/∃(cs:List Value)(y:Tree),Af l key=some (.agg cs.toArray)/\Ic ks xs key=some y/\y∈xs/\Rep S w (Mb y) cs
  | ks, xs, [], hk, _ => by
    left;simp only[List.map_nil]at hk;subst hk;exact⟨O,by cases xs <;> rfl⟩
  | ks, [], p :: l, hk, hm => by
    obtain⟨cs,h1,h2,h3⟩:=hm 0 Pa;simp at h2
  | ks, x :: xs, p :: l, hk, hm => by
    rw[List.map_cons]at hk;subst hk;by_cases h:p.1=key
    ·right
     obtain⟨cs,h1,h2,h3⟩:=hm 0 Pa;refine⟨cs,x,?_,by simp[Ic,h],by simp,h3⟩;simp only[List.getElem_cons_zero]at h1;simp[Af,h,h1]
    have e1 : Af (p :: l) key = Af l key := by simp[Af, h]
    have e2:Ic (p.1::l.map (·.1)) (x::xs) key=Ic (l.map (·.1)) xs key:=by simp[Ic,h]
    rw[e1,e2];rcases Hu key rfl hm.tail with h|⟨cs,y,h1,h2,h3,h4⟩
    ·exact .inl h
    exact .inr ⟨cs,y,h1,h2,by simp[h3],h4⟩
def BothC(w0:World)(g:Nat)(xs ys:List Tree)(q:Tree->Tree->Bool):Prop:=∀x,x∈xs->∀y,y∈ys->∀S S' w cs ct,Same [] w0 w->Rep S w (Mb x) cs->Rep S' w (Mb y) ct->Calls prog g #[.agg cs.toArray,.agg ct.toArray] w (Hd λv w'=>v=.bool (q x y)/\Same [] w w')
theorem BothC.ext{w0 w:World}{g:Nat}{xs ys:List Tree}{q:Tree->Tree->Bool}(h:BothC w0 g xs ys q)(hs:Same [] w0 w):BothC w g xs ys q:=λx hx y hy S S' w' cs ct hw=>h x hx y hy S S' w' cs ct (hs.trans hw)
def FQ(q:Tree->Tree->Bool)(ks:List Str)(xs:List Tree)(ks':List Str)(ys:List Tree)(i:Nat):Prop:=∀(h:i<ks.length)(h2:i<xs.length),∃y,Ic ks' ys ks[i]=some y/\q xs[i] y=true
theorem IB{q:Tree->Tree->Bool}{ks ks':List Str}{xs ys:List Tree}(h:∀i,i<ks.length->FQ q ks xs ks' ys i):U0 q ks xs ks' ys=true:=by
  unfold U0;rw[List.all_eq_true];intro p hp;obtain⟨i,hi,rfl⟩:=List.getElem_of_mem hp;rw[List.length_zip]at hi;obtain⟨y,h1,h2⟩:=h i Ca Ca Ca;rw[List.getElem_zip];simp only[h1,h2]
theorem Vv{q:Tree->Tree->Bool}{ks ks':List Str}{xs ys:List Tree}{i:Nat}(h:i<ks.length)(h2:i<xs.length)(hn:∀y,Ic ks' ys ks[i]=some y->q xs[i] y=false):U0 q ks xs ks' ys=false:=by
  unfold U0;rw[Bool.eq_false_iff];intro ha;have:=List.all_eq_true.1 ha ((ks.zip xs)[i]'(by rw[List.length_zip];omega)) (eQ _);rw[List.getElem_zip]at this;simp only at this;cases hl:Ic ks' ys ks[i]with
  | none=>rw[hl]at this;cases this
  | some y=>rw[hl]at this;simp only at this;rw[hn y hl]at this;cases this
theorem J4(q:Tree->Tree->Bool)(ks ks':List Str)(xs ys:List Tree)(m1 m2:Nat)(l1 l2:MapL)(S S':Nat->Prop)(w0:World)(h1:w0.heap[m1]? = some (Wf l1))(h2:w0.heap[m2]? = some (Wf l2))(hk1:l1.map (·.1)=ks)(hk2:l2.map (·.1)=ks')(hm1:MapRep S w0 xs l1)(hm2:MapRep S' w0 ys l2)(hq:BothC w0 46 xs ys q):Calls prog 69 #[.map (some m1),.map (some m2),.func (.func 46) #[] #[]] w0 (Hd λv w'=>v=.bool (decide (ks.length=ks'.length)&&U0 q ks xs ks' ys)/\Same [] w0 w'):=by
 have e1:l1.length=ks.length:=by rw[<-hk1,rQ]
 have e2:l2.length=ks'.length:=by rw[<-hk2,rQ]
 refine Ga func69 O ntmps69 Ib (Km _ _ _) ?_;have hF:=FR.start w0 [];refine Ka (Da (Kb O) (Ea (Ja (Ka (Da (Lq) (Oa (v:=J (((l1).length:Nat))) (Ry nZ O (hF.heap0 h1)) (Da (Lq) (Oa (v:=J (((l2).length:Nat))) (Ry nZ O (hF.heap0 h2)) (Da (Zz O O) (Eb ?_))))))))));refine Ha (Tc O O (λhc0=>?_) (λhc0=>?_));refine Ka (Da (Kb O) (Ea ?_));refine Sc (v:=.bool false) O O ?_;exact⟨congrArg Value.bool (by rw[decide_eq_false Ca];rfl),hF.same⟩;refine Ta (Ha (Ja (Ka (Da (Lq) ?_))));refine Rp (v:=λb=>V b) (o:=.mapIter (some m1) (l1).length #[] (l1).length) hF (UD nZ O (hF.heap0 h1)) ?_;rintro b1 w hb1 hF -;refine Ea (Cb ?_);refine Yc (λμ σ w=>∃(seen:Array Nat),μ=Wz l1.length seen/\(∀i,i<l1.length->seen.contains i=true->FQ q ks xs ks' ys i)/\AllEq σ [(1,.map (some m2)),(2,.func (.func 46) #[] #[]),(17,V b1)]/\FR w0 [] [(b1,.mapIter (some m1) (l1).length (seen) (l1).length)] w) _ ⟨#[],O,(λi _ h=>by simp at h),U4,hF⟩ ?_;rintro μ σ w ⟨seen,rfl,hs_,hs,hF⟩;refine Cg.slots hs ?_;clear hs;intro σ;refine Ka (NG 0 (b:=m1) (l:=l1) (seen:=seen) hF O O (hF.heap0 h1) (λhall=>?_) (λj w hj hn hF2 hE _=>?_));refine Da (Fq O O) (Ea (Ja (Fk O ?_)));refine Rc (Nc O ?_);refine Ha (Ka (Da (Kb O) (Ea ?_)));refine Sc (v:=.bool true) O O ?_;exact⟨congrArg Value.bool (by rw[decide_eq_true Ca,IB (λi hi=>hs_ i Ca (hall i Ca))];rfl),hF.same⟩;clear hF;have hF:FR w0 [] [(b1,.mapIter (some m1) (l1).length ((seen).push j) (l1).length)] w:=hF2;clear hE hF2;refine Da (Fq O O) (Ea (Ja (Ie O (Ta (Ha (Cb (Ka ?_)))))));obtain⟨cx,hcx,hx2,hrx⟩:=hm1 j hj;have hox:=hrx.one_;have hlx:cx.length=4:=hrx.length.trans (Jc _);have hkj:(l1)[j].1=ks[j]'(by rw[<-hk1,rQ];exact hj):=by have:=List.getElem_map (·.1) (l:=l1) (i:=j) (h:=by rw[rQ];exact hj);simp only[hk1]at this;exact this.symm
 refine Oa (v:=.tuple #[I ((l1)[j].1),.agg (List.toArray cx)]) (ZC O hj (hF.heap (i:=0) O) (hF.heap0 h1) (hcx)) (Da (IF O O) (Da (E5 O O) ?_));refine Ce (cs:=#[J 0,I [],aQ,aQ]) hF oZ O ?_;rintro b2 w hb2 hF -;refine Da (Bm O) ?_;refine Wl 0 (l:=cx) (cs':=(List.toArray cx)) hF (by rw[hlx];exact bZ) O (v:=.agg (List.toArray cx)) O O (hox) O (by rw[hlx];exact Nat.le_of_ble_eq_true O) (Dj (by rw[hlx];rfl)) ?_;rintro w hF -;refine Yb (Da (Lq) (Da (Oe O) ?_));rcases Hu (l1)[j].1 hk2 hm2 with ⟨hlk,hlt⟩|⟨cy,y,hlk,hlt,hym,hry⟩
 refine Oa (v:=.tuple #[.agg #[J 0,I [],aQ,aQ],.bool false]) (Ew nZ mZ oZ O O (hF.heap0 h2) (by rw[hlk];rfl) (by rw[hlk];rfl)) ?_;refine Da (Yq O) (Da (E5 O O) (Da (Fq O O) ?_));refine Zi hF oZ bZ O ?_;rintro b3 w hb3 hF -;refine Da (Kb O) (Yb (Da (Nd O) (Da (Ui (b:=false) O) (Da (Nd O) (Ia (Ia (Ia (Ia (Ia (Da (Ec O O) ?_))))))))));refine Ea (Ie O (Ka (Da (Kb O) (Ea ?_))));refine Sc (v:=.bool false) O O ?_;exact⟨congrArg Value.bool (by rw[Vv (i:=j) Ca hx2 (λy hy=>by rw[<-hkj,hlt]at hy;cases hy),Bool.and_false]),hF.same⟩;have hoy:=hry.one_;have hly:cy.length=4:=hry.length.trans (Jc _);refine Oa (v:=.tuple #[.agg (List.toArray cy),.bool true]) (Ew nZ mZ oZ O O (hF.heap0 h2) (by rw[hlk];rfl) (by rw[hlk];rfl)) ?_;refine Da (Yq O) (Da (E5 O O) (Da (Fq O O) ?_));refine Cy (l:=cy) hF oZ (by rw[hly];exact bZ) (by rw[hly];rfl) (v:=.agg (List.toArray cy)) O O (hoy) O ?_;rintro b4 w hb4 hF -;refine Da (Kb O) (Yb (Da (Nd O) (Da (Ui (b:=true) O) (Da (Nd O) (Da (Lq) (Oa (v:=.agg (List.toArray cx)) (Db (l:=cx) vQ bZ O hlx (hF.cellsAll 1 O)) (Oa (v:=.agg (List.toArray cy)) (Db (l:=cy) vQ bZ O hly (hF.cellsAll 0 O)) ?_)))))));refine Ra hF (hq _ (eQ hx2) y hym S S' _ cx cy hF.same (hF.rep hrx) (hF.rep hry)) (O1 O TF O O O) ?_;intro w hF;refine Da (Ui O) (Da (Ed O O) (Ea ?_));refine Me O O (λhc2=>?_) (λhc2=>?_);refine Ka (Da (Kb O) (Ea ?_));refine Sc (v:=.bool false) O O ?_;exact⟨congrArg Value.bool (by rw[Vv (i:=j) Ca hx2 (λy1 hy=>by rw[<-hkj,hlt]at hy;injection hy with hy;subst hy;simpa using hc2),Bool.and_false]),hF.same⟩;refine Ta (Ub ?_);refine Hc ⟨_,?_,seen.push j,rfl,(λi hi hc=>by rw[contains_push]at hc;rcases Bool.or_eq_true_iff.1 hc with hc|hc;exact hs_ i hi hc;obtain rfl:=beq_iff_eq.1 hc;exact λh _=>⟨y,by rw[<-hkj];exact hlt,by simpa using hc2⟩),U4,hF.drop 2⟩
 exact H4 hj hn
mutual
def Yd:Tree->Tree->Bool
  | .node k t ks xs,.node k' t' ks' ys=>decide (k=k')&&decide (t=t')&&decide (xs.length=ys.length)&&(if k≠6 then Cp xs ys else decide (ks.length=ks'.length)&&Sp xs ks ks' ys)
def Cp:List Tree->List Tree->Bool
  | x::xs,y::ys=>Yd x y&&Cp xs ys
  | _,_=>true
def Sp:List Tree->List Str->List Str->List Tree->Bool
  | x::xs,k::ks,ks',ys=>(match Ic ks' ys k with|some y=>Yd x y|none=>false)&&Sp xs ks ks' ys
  | _,_,_,_=>true
end
def Oj(q:Tree->Tree->Bool)(xs ys:List Tree):Bool:=decide (xs.length=ys.length)&&(xs.zip ys).all λp=>q p.1 p.2
theorem Mf:∀xs ys:List Tree,((xs.zip ys).all λp=>Yd p.1 p.2)=Cp xs ys
  | [],ys=>by cases ys <;> simp[Cp]
  | x::xs,[]=>by simp[Cp]
  | x::xs,y::ys=>by rw[List.zip_cons_cons,List.all_cons,Mf xs ys,Cp]
theorem Hf:∀(xs:List Tree)(ks ks':List Str)(ys:List Tree),U0 Yd ks xs ks' ys=Sp xs ks ks' ys
  | [],ks,ks',ys=>by cases ks <;> simp[U0,Sp]
  | x::xs,[],ks',ys=>by simp[U0,Sp]
  | x :: xs, k :: ks, ks', ys => by
    have:=Hf xs ks ks' ys;unfold U0 at this ⊢;rw[List.zip_cons_cons,List.all_cons,this,Sp]
    try rfl
theorem Ax{q:Tree->Tree->Bool}{xs ys:List Tree}{j:Nat}(h:j<xs.length)(h2:j<ys.length)(ha:((xs.take j).zip (ys.take j)).all (λp=>q p.1 p.2)=true)(hq:q xs[j] ys[j]=true):((xs.take (j+1)).zip (ys.take (j+1))).all (λp=>q p.1 p.2)=true:=by
  rw[iQ h,iQ h2,List.zip_append (by rw[List.length_take,List.length_take];omega),List.all_append,ha];simp[hq]
theorem N5{q:Tree->Tree->Bool}{xs ys:List Tree}{j:Nat}(h:j<xs.length)(h2:j<ys.length)(hq:q xs[j] ys[j]=false):((xs.zip ys).all λp=>q p.1 p.2)=false:=by
  rw[Bool.eq_false_iff];intro ha;have:=List.all_eq_true.1 ha ((xs.zip ys)[j]'(by rw[List.length_zip];omega)) (eQ _);rw[List.getElem_zip]at this;simp only[hq]at this;cases this
theorem MapRep.ext{S:Nat->Prop}{w w':World}{xs:List Tree}{l:MapL}(h:MapRep S w xs l)(hs:Same [] w w'):MapRep S w' xs l:=λi hi=>by
  obtain⟨cs,h1,h2,h3⟩:=h i hi;exact⟨cs,h1,h2,h3.ext hs⟩
theorem Same.heap{w w':World}{b:Nat}{o:Obj}(hs:Same [] w w')(h:w.heap[b]? = some o):w'.heap[b]? = some o:=(hs.block b (Qa h) Pa).trans h
theorem Zx{q:Tree->Bool}:∀{xs:List Tree},Zk q xs=true->∀x∈xs,Pd q x=true
  | [],_,_,h=>absurd h Pa
  | y :: ys, h, x, hx => by
    rw[Zk,Bool.and_eq_true]at h;rcases oQ.1 hx with rfl|hx
    ·exact h.1
    exact Zx h.2 x hx
theorem Lh{q:Tree->Bool}{k:Int}{t:Str}{ks:List Str}{xs:List Tree}(h:Pd q (.node k t ks xs)=true):q (.node k t ks xs)=true/\∀x∈xs,Pd q x=true:=by
  rw[Pd,Bool.and_eq_true]at h;exact⟨h.1,Zx h.2⟩
theorem Lu{t:Str}{ks:List Str}{xs:List Tree}(h:nodeB (.node 6 t ks xs)=true):ks.Nodup/\ks.length=xs.length:=by
  simp only[nodeB,Pq]at h;simp at h;exact⟨h.1.1.1,by omega⟩
def CD(x:Tree):Prop:=∀y S S' w0 cs ct,Rep S w0 (Mb x) cs->Rep S' w0 (Mb y) ct->Pd nodeB x=true->Pd nodeB y=true->Calls prog 46 #[.agg cs.toArray,.agg ct.toArray] w0 (Hd λv w'=>v=.bool (Yd x y)/\Same [] w0 w')
theorem R4(q:Tree->Tree->Bool)(xs ys:List Tree)(B B':Option Addr)(e e':Nat)(S S':Nat->Prop)(w0:World)(hX:Rep S w0 (.slice (Dd xs)) [.slice B xs.length e])(hY:Rep S' w0 (.slice (Dd ys)) [.slice B' ys.length e'])(hq:BothC w0 46 xs ys q):Calls prog 68 #[.slice B xs.length e,.slice B' ys.length e',.func (.func 46) #[] #[]] w0 (Hd λv w'=>v=.bool (Oj q xs ys)/\Same [] w0 w'):=by
 have hXl:=hX.slice_len;have hYl:=hY.slice_len;refine Ga func68 O ntmps68 Ib (Km _ _ _) ?_;have hF:=FR.start w0 [];refine Ka (Da (Kb O) (Ea (Ja (Ka (Da (Wd O) (Da (Fh jZ O) (Da (Wd O) (Da (Fh jZ O) (Da (Zz O O) (Eb ?_))))))))));refine Ha (Tc O O (λhc0=>?_) (λhc0=>?_));refine Ka (Da (Kb O) (Ea ?_));refine Sc (v:=.bool false) O O ?_;exact⟨congrArg Value.bool (by unfold Oj;rw[decide_eq_false Ca];rfl),hF.same⟩;refine Ta (Ha (Ja (Ka (Da (Wd O) (Da (Fh jZ O) (Da (Bc O) (Ea (Cb ?_))))))));refine Yc (λμ σ w=>∃(j:Nat),μ=xs.length-j/\(j<=xs.length)/\(((xs.take j).zip (ys.take j)).all (λp=>q p.1 p.2)=true)/\AllEq σ [(1,.slice B' ys.length e'),(2,.func (.func 46) #[] #[]),(15,.slice B xs.length e),(16,J ((xs.length:Nat))),(17,J ((j:Int)))]/\FR w0 [] [] w) _ ⟨0,O,(Nat.zero_le _),Pa,I8,hF⟩ ?_;rintro μ σ w ⟨j,rfl,hj,ha,hs,hF⟩;refine Cg.slots hs ?_;clear hs;intro σ;refine Ka (Da (Wo O O) (Ea (Ja ?_)));refine Tc O O (λhc1=>?_) (λhc1=>?_);refine Ta (Ha (Ja (Cb (Ka (Da (Bc O) ?_)))));obtain⟨ad0,cs0,hA0,hl0,hk0,hx0⟩:=hX.tree_elem (i:=j) Ca;have ho0:=hx0.one_;refine Oa (v:=.pointer (some (ad0.add (j*4)))) (Va (i:=(j:Int)) Pk O hA0 O Ca Ca) (Oa (v:=.agg (List.toArray cs0)) (Db (l:=cs0) vQ bZ O hl0 (hF.cells0 hk0)) ?_);refine Ce (cs:=#[J 0,I [],aQ,aQ]) hF oZ O ?_;rintro b1 w hb1 hF -;refine Da (Gd O) ?_;refine Wl 0 (l:=cs0) (cs':=(List.toArray cs0)) hF (by rw[hl0];exact bZ) O (v:=.agg (List.toArray cs0)) O O (ho0) O (by rw[hl0];exact Nat.le_of_ble_eq_true O) (Dj (by rw[hl0];rfl)) ?_;rintro w hF -;refine Yb (Da (Wd O) (Da (Bc O) ?_));obtain⟨ad1,cs1,hA1,hl1,hk1,hx1⟩:=hY.tree_elem (i:=j) Ca;have ho1:=hx1.one_;refine Oa (v:=.pointer (some (ad1.add (j*4)))) (Va (i:=(j:Int)) Pk O hA1 O Ca Ca) (Oa (v:=.agg (List.toArray cs1)) (Db (l:=cs1) vQ bZ O hl1 (hF.cells0 hk1)) ?_)
 refine Cy (l:=cs1) hF oZ (by rw[hl1];exact bZ) (by rw[hl1];rfl) (v:=.agg (List.toArray cs1)) O O (ho1) O ?_;rintro b2 w hb2 hF -;refine Yb (Da (Lq) (Oa (v:=.agg (List.toArray cs0)) (Db (l:=cs0) vQ bZ O hl0 (hF.cellsAll 1 O)) (Oa (v:=.agg (List.toArray cs1)) (Db (l:=cs1) vQ bZ O hl1 (hF.cellsAll 0 O)) ?_)));refine Ra hF (hq _ (List.getElem_mem (l:=xs) (n:=j) Ca) _ (List.getElem_mem (l:=ys) (n:=j) Ca) _ _ _ _ _ hF.same (hF.rep hx0) (hF.rep hx1)) (O1 O TF O O O) ?_;intro w hF;refine Da (Ui O) (Ea ?_);refine Me O O (λhc2=>?_) (λhc2=>?_);refine Ka (Da (Kb O) (Ea ?_));refine Sc (v:=.bool false) O O ?_;exact⟨congrArg Value.bool (by unfold Oj;rw[N5 (j:=j) Ca Ca (by simpa using hc2),Bool.and_false]),hF.same⟩;refine Ta (Ub (Ha (Ma (Da (Dm O O) (Da (Bc O) (Eb ?_))))));refine Hc ⟨_,?_,j+1,O,Ca,(Ax Ca Ca ha (by simpa using hc2)),I8,hF.drop 2⟩;omega;refine Rc (Nc O ?_);refine Ha (Ka (Da (Kb O) (Ea ?_)));refine Sc (v:=.bool true) O O ?_;have eX:xs.take j=xs:=List.take_of_length_le Ca;have eY:ys.take j=ys:=List.take_of_length_le Ca;rw[eX,eY]at ha;exact⟨congrArg Value.bool (by unfold Oj;rw[ha,decide_eq_true Ca];rfl),hF.same⟩
theorem OB(k:Int)(t:Str)(ks:List Str)(xs:List Tree)(ih:∀x,x∈xs->CD x):CD (.node k t ks xs):=by
 rintro⟨k',t',ks',ys⟩ S S' w0 cs ct hR hR' hnx hny;have hnx:=Lh hnx;have hny:=Lh hny;obtain⟨A,c,B,e,rfl,-,-,hK,hX⟩:=hR.tree_inv;obtain⟨A',c',B',e',rfl,-,-,hK',hY⟩:=hR'.tree_inv;have hXl:=hX.slice_len;have hYl:=hY.slice_len;refine Ga func46 O ntmps46 Ib (Kd _ _) ?_;have hF:=FR.start w0 [];refine Ka (Mg hF O ?_);rintro b1 w hb1 hF -;refine Mg hF O ?_;rintro b2 w hb2 hF -;refine Da (Kb O) (Ea (Ja (Cb (Ja (Ka (Da (Ld Ll O) (Qd (F5 wQ O hF.F 1 O O) (Da (Ld Ll O) (Qd (F5 wQ O hF.F 0 O O) (Da (Zz O O) (Da (Kb O) ?_)))))))))));refine Ea (Tc O O (λhc0=>?_) (λhc0=>?_));refine Ta (Ha (Ie O (Ka (Da (Kb O) (Ea ?_)))));refine Sc (v:=.bool false) O O ⟨congrArg Value.bool ?_,hF.same⟩;rw[Yd];clear hF hXl hYl hR hR' hX hY hK hK' ih hnx hny
 ·first|(simp_all[Oj,Mf,Hf];done)|(simp_all[Oj,Mf,Hf];omega)
 refine Ka (Da (Ld Rf O) (Qd (Xs zQ O hF.F 1 O O) (Da (Ld Rf O) (Qd (Xs zQ O hF.F 0 O O) (Da (ES O O) (Da (Kb O) (Ea ?_)))))));refine Tc O O (λhc1=>?_) (λhc1=>?_);refine Ta (Ha (Ie O (Ka (Da (Kb O) (Ea ?_)))));refine Sc (v:=.bool false) O O ⟨congrArg Value.bool ?_,hF.same⟩;rw[Yd];clear hF hXl hYl hR hR' hX hY hK hK' ih hnx hny
 ·first|(simp_all[Oj,Mf,Hf];done)|(simp_all[Oj,Mf,Hf];omega)
 refine Ma (Da (Ld Md O) (Qd (Gm uQ O hF.F 1 O O) (Da (Fh jZ O) (Da (Ld Md O) (Qd (Gm uQ O hF.F 0 O O) (Da (Fh jZ O) (Da (Zz O O) (Da (Kb O) (Ea ?_)))))))));refine Tc O O (λhc2=>?_) (λhc2=>?_);refine Ka (Da (Kb O) (Ea ?_));refine Sc (v:=.bool false) O O ⟨congrArg Value.bool ?_,hF.same⟩;rw[Yd];clear hF hXl hYl hR hR' hX hY hK hK' ih hnx hny
 ·first|(simp_all[Oj,Mf,Hf];done)|(simp_all[Oj,Mf,Hf];omega)
 refine Ka (Da (Ld Ll O) (Qd (F5 wQ O hF.F 1 O O) (Da (Zz O O) (Da (Kb O) (Ea ?_)))));refine Tc O O (λhc3=>?_) (λhc3=>?_);refine Ka (Da (Ld Md O) (Qd (Gm uQ O hF.F 1 O O) (Da (Ld Md O) (Qd (Gm uQ O hF.F 0 O O) ?_))));refine Ra hF (R4 Yd xs ys B B' e e' S S' _ (hF.rep hX) (hF.rep hY) (λx hx y hy S1 S2 w1 cs1 ct1 _ h1 h2=>ih x hx y S1 S2 w1 cs1 ct1 h1 h2 (hnx.2 x hx) (hny.2 y hy))) (Ye UN O O O O) ?_;intro w hF;refine Da (Kb O) (Ea ?_);refine Sc (v:=.bool _) O O ⟨congrArg Value.bool ?_,hF.same⟩;rw[Yd];clear hF hXl hYl hR hR' hX hY hK hK' ih hnx hny
 ·first|(simp_all[Oj,Mf,Hf];done)|(simp_all[Oj,Mf,Hf];omega)
 refine Ta (Ub (Ha (Ja ?_)));refine Qf (zs:=.of []) (.free 0 (.free 2 (cQ [1,3,4] (.free 5 .nil)))) hF ?_;intro w hF;refine Mq O (Hj vQ bZ O C0 1 O O) (Mq O (Hj vQ bZ O C0 0 O O) ?_);have k6:k=6:=by simpa using hc3
 refine Qe O (Tx k t ks xs (Lu (k6▸hnx.1)).1 (Lu (k6▸hnx.1)).2 S _ _ (hF.rep hR)) (Sa LK O O) ?_;rintro _ w ⟨m1,l1,rfl,-,hm1,hk1,hr1,hE⟩;have hF:=hF.ext hE;refine⟨hF,?_⟩;have k6':k'=6:=by omega
 refine Qe O (Tx k' t' ks' ys (Lu (k6'▸hny.1)).1 (Lu (k6'▸hny.1)).2 S' _ _ (hF.rep hR')) (Sa LK O O) ?_;rintro _ w ⟨m2,l2,rfl,-,hm2,hk2,hr2,hE⟩;have hF:=hF.ext hE;have hm1:=hE.heap hm1;have hr1:=hr1.ext hE;refine⟨hF,?_⟩;refine Yf hF (J4 Yd ks ks' xs ys m1 m2 l1 l2 S S' _ hm1 hm2 hk1 hk2 hr1 hr2 (λx hx y hy S1 S2 w1 cs1 ct1 _ h1 h2=>ih x hx y S1 S2 w1 cs1 ct1 h1 h2 (hnx.2 x hx) (hny.2 y hy))) O (Ye CP O O O O) ?_;intro w hF;refine⟨hF,?_⟩;refine Lc O (Kb O) (Zd (Ha ?_));refine Sc (v:=.bool _) O O ⟨congrArg Value.bool ?_,hF.same⟩;rw[Yd];clear hF hXl hYl hR hR' hX hY hK hK' ih hnx hny
 ·first|(simp_all[Oj,Mf,Hf];done)|(simp_all[Oj,Mf,Hf];omega)
theorem HL(x:Tree):CD x:=Tree.ind OB x
def BothI(w0:World)(g:Nat)(xs ys:List Tree)(q:Tree->Tree->Int):Prop:=∀x,x∈xs->∀y,y∈ys->∀S S' w cs ct,Same [] w0 w->Rep S w (Mb x) cs->Rep S' w (Mb y) ct->Calls prog g #[.agg cs.toArray,.agg ct.toArray] w (Hd λv w'=>v=J (q x y)/\Same [] w w')
theorem BothI.ext{w0 w:World}{g:Nat}{xs ys:List Tree}{q:Tree->Tree->Int}(h:BothI w0 g xs ys q)(hs:Same [] w0 w):BothI w g xs ys q:=λx hx y hy S S' w' cs ct hw=>h x hx y hy S S' w' cs ct (hs.trans hw)
def Yl(x y:Tree):Bool:=Wh x&&Wh y&&Yd x y
theorem Yt{x:Tree}(h:Wh x=true):Pd nodeB x=true:=by unfold Wh at h;rw[Bool.and_eq_true]at h;exact h.2
theorem Nt(x y:Tree)(hsx:Gb x<=1000000000)(hsy:Gb y<=1000000000)(S S':Nat->Prop)(w0:World)(cs ct:List Value)(hR:Rep S w0 (Mb x) cs)(hR':Rep S' w0 (Mb y) ct)(hk:Tw x)(hk':Tw y)(hG:Gl w0):Calls prog 24 #[.agg cs.toArray,.agg ct.toArray] w0 (Hd λv w'=>v=.bool (Yl x y)/\Same [] w0 w'):=by
 have hl:cs.length=4:=hR.length.trans (Jc x);have ho:=hR.one_;have hl':ct.length=4:=hR'.length.trans (Jc y);have ho':=hR'.one_;refine Ga func24 O ntmps24 Ib (Kd _ _) ?_;have hF:=FR.start w0 [];refine Ka (Im (v:=.agg (List.toArray cs)) (cs:=(List.toArray cs)) hF O O ?_);rintro b1 w hb1 hF -;refine Im (v:=.agg (List.toArray ct)) (cs:=(List.toArray ct)) hF O O ?_;rintro b2 w hb2 hF -;refine Da (Kb O) (Yb (Oa (v:=.agg (List.toArray cs)) (Db (l:=cs) vQ bZ O hl (hF.cellsAll 1 O)) ?_));refine Ra hF (E0 x hsx S _ cs (hF.rep hR) hk (hG.ext hF.same)) (Sa K9 O O) ?_;intro w hF;refine Da (Nd O) (Uc (d:=7) O (λhg0=>?_) (λhg0=>?_));refine Oa (v:=.agg (List.toArray ct)) (Db (l:=ct) vQ bZ O hl' (hF.cellsAll 0 O)) (Ra hF (E0 y hsy S' _ ct (hF.rep hR') hk' (hG.ext hF.same)) (Sa K9 O O) ?_);intro w hF;refine Da (Ec O O) (Da (Nd O) ?_);refine Uc (d:=11) O (λhg1=>?_) (λhg1=>?_);refine Oa (v:=.agg (List.toArray cs)) (Db (l:=cs) vQ bZ O hl (hF.cellsAll 1 O)) (Oa (v:=.agg (List.toArray ct)) (Db (l:=ct) vQ bZ O hl' (hF.cellsAll 0 O)) ?_);refine Ra hF (HL x y S S' _ cs ct (hF.rep hR) (hF.rep hR') (Yt (by simp_all)) (Yt (by simp_all))) (Fb TF O O O) ?_;intro w hF;refine Da (Ec O O) (Da (Kb O) (Ea ?_));refine Sc (v:=.bool _) O O ⟨congrArg Value.bool ?_,hF.same⟩;unfold Yl;clear hF hR hR';simp_all;refine Ia (Ia (Ia (Da (Ed O O) (Da (Kb O) (Ea ?_)))));refine Sc (v:=.bool false) O O ⟨congrArg Value.bool ?_,hF.same⟩;unfold Yl;clear hF hR hR';simp_all;refine Ia (Ia (Da (Ed O O) (Da (Nd O) (Ia (Ia (Ia (Da (Ed O O) (Da (Kb O) (Ea ?_)))))))));refine Sc (v:=.bool false) O O ⟨congrArg Value.bool ?_,hF.same⟩;unfold Yl;clear hF hR hR';simp_all
theorem ND(n:Int)(h1:-9223372036854775808<=n)(h2:n<=9223372036854775807)(w0:World)(hG:Gl w0):Calls prog 25 #[J n] w0 (Hd λv w'=>v=.agg #[J 3,I (Qk (MB n)),aQ,aQ]/\Same [] w0 w'):=by
 refine Ga func25 O ntmps25 Ib (Kc _) ?_;have hF:=FR.start w0 [];refine Ka (Ce (cs:=#[J 0,I [],aQ,aQ]) hF oZ O ?_);rintro b1 w hb1 hF -;refine Yb (Da (Bc O) ?_);refine Ra hF (BH n h1 h2 _ (hG.ext hF.same)) (Sa PP O O) ?_;intro w hF;refine Ra hF (PE (MB n) (by have:=So (Lib.itoa n);exact fQ this Ob) _ (hG.ext hF.same)) (Sa NK O O) ?_;intro w hF;refine Oa (w':=w) (v:=.agg #[J 3,I (Qk (MB n)),aQ,aQ]) Xb (Lg hF bZ O O Fj ?_);rintro w hF -;refine Ea (Wb (Rb (Ua (Jm O (l:=[J 3,I (Qk (MB n)),aQ,aQ]) O vQ bZ O (hF.cellsAll 0 O)) ?_)));exact⟨O,hF.same⟩
end Go.Scarf
