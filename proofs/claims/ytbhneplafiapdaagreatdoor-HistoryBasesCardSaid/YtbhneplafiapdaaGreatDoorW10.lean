/- A part of the proof. -/
import Derived.Test.YtbhneplafiapdaaGreatDoorW4
set_option linter.all false
set_option maxHeartbeats 8000000
set_option maxRecDepth 10000
namespace Go.Scarf
open Go.RowKit Go.Proofs Go.Proofs.Tryz
def MapRep(S:Nat->Prop)(w:World)(xs:List Tree)(l:MapL):Prop:=∀i (h:i<l.length),∃cs:List Value,l[i].2=.agg cs.toArray/\∃h2:i<xs.length,Rep S w (Pb xs[i]) cs
theorem MapRep.nil(S:Nat->Prop)(w:World)(xs:List Tree):MapRep S w xs []:=λi h=>absurd h Pa
theorem MapRep.snoc{S:Nat->Prop}{w:World}{xs:List Tree}{l:MapL}{k:Str}{cs:List Value}(h:MapRep S w xs l)(hl:l.length<xs.length)(hr:Rep S w (Pb xs[l.length]) cs):MapRep S w xs (l++[(k,.agg cs.toArray)]):=by
  intro i hi;rw[dQ,List.length_singleton]at hi;by_cases he:i<l.length
  ·obtain⟨c, h1, h2, h3⟩ := h i he
   exact⟨c,by rw[List.getElem_append_left he];exact h1,h2,h3⟩
  obtain rfl : i = l.length := by omega
  exact⟨cs,by simp,hl,hr⟩
theorem U7{l:MapL}{ks:List Str}{j:Nat}(h:j<ks.length)(hl:l.map (·.1)=ks.take j)(hn:ks.Nodup):Af l ks[j]=none:=by
  have hnot:¬ks[j]∈ks.take j:=λhm=>Cq h hm hn;rw[<-hl]at hnot;unfold Af;rw[Option.map_eq_none_iff,List.find?_eq_none];intro x hx he;exact hnot (nQ.2 ⟨x,hx,by simpa using he⟩)
theorem S_{l:MapL}{ks:List Str}{j:Nat}{v:Value}(h:j<ks.length)(hl:l.map (·.1)=ks.take j):(l++[(ks[j],v)]).map (·.1)=ks.take (j+1):=by
  rw[jQ,hl,iQ h];rfl
theorem FF{l:MapL}{ks:List Str}{j:Nat}(h:j<=ks.length)(hl:l.map (·.1)=ks.take j):l.length=j:=by
  have:=congrArg List.length hl;rw[rQ,List.length_take]at this;omega
theorem Zx(k:Int)(t:Str)(ks:List Str)(xs:List Tree)(hn:ks.Nodup)(hlen:ks.length=xs.length)(S:Nat->Prop)(w0:World)(cs:List Value)(hR:Rep S w0 (Pb (.node k t ks xs)) cs):Calls prog 70 #[.agg cs.toArray] w0 (Pd λv w'=>∃(b:Nat)(l:MapL),v=.map (some b)/\w0.heap.size<=b/\w'.heap[b]? = some (Rf l)/\l.map (·.1)=ks/\MapRep S w' xs l/\Same [] w0 w'):=by
 obtain⟨A,c,B,e,rfl,-,-,hK,hX⟩:=hR.tree_inv;have hXl:=hX.slice_len;have hKl:=hK.slice_len;refine Ia func70 O ntmps70 Kb (Pc _) ?_;have hF:=FR.start w0 [];refine Ka (Bg hF O ?_);rintro b1 w hb1 hF -;refine Da (GG) (Ec (Da (Ud Ki O) (Xd (Bm isAgg24 O hF.F 0 O O) (Da (Bh iZ O) ?_))));refine Iq (v:=λb=>.map (some b)) hF (Dy nZ O) ?_;rintro b2 w hb2 hF -;refine Da (GG) (Ea (Ha (Ka (Da (Ud Ki O) (Xd (Bm isAgg24 O hF.F 1 O O) (Da (Bh iZ O) (Da (Bc O) (Ea (Wa ?_)))))))));refine Xc (λμ σ w=>∃(j:Nat),∃(l:MapL),μ=ks.length-j/\(j<=ks.length)/\(l.map (·.1)=ks.take j)/\(MapRep S w0 xs l)/\AllEq σ [(1,V b1),(3,.map (some b2)),(11,.slice A ks.length c),(12,J ((ks.length:Nat))),(13,J ((j:Int)))]/\FR w0 [] [(b2,Rf (l)),(b1,.cells #[J k,I t,.slice A ks.length c,.slice B xs.length e] 27)] w) _ ⟨0,[],O,(Nat.zero_le _),Pa,(MapRep.nil _ _ _),PJ,hF⟩ ?_;rintro μ σ w ⟨j,l,rfl,hj,hl,hr,hs,hF⟩;refine Cg.slots hs ?_;clear hs;intro σ;have hll:=FF hj hl;refine Ka (Da (Um O O) (Ea (Ha ?_)));refine Uc O O (λhc0=>?_) (λhc0=>?_);refine Sa (Fa (Ha (Wa (Ka (Da (Bc O) ?_)))));obtain⟨ad0,hA0,hk0,hx0⟩:=hK.str_elem (i:=j) Ca;refine Oa (v:=.pointer (some (ad0.add (j*1)))) (Ta (i:=(j:Int)) P9 O hA0 O Ca Ca) (Oa (v:=I (ks[j])) (Zc zQ O (hF.cell0 hk0)) (Da (Gd O) (Da (Am O) (Ea (Ja (Da (Jq) (Da (Ue O) (Da (Ud Td O) (Xd (Bm uQ O hF.F 1 O O) (Da (Bc O) ?_))))))))));obtain⟨ad1,cs1,hA1,hl1,hk1,hx1⟩:=hX.tree_elem (i:=j) Ca;have ho1:=hx1.one_;refine Oa (v:=.pointer (some (ad1.add (j*4)))) (Ta (i:=(j:Int)) Yk O hA1 O Ca Ca) (Oa (v:=.agg (List.toArray cs1)) (Fb (l:=cs1) vQ bZ O hl1 (hF.cells0 hk1)) ?_);refine Lr 0 (v:=.agg (List.toArray cs1)) hF nZ mZ O O O O (U7 Ca hl hn) ?_;rintro w hF -;have hF:FR w0 [] [(b2,Rf (l++[(ks[j],.agg (List.toArray cs1))])),(b1,.cells #[J k,I t,.slice A ks.length c,.slice B xs.length e] 27)] w:=hF
 refine Db (Qb (Fa (Ja (Da (Zl O O) (Da (Bc O) (Db ?_))))));refine Dc ⟨_,?_,j+1,l++[(ks[j],.agg (List.toArray cs1))],O,Ca,(S_ Ca hl),(hr.snoc Ca (by simpa only[hll]using hx1)),PJ,hF⟩;omega;refine Nc (Fc O ?_);refine Fa (Ka (Da (Jq) (Da (GG) (Ea ?_))));refine Yc (v:=.map (some b2)) O O ?_;refine⟨b2,l,O,by have:=hF.ge (i:=0) O;exact this,hF.heap (i:=0) O,?_,?_,hF.same⟩;rw[hl];exact List.take_of_length_le Ca;intro i hi;obtain⟨cs,h1,h2,h3⟩:=hr i hi;exact⟨cs,h1,h2,hF.rep h3⟩
def Oc:List Str->List Tree->Str->Option Tree
  | k::ks,x::xs,key=>if k=key then some x else Oc ks xs key
  | _,_,_=>none
def Yz(q:Tree->Tree->Bool)(ks:List Str)(xs:List Tree)(ks':List Str)(ys:List Tree):Bool :=
  (ks.zip xs).all λp=>match Oc ks' ys p.1 with|some y=>q p.2 y|none=>false
theorem MapRep.tail{S:Nat->Prop}{w:World}{x:Tree}{xs:List Tree}{p:Str × Value}{l:MapL}(h:MapRep S w (x::xs) (p::l)):MapRep S w xs l:=by
  intro i hi;obtain⟨cs,h1,h2,h3⟩:=h (i+1) (by simpa using hi);exact⟨cs,by simpa using h1,by simpa using h2,by simpa using h3⟩
theorem Vu{S:Nat->Prop}{w:World}(key:Str):∀{ks:List Str}{xs:List Tree}{l:MapL},l.map (·.1)=ks->MapRep S w xs l ->
    (Af l key=none/\Oc ks xs key=none)\/∃(cs:List Value)(y:Tree),Af l key=some (.agg cs.toArray)/\Oc ks xs key=some y/\y∈xs/\Rep S w (Pb y) cs
  | ks, xs, [], hk, _ => by
    left;simp only[List.map_nil]at hk;subst hk;exact⟨O,by cases xs <;> rfl⟩
  | ks, [], p :: l, hk, hm => by
    obtain⟨cs,h1,h2,h3⟩:=hm 0 Pa;simp at h2
  | ks, x :: xs, p :: l, hk, hm => by
    rw[List.map_cons]at hk;subst hk;by_cases h:p.1=key
    ·right
     obtain⟨cs,h1,h2,h3⟩:=hm 0 Pa;refine⟨cs,x,?_,by simp[Oc,h],by simp,h3⟩;simp only[List.getElem_cons_zero]at h1;simp[Af,h,h1]
    have e1 : Af (p :: l) key = Af l key := by simp[Af, h]
    have e2:Oc (p.1::l.map (·.1)) (x::xs) key=Oc (l.map (·.1)) xs key:=by simp[Oc,h]
    rw[e1,e2];rcases Vu key rfl hm.tail with h|⟨cs,y,h1,h2,h3,h4⟩
    ·exact .inl h
    exact .inr ⟨cs,y,h1,h2,by simp[h3],h4⟩
def BothC(w0:World)(g:Nat)(xs ys:List Tree)(q:Tree->Tree->Bool):Prop:=∀x,x∈xs->∀y,y∈ys->∀S S' w cs ct,Same [] w0 w->Rep S w (Pb x) cs->Rep S' w (Pb y) ct->Calls prog g #[.agg cs.toArray,.agg ct.toArray] w (Pd λv w'=>v=.bool (q x y)/\Same [] w w')
theorem BothC.ext{w0 w:World}{g:Nat}{xs ys:List Tree}{q:Tree->Tree->Bool}(h:BothC w0 g xs ys q)(hs:Same [] w0 w):BothC w g xs ys q:=λx hx y hy S S' w' cs ct hw=>h x hx y hy S S' w' cs ct (hs.trans hw)
def SN(q:Tree->Tree->Bool)(ks:List Str)(xs:List Tree)(ks':List Str)(ys:List Tree)(i:Nat):Prop:=∀(h:i<ks.length)(h2:i<xs.length),∃y,Oc ks' ys ks[i]=some y/\q xs[i] y=true
theorem Q_{q:Tree->Tree->Bool}{ks ks':List Str}{xs ys:List Tree}(h:∀i,i<ks.length->SN q ks xs ks' ys i):Yz q ks xs ks' ys=true:=by
  unfold Yz;rw[List.all_eq_true];intro p hp;obtain⟨i,hi,rfl⟩:=List.getElem_of_mem hp;rw[List.length_zip]at hi;obtain⟨y,h1,h2⟩:=h i Ca Ca Ca;rw[List.getElem_zip];simp only[h1,h2]
theorem Vt{q:Tree->Tree->Bool}{ks ks':List Str}{xs ys:List Tree}{i:Nat}(h:i<ks.length)(h2:i<xs.length)(hn:∀y,Oc ks' ys ks[i]=some y->q xs[i] y=false):Yz q ks xs ks' ys=false:=by
  unfold Yz;rw[Bool.eq_false_iff];intro ha;have:=List.all_eq_true.1 ha ((ks.zip xs)[i]'(by rw[List.length_zip];omega)) (eQ _);rw[List.getElem_zip]at this;simp only at this;cases hl:Oc ks' ys ks[i]with
  | none=>rw[hl]at this;cases this
  | some y=>rw[hl]at this;simp only at this;rw[hn y hl]at this;cases this
theorem H2(q:Tree->Tree->Bool)(ks ks':List Str)(xs ys:List Tree)(m1 m2:Nat)(l1 l2:MapL)(S S':Nat->Prop)(w0:World)(h1:w0.heap[m1]? = some (Rf l1))(h2:w0.heap[m2]? = some (Rf l2))(hk1:l1.map (·.1)=ks)(hk2:l2.map (·.1)=ks')(hm1:MapRep S w0 xs l1)(hm2:MapRep S' w0 ys l2)(hq:BothC w0 46 xs ys q):Calls prog 69 #[.map (some m1),.map (some m2),.func (.func 46) #[] #[]] w0 (Pd λv w'=>v=.bool (decide (ks.length=ks'.length)&&Yz q ks xs ks' ys)/\Same [] w0 w'):=by
 have e1:l1.length=ks.length:=by rw[<-hk1,rQ]
 have e2:l2.length=ks'.length:=by rw[<-hk2,rQ]
 refine Ia func69 O ntmps69 Kb (Zm _ _ _) ?_;have hF:=FR.start w0 [];refine Ka (Da (Ob O) (Ea (Ha (Ka (Da (Jq) (Oa (v:=J (((l1).length:Nat))) (Wy nZ O (hF.heap0 h1)) (Da (Jq) (Oa (v:=J (((l2).length:Nat))) (Wy nZ O (hF.heap0 h2)) (Da (Ey O O) (Db ?_))))))))));refine Fa (Uc O O (λhc0=>?_) (λhc0=>?_));refine Ka (Da (Ob O) (Ea ?_));refine Yc (v:=.bool false) O O ?_;exact⟨congrArg Value.bool (by rw[decide_eq_false Ca];rfl),hF.same⟩;refine Sa (Fa (Ha (Ka (Da (Jq) ?_))));refine Iq (v:=λb=>V b) (o:=.mapIter (some m1) (l1).length #[] (l1).length) hF (HD nZ O (hF.heap0 h1)) ?_;rintro b1 w hb1 hF -;refine Ea (Wa ?_);refine Xc (λμ σ w=>∃(seen:Array Nat),μ=Cz l1.length seen/\(∀i,i<l1.length->seen.contains i=true->SN q ks xs ks' ys i)/\AllEq σ [(1,.map (some m2)),(2,.func (.func 46) #[] #[]),(17,V b1)]/\FR w0 [] [(b1,.mapIter (some m1) (l1).length (seen) (l1).length)] w) _ ⟨#[],O,(λi _ h=>by simp at h),V4,hF⟩ ?_;rintro μ σ w ⟨seen,rfl,hs_,hs,hF⟩;refine Cg.slots hs ?_;clear hs;intro σ;refine Ka (OG 0 (b:=m1) (l:=l1) (seen:=seen) hF O O (hF.heap0 h1) (λhall=>?_) (λj w hj hn hF2 hE _=>?_));refine Da (Jp O O) (Ea (Ha (Kj O ?_)));refine Nc (Fc O ?_);refine Fa (Ka (Da (Ob O) (Ea ?_)));refine Yc (v:=.bool true) O O ?_;exact⟨congrArg Value.bool (by rw[decide_eq_true Ca,Q_ (λi hi=>hs_ i Ca (hall i Ca))];rfl),hF.same⟩;clear hF;have hF:FR w0 [] [(b1,.mapIter (some m1) (l1).length ((seen).push j) (l1).length)] w:=hF2;clear hE hF2;refine Da (Jp O O) (Ea (Ha (Le O (Sa (Fa (Wa (Ka ?_)))))));obtain⟨cx,hcx,hx2,hrx⟩:=hm1 j hj;have hox:=hrx.one_;have hlx:cx.length=4:=hrx.length.trans (Rc _);have hkj:(l1)[j].1=ks[j]'(by rw[<-hk1,rQ];exact hj):=by have:=List.getElem_map (·.1) (l:=l1) (i:=j) (h:=by rw[rQ];exact hj);simp only[hk1]at this;exact this.symm
 refine Oa (v:=.tuple #[I ((l1)[j].1),.agg (List.toArray cx)]) (ZC O hj (hF.heap (i:=0) O) (hF.heap0 h1) (hcx)) (Da (EF O O) (Da (GA O O) ?_));refine De (cs:=#[J 0,I [],aQ,aQ]) hF oZ O ?_;rintro b2 w hb2 hF -;refine Da (Am O) ?_;refine Jl 0 (l:=cx) (cs':=(List.toArray cx)) hF (by rw[hlx];exact bZ) O (v:=.agg (List.toArray cx)) O O (hox) O (by rw[hlx];exact Nat.le_of_ble_eq_true O) (Vi (by rw[hlx];rfl)) ?_;rintro w hF -;refine Ec (Da (Jq) (Da (Ue O) ?_));rcases Vu (l1)[j].1 hk2 hm2 with ⟨hlk,hlt⟩|⟨cy,y,hlk,hlt,hym,hry⟩
 refine Oa (v:=.tuple #[.agg #[J 0,I [],aQ,aQ],.bool false]) (Uv nZ mZ oZ O O (hF.heap0 h2) (by rw[hlk];rfl) (by rw[hlk];rfl)) ?_;refine Da (Ct O) (Da (GA O O) (Da (Jp O O) ?_));refine Wl hF oZ bZ O ?_;rintro b3 w hb3 hF -;refine Da (Ob O) (Ec (Da (Yd O) (Da (Bi (b:=false) O) (Da (Yd O) (Ma (Ma (Ma (Ma (Ma (Da (Sc O O) ?_))))))))));refine Ea (Le O (Ka (Da (Ob O) (Ea ?_))));refine Yc (v:=.bool false) O O ?_;exact⟨congrArg Value.bool (by rw[Vt (i:=j) Ca hx2 (λy hy=>by rw[<-hkj,hlt]at hy;cases hy),Bool.and_false]),hF.same⟩;have hoy:=hry.one_;have hly:cy.length=4:=hry.length.trans (Rc _);refine Oa (v:=.tuple #[.agg (List.toArray cy),.bool true]) (Uv nZ mZ oZ O O (hF.heap0 h2) (by rw[hlk];rfl) (by rw[hlk];rfl)) ?_;refine Da (Ct O) (Da (GA O O) (Da (Jp O O) ?_));refine Uy (l:=cy) hF oZ (by rw[hly];exact bZ) (by rw[hly];rfl) (v:=.agg (List.toArray cy)) O O (hoy) O ?_;rintro b4 w hb4 hF -;refine Da (Ob O) (Ec (Da (Yd O) (Da (Bi (b:=true) O) (Da (Yd O) (Da (Jq) (Oa (v:=.agg (List.toArray cx)) (Fb (l:=cx) vQ bZ O hlx (hF.cellsAll 1 O)) (Oa (v:=.agg (List.toArray cy)) (Fb (l:=cy) vQ bZ O hly (hF.cellsAll 0 O)) ?_)))))));refine Ra hF (hq _ (eQ hx2) y hym S S' _ cx cy hF.same (hF.rep hrx) (hF.rep hry)) (X1 O ZD O O O) ?_;intro w hF;refine Da (Bi O) (Da (Ed O O) (Ea ?_));refine Ke O O (λhc2=>?_) (λhc2=>?_);refine Ka (Da (Ob O) (Ea ?_));refine Yc (v:=.bool false) O O ?_;exact⟨congrArg Value.bool (by rw[Vt (i:=j) Ca hx2 (λy1 hy=>by rw[<-hkj,hlt]at hy;injection hy with hy;subst hy;simpa using hc2),Bool.and_false]),hF.same⟩;refine Sa (Qb ?_);refine Dc ⟨_,?_,seen.push j,rfl,(λi hi hc=>by rw[contains_push]at hc;rcases Bool.or_eq_true_iff.1 hc with hc|hc;exact hs_ i hi hc;obtain rfl:=beq_iff_eq.1 hc;exact λh _=>⟨y,by rw[<-hkj];exact hlt,by simpa using hc2⟩),V4,hF.drop 2⟩
 exact Y4 hj hn
mutual
def Je:Tree->Tree->Bool
  | .node k t ks xs,.node k' t' ks' ys=>decide (k=k')&&decide (t=t')&&decide (xs.length=ys.length)&&(if k≠6 then Np xs ys else decide (ks.length=ks'.length)&&Cp xs ks ks' ys)
def Np:List Tree->List Tree->Bool
  | x::xs,y::ys=>Je x y&&Np xs ys
  | _,_=>true
def Cp:List Tree->List Str->List Str->List Tree->Bool
  | x::xs,k::ks,ks',ys=>(match Oc ks' ys k with|some y=>Je x y|none=>false)&&Cp xs ks ks' ys
  | _,_,_,_=>true
end
def Mj(q:Tree->Tree->Bool)(xs ys:List Tree):Bool:=decide (xs.length=ys.length)&&(xs.zip ys).all λp=>q p.1 p.2
theorem Ef:∀xs ys:List Tree,((xs.zip ys).all λp=>Je p.1 p.2)=Np xs ys
  | [],ys=>by cases ys <;> simp[Np]
  | x::xs,[]=>by simp[Np]
  | x::xs,y::ys=>by rw[List.zip_cons_cons,List.all_cons,Ef xs ys,Np]
theorem Gf:∀(xs:List Tree)(ks ks':List Str)(ys:List Tree),Yz Je ks xs ks' ys=Cp xs ks ks' ys
  | [],ks,ks',ys=>by cases ks <;> simp[Yz,Cp]
  | x::xs,[],ks',ys=>by simp[Yz,Cp]
  | x :: xs, k :: ks, ks', ys => by
    have:=Gf xs ks ks' ys;unfold Yz at this ⊢;rw[List.zip_cons_cons,List.all_cons,this,Cp]
    try rfl
theorem Hx{q:Tree->Tree->Bool}{xs ys:List Tree}{j:Nat}(h:j<xs.length)(h2:j<ys.length)(ha:((xs.take j).zip (ys.take j)).all (λp=>q p.1 p.2)=true)(hq:q xs[j] ys[j]=true):((xs.take (j+1)).zip (ys.take (j+1))).all (λp=>q p.1 p.2)=true:=by
  rw[iQ h,iQ h2,List.zip_append (by rw[List.length_take,List.length_take];omega),List.all_append,ha];simp[hq]
theorem R6{q:Tree->Tree->Bool}{xs ys:List Tree}{j:Nat}(h:j<xs.length)(h2:j<ys.length)(hq:q xs[j] ys[j]=false):((xs.zip ys).all λp=>q p.1 p.2)=false:=by
  rw[Bool.eq_false_iff];intro ha;have:=List.all_eq_true.1 ha ((xs.zip ys)[j]'(by rw[List.length_zip];omega)) (eQ _);rw[List.getElem_zip]at this;simp only[hq]at this;cases this
theorem MapRep.ext{S:Nat->Prop}{w w':World}{xs:List Tree}{l:MapL}(h:MapRep S w xs l)(hs:Same [] w w'):MapRep S w' xs l:=λi hi=>by
  obtain⟨cs,h1,h2,h3⟩:=h i hi;exact⟨cs,h1,h2,h3.ext hs⟩
theorem Same.heap{w w':World}{b:Nat}{o:Obj}(hs:Same [] w w')(h:w.heap[b]? = some o):w'.heap[b]? = some o:=(hs.block b (Qa h) Pa).trans h
theorem Kx{q:Tree->Bool}:∀{xs:List Tree},Ik q xs=true->∀x∈xs,Wd q x=true
  | [],_,_,h=>absurd h Pa
  | y :: ys, h, x, hx => by
    rw[Ik,Bool.and_eq_true]at h;rcases oQ.1 hx with rfl|hx
    ·exact h.1
    exact Kx h.2 x hx
theorem Lh{q:Tree->Bool}{k:Int}{t:Str}{ks:List Str}{xs:List Tree}(h:Wd q (.node k t ks xs)=true):q (.node k t ks xs)=true/\∀x∈xs,Wd q x=true:=by
  rw[Wd,Bool.and_eq_true]at h;exact⟨h.1,Kx h.2⟩
theorem Su{t:Str}{ks:List Str}{xs:List Tree}(h:nodeB (.node 6 t ks xs)=true):ks.Nodup/\ks.length=xs.length:=by
  simp only[nodeB,Oq]at h;simp at h;exact⟨h.1.1.1,by omega⟩
def QC(x:Tree):Prop:=∀y S S' w0 cs ct,Rep S w0 (Pb x) cs->Rep S' w0 (Pb y) ct->Wd nodeB x=true->Wd nodeB y=true->Calls prog 46 #[.agg cs.toArray,.agg ct.toArray] w0 (Pd λv w'=>v=.bool (Je x y)/\Same [] w0 w')
theorem Z2(q:Tree->Tree->Bool)(xs ys:List Tree)(B B':Option Addr)(e e':Nat)(S S':Nat->Prop)(w0:World)(hX:Rep S w0 (.slice (Ld xs)) [.slice B xs.length e])(hY:Rep S' w0 (.slice (Ld ys)) [.slice B' ys.length e'])(hq:BothC w0 46 xs ys q):Calls prog 68 #[.slice B xs.length e,.slice B' ys.length e',.func (.func 46) #[] #[]] w0 (Pd λv w'=>v=.bool (Mj q xs ys)/\Same [] w0 w'):=by
 have hXl:=hX.slice_len;have hYl:=hY.slice_len;refine Ia func68 O ntmps68 Kb (Zm _ _ _) ?_;have hF:=FR.start w0 [];refine Ka (Da (Ob O) (Ea (Ha (Ka (Da (Od O) (Da (Bh jZ O) (Da (Od O) (Da (Bh jZ O) (Da (Ey O O) (Db ?_))))))))));refine Fa (Uc O O (λhc0=>?_) (λhc0=>?_));refine Ka (Da (Ob O) (Ea ?_));refine Yc (v:=.bool false) O O ?_;exact⟨congrArg Value.bool (by unfold Mj;rw[decide_eq_false Ca];rfl),hF.same⟩;refine Sa (Fa (Ha (Ka (Da (Od O) (Da (Bh jZ O) (Da (Bc O) (Ea (Wa ?_))))))));refine Xc (λμ σ w=>∃(j:Nat),μ=xs.length-j/\(j<=xs.length)/\(((xs.take j).zip (ys.take j)).all (λp=>q p.1 p.2)=true)/\AllEq σ [(1,.slice B' ys.length e'),(2,.func (.func 46) #[] #[]),(15,.slice B xs.length e),(16,J ((xs.length:Nat))),(17,J ((j:Int)))]/\FR w0 [] [] w) _ ⟨0,O,(Nat.zero_le _),Pa,PJ,hF⟩ ?_;rintro μ σ w ⟨j,rfl,hj,ha,hs,hF⟩;refine Cg.slots hs ?_;clear hs;intro σ;refine Ka (Da (Um O O) (Ea (Ha ?_)));refine Uc O O (λhc1=>?_) (λhc1=>?_);refine Sa (Fa (Ha (Wa (Ka (Da (Bc O) ?_)))));obtain⟨ad0,cs0,hA0,hl0,hk0,hx0⟩:=hX.tree_elem (i:=j) Ca;have ho0:=hx0.one_;refine Oa (v:=.pointer (some (ad0.add (j*4)))) (Ta (i:=(j:Int)) Yk O hA0 O Ca Ca) (Oa (v:=.agg (List.toArray cs0)) (Fb (l:=cs0) vQ bZ O hl0 (hF.cells0 hk0)) ?_);refine De (cs:=#[J 0,I [],aQ,aQ]) hF oZ O ?_;rintro b1 w hb1 hF -;refine Da (Gd O) ?_;refine Jl 0 (l:=cs0) (cs':=(List.toArray cs0)) hF (by rw[hl0];exact bZ) O (v:=.agg (List.toArray cs0)) O O (ho0) O (by rw[hl0];exact Nat.le_of_ble_eq_true O) (Vi (by rw[hl0];rfl)) ?_;rintro w hF -;refine Ec (Da (Od O) (Da (Bc O) ?_));obtain⟨ad1,cs1,hA1,hl1,hk1,hx1⟩:=hY.tree_elem (i:=j) Ca;have ho1:=hx1.one_;refine Oa (v:=.pointer (some (ad1.add (j*4)))) (Ta (i:=(j:Int)) Yk O hA1 O Ca Ca) (Oa (v:=.agg (List.toArray cs1)) (Fb (l:=cs1) vQ bZ O hl1 (hF.cells0 hk1)) ?_)
 refine Uy (l:=cs1) hF oZ (by rw[hl1];exact bZ) (by rw[hl1];rfl) (v:=.agg (List.toArray cs1)) O O (ho1) O ?_;rintro b2 w hb2 hF -;refine Ec (Da (Jq) (Oa (v:=.agg (List.toArray cs0)) (Fb (l:=cs0) vQ bZ O hl0 (hF.cellsAll 1 O)) (Oa (v:=.agg (List.toArray cs1)) (Fb (l:=cs1) vQ bZ O hl1 (hF.cellsAll 0 O)) ?_)));refine Ra hF (hq _ (List.getElem_mem (l:=xs) (n:=j) Ca) _ (List.getElem_mem (l:=ys) (n:=j) Ca) _ _ _ _ _ hF.same (hF.rep hx0) (hF.rep hx1)) (X1 O ZD O O O) ?_;intro w hF;refine Da (Bi O) (Ea ?_);refine Ke O O (λhc2=>?_) (λhc2=>?_);refine Ka (Da (Ob O) (Ea ?_));refine Yc (v:=.bool false) O O ?_;exact⟨congrArg Value.bool (by unfold Mj;rw[R6 (j:=j) Ca Ca (by simpa using hc2),Bool.and_false]),hF.same⟩;refine Sa (Qb (Fa (Ja (Da (Zl O O) (Da (Bc O) (Db ?_))))));refine Dc ⟨_,?_,j+1,O,Ca,(Hx Ca Ca ha (by simpa using hc2)),PJ,hF.drop 2⟩;omega;refine Nc (Fc O ?_);refine Fa (Ka (Da (Ob O) (Ea ?_)));refine Yc (v:=.bool true) O O ?_;have eX:xs.take j=xs:=List.take_of_length_le Ca;have eY:ys.take j=ys:=List.take_of_length_le Ca;rw[eX,eY]at ha;exact⟨congrArg Value.bool (by unfold Mj;rw[ha,decide_eq_true Ca];rfl),hF.same⟩
theorem T_(k:Int)(t:Str)(ks:List Str)(xs:List Tree)(ih:∀x,x∈xs->QC x):QC (.node k t ks xs):=by
 rintro⟨k',t',ks',ys⟩ S S' w0 cs ct hR hR' hnx hny;have hnx:=Lh hnx;have hny:=Lh hny;obtain⟨A,c,B,e,rfl,-,-,hK,hX⟩:=hR.tree_inv;obtain⟨A',c',B',e',rfl,-,-,hK',hY⟩:=hR'.tree_inv;have hXl:=hX.slice_len;have hYl:=hY.slice_len;refine Ia func46 O ntmps46 Kb (Rd _ _) ?_;have hF:=FR.start w0 [];refine Ka (Bg hF O ?_);rintro b1 w hb1 hF -;refine Bg hF O ?_;rintro b2 w hb2 hF -;refine Da (Ob O) (Ea (Ha (Wa (Ha (Ka (Da (Ud Vl O) (Xd (B5 wQ O hF.F 1 O O) (Da (Ud Vl O) (Xd (B5 wQ O hF.F 0 O O) (Da (Ey O O) (Da (Ob O) ?_)))))))))));refine Ea (Uc O O (λhc0=>?_) (λhc0=>?_));refine Sa (Fa (Le O (Ka (Da (Ob O) (Ea ?_)))));refine Yc (v:=.bool false) O O ⟨congrArg Value.bool ?_,hF.same⟩;rw[Je];clear hF hXl hYl hR hR' hX hY hK hK' ih hnx hny
 ·first|(simp_all[Mj,Ef,Gf];done)|(simp_all[Mj,Ef,Gf];omega)
 refine Ka (Da (Ud Lf O) (Xd (Is zQ O hF.F 1 O O) (Da (Ud Lf O) (Xd (Is zQ O hF.F 0 O O) (Da (qQq O O) (Da (Ob O) (Ea ?_)))))));refine Uc O O (λhc1=>?_) (λhc1=>?_);refine Sa (Fa (Le O (Ka (Da (Ob O) (Ea ?_)))));refine Yc (v:=.bool false) O O ⟨congrArg Value.bool ?_,hF.same⟩;rw[Je];clear hF hXl hYl hR hR' hX hY hK hK' ih hnx hny
 ·first|(simp_all[Mj,Ef,Gf];done)|(simp_all[Mj,Ef,Gf];omega)
 refine Ja (Da (Ud Td O) (Xd (Bm uQ O hF.F 1 O O) (Da (Bh jZ O) (Da (Ud Td O) (Xd (Bm uQ O hF.F 0 O O) (Da (Bh jZ O) (Da (Ey O O) (Da (Ob O) (Ea ?_)))))))));refine Uc O O (λhc2=>?_) (λhc2=>?_);refine Ka (Da (Ob O) (Ea ?_));refine Yc (v:=.bool false) O O ⟨congrArg Value.bool ?_,hF.same⟩;rw[Je];clear hF hXl hYl hR hR' hX hY hK hK' ih hnx hny
 ·first|(simp_all[Mj,Ef,Gf];done)|(simp_all[Mj,Ef,Gf];omega)
 refine Ka (Da (Ud Vl O) (Xd (B5 wQ O hF.F 1 O O) (Da (Ey O O) (Da (Ob O) (Ea ?_)))));refine Uc O O (λhc3=>?_) (λhc3=>?_);refine Ka (Da (Ud Td O) (Xd (Bm uQ O hF.F 1 O O) (Da (Ud Td O) (Xd (Bm uQ O hF.F 0 O O) ?_))));refine Ra hF (Z2 Je xs ys B B' e e' S S' _ (hF.rep hX) (hF.rep hY) (λx hx y hy S1 S2 w1 cs1 ct1 _ h1 h2=>ih x hx y S1 S2 w1 cs1 ct1 h1 h2 (hnx.2 x hx) (hny.2 y hy))) (Re GQ O O O O) ?_;intro w hF;refine Da (Ob O) (Ea ?_);refine Yc (v:=.bool _) O O ⟨congrArg Value.bool ?_,hF.same⟩;rw[Je];clear hF hXl hYl hR hR' hX hY hK hK' ih hnx hny
 ·first|(simp_all[Mj,Ef,Gf];done)|(simp_all[Mj,Ef,Gf];omega)
 refine Sa (Qb (Fa (Ha ?_)));refine Nf (zs:=.of []) (.free 0 (.free 2 (cQ [1,3,4] (.free 5 .nil)))) hF ?_;intro w hF;refine Js O (Lj vQ bZ O C0 1 O O) (Js O (Lj vQ bZ O C0 0 O O) ?_);have k6:k=6:=by simpa using hc3
 refine He O (Zx k t ks xs (Su (k6▸hnx.1)).1 (Su (k6▸hnx.1)).2 S _ _ (hF.rep hR)) (Ua RK O O) ?_;rintro _ w ⟨m1,l1,rfl,-,hm1,hk1,hr1,hE⟩;have hF:=hF.ext hE;refine⟨hF,?_⟩;have k6':k'=6:=by omega
 refine He O (Zx k' t' ks' ys (Su (k6'▸hny.1)).1 (Su (k6'▸hny.1)).2 S' _ _ (hF.rep hR')) (Ua RK O O) ?_;rintro _ w ⟨m2,l2,rfl,-,hm2,hk2,hr2,hE⟩;have hF:=hF.ext hE;have hm1:=hE.heap hm1;have hr1:=hr1.ext hE;refine⟨hF,?_⟩;refine Tf hF (H2 Je ks ks' xs ys m1 m2 l1 l2 S S' _ hm1 hm2 hk1 hk2 hr1 hr2 (λx hx y hy S1 S2 w1 cs1 ct1 _ h1 h2=>ih x hx y S1 S2 w1 cs1 ct1 h1 h2 (hnx.2 x hx) (hny.2 y hy))) O (Re RN O O O O) ?_;intro w hF;refine⟨hF,?_⟩;refine Hc O (Ob O) (Qd (Fa ?_));refine Yc (v:=.bool _) O O ⟨congrArg Value.bool ?_,hF.same⟩;rw[Je];clear hF hXl hYl hR hR' hX hY hK hK' ih hnx hny
 ·first|(simp_all[Mj,Ef,Gf];done)|(simp_all[Mj,Ef,Gf];omega)
theorem AL(x:Tree):QC x:=Tree.ind T_ x
def BothI(w0:World)(g:Nat)(xs ys:List Tree)(q:Tree->Tree->Int):Prop:=∀x,x∈xs->∀y,y∈ys->∀S S' w cs ct,Same [] w0 w->Rep S w (Pb x) cs->Rep S' w (Pb y) ct->Calls prog g #[.agg cs.toArray,.agg ct.toArray] w (Pd λv w'=>v=J (q x y)/\Same [] w w')
theorem BothI.ext{w0 w:World}{g:Nat}{xs ys:List Tree}{q:Tree->Tree->Int}(h:BothI w0 g xs ys q)(hs:Same [] w0 w):BothI w g xs ys q:=λx hx y hy S S' w' cs ct hw=>h x hx y hy S S' w' cs ct (hs.trans hw)
def Cu(x y:Tree):Bool:=Qh x&&Qh y&&Je x y
theorem Yu{x:Tree}(h:Qh x=true):Wd nodeB x=true:=by unfold Qh at h;rw[Bool.and_eq_true]at h;exact h.2
theorem GI(x y:Tree)(hsx:Jb x<=1000000000)(hsy:Jb y<=1000000000)(S S':Nat->Prop)(w0:World)(cs ct:List Value)(hR:Rep S w0 (Pb x) cs)(hR':Rep S' w0 (Pb y) ct)(hk:Nw x)(hk':Nw y)(hG:Gl w0):Calls prog 24 #[.agg cs.toArray,.agg ct.toArray] w0 (Pd λv w'=>v=.bool (Cu x y)/\Same [] w0 w'):=by
 have hl:cs.length=4:=hR.length.trans (Rc x);have ho:=hR.one_;have hl':ct.length=4:=hR'.length.trans (Rc y);have ho':=hR'.one_;refine Ia func24 O ntmps24 Kb (Rd _ _) ?_;have hF:=FR.start w0 [];refine Ka (Qm (v:=.agg (List.toArray cs)) (cs:=(List.toArray cs)) hF O O ?_);rintro b1 w hb1 hF -;refine Qm (v:=.agg (List.toArray ct)) (cs:=(List.toArray ct)) hF O O ?_;rintro b2 w hb2 hF -;refine Da (Ob O) (Ec (Oa (v:=.agg (List.toArray cs)) (Fb (l:=cs) vQ bZ O hl (hF.cellsAll 1 O)) ?_));refine Ra hF (Hz x hsx S _ cs (hF.rep hR) hk (hG.ext hF.same)) (Ua P8 O O) ?_;intro w hF;refine Da (Yd O) (Cd (d:=7) O (λhg0=>?_) (λhg0=>?_));refine Oa (v:=.agg (List.toArray ct)) (Fb (l:=ct) vQ bZ O hl' (hF.cellsAll 0 O)) (Ra hF (Hz y hsy S' _ ct (hF.rep hR') hk' (hG.ext hF.same)) (Ua P8 O O) ?_);intro w hF;refine Da (Sc O O) (Da (Yd O) ?_);refine Cd (d:=11) O (λhg1=>?_) (λhg1=>?_);refine Oa (v:=.agg (List.toArray cs)) (Fb (l:=cs) vQ bZ O hl (hF.cellsAll 1 O)) (Oa (v:=.agg (List.toArray ct)) (Fb (l:=ct) vQ bZ O hl' (hF.cellsAll 0 O)) ?_);refine Ra hF (AL x y S S' _ cs ct (hF.rep hR) (hF.rep hR') (Yu (by simp_all)) (Yu (by simp_all))) (Gb ZD O O O) ?_;intro w hF;refine Da (Sc O O) (Da (Ob O) (Ea ?_));refine Yc (v:=.bool _) O O ⟨congrArg Value.bool ?_,hF.same⟩;unfold Cu;clear hF hR hR';simp_all;refine Ma (Ma (Ma (Da (Ed O O) (Da (Ob O) (Ea ?_)))));refine Yc (v:=.bool false) O O ⟨congrArg Value.bool ?_,hF.same⟩;unfold Cu;clear hF hR hR';simp_all;refine Ma (Ma (Da (Ed O O) (Da (Yd O) (Ma (Ma (Ma (Da (Ed O O) (Da (Ob O) (Ea ?_)))))))));refine Yc (v:=.bool false) O O ⟨congrArg Value.bool ?_,hF.same⟩;unfold Cu;clear hF hR hR';simp_all
theorem AC(n:Int)(h1:-9223372036854775808<=n)(h2:n<=9223372036854775807)(w0:World)(hG:Gl w0):Calls prog 25 #[J n] w0 (Pd λv w'=>v=.agg #[J 3,I (Jk (FB n)),aQ,aQ]/\Same [] w0 w'):=by
 refine Ia func25 O ntmps25 Kb (Pc _) ?_;have hF:=FR.start w0 [];refine Ka (De (cs:=#[J 0,I [],aQ,aQ]) hF oZ O ?_);rintro b1 w hb1 hF -;refine Ec (Da (Bc O) ?_);refine Ra hF (NH n h1 h2 _ (hG.ext hF.same)) (Ua HO O O) ?_;intro w hF;refine Ra hF (FC (FB n) (by have:=Po (Lib.itoa n);exact fQ this Ub) _ (hG.ext hF.same)) (Ua WJ O O) ?_;intro w hF;refine Oa (w':=w) (v:=.agg #[J 3,I (Jk (FB n)),aQ,aQ]) Cc (Gg hF bZ O O Xi ?_);rintro w hF -;refine Ea (Yb (Xb (Va (Xm O (l:=[J 3,I (Jk (FB n)),aQ,aQ]) O vQ bZ O (hF.cellsAll 0 O)) ?_)));exact⟨O,hF.same⟩
end Go.Scarf
