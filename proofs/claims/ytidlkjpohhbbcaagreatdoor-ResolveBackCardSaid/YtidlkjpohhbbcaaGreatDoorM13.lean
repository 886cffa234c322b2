/- A part of the proof. -/
import Derived.Test.YtidlkjpohhbbcaaGreatDoorSp
set_option linter.all false
set_option maxHeartbeats 8000000
set_option maxRecDepth 10000
namespace Go.Scarf
open Go.RowKit Go.Proofs Go.Proofs.Tryz
structure Cv where
  A:Option Addr
  n:Nat
  c:Nat
  k:Int
  x:Sv
  y:Sv
  z:Sv
abbrev Cv.cells(q:Cv):List Value:=[.slice q.A q.n q.c,J q.k]++th q.x q.y q.z
structure CvOf (S:Nat->Prop) (w:World) (c:Cf) (q:Cv):Prop where
  n:q.n=c.path.length
  k:q.k=c.cls
  p:Rep S w (Ci c.path) [.slice q.A q.n q.c]
  x:Rep S w (Se c.b) q.x.cells
  y:Rep S w (Se c.l) q.y.cells
  z:Rep S w (Se c.r) q.z.cells
theorem cf_open{S:Nat->Prop}{w:World}{c:Cf}{cs:List Value}(h:Rep S w (VJ c) cs):∃q:Cv,cs=q.cells/\CvOf S w c q:=by
  unfold VJ at h;rw[Rep]at h;obtain⟨c1,d1,rfl,h1,h⟩:=RepL.cons_inv h;obtain⟨c2,d2,rfl,h2,h⟩:=RepL.cons_inv h;obtain⟨c3,d3,rfl,h3,h⟩:=RepL.cons_inv h;obtain⟨c4,d4,rfl,h4,h⟩:=RepL.cons_inv h;obtain⟨c5,d5,rfl,h5,h⟩:=RepL.cons_inv h;obtain rfl:=RepL.nil_inv h;obtain⟨A,n,rfl⟩:∃A e,c1=[.slice A c.path.length e]:=by
    have h1':=h1;unfold Ci at h1';rw[Rep]at h1';obtain⟨A,c,rfl,-⟩:=h1';exact⟨A,c,by rw[rQ]⟩
  obtain rfl:c2=[J c.cls]:=by
    unfold Ai at h2;rw[Rep]at h2;exact h2.1
  obtain⟨x,rfl,-⟩:=Sy h3;obtain⟨y,rfl,-⟩:=Sy h4;obtain⟨z,rfl,-⟩:=Sy h5;exact⟨⟨A,c.path.length,n,c.cls,x,y,z⟩,by simp,⟨O,O,h1,h3,h4,h5⟩⟩
theorem CvOf.ext{S:Nat->Prop}{w w':World}{c:Cf}{q:Cv}(h:CvOf S w c q)(hs:Same [] w w'):CvOf S w' c q:=⟨h.n,h.k,h.p.ext hs,h.x.ext hs,h.y.ext hs,h.z.ext hs⟩
theorem Rep.cf_elem{S:Nat->Prop}{w:World}{l:List Cf}{A:Option Addr}{len c:Nat}(h:Rep S w (.slice (l.map VJ)) [.slice A len c]){i:Nat}(hi:i<l.length) :
    ∃(ad:Addr)(q:Cv),A=some ad/\(∀j (hj:j<q.cells.length),w.cell? ((ad.add (i*17)).add j)=some q.cells[j])/\CvOf S w l[i] q:=by
  obtain⟨ad,cs,hA,hl,hc,hr⟩:=Rep.elem (sz:=17) h (λd hd=>by obtain⟨k,_,rfl⟩:=nQ.1 hd;exact OZ k) (i:=i) (by simpa using hi);rw[List.getElem_map]at hr;obtain⟨q,rfl,hq⟩:=cf_open hr;exact⟨ad,q,hA,hc,hq⟩
theorem Rep.sd_elem{S:Nat->Prop}{w:World}{l:List Sd}{A:Option Addr}{len c:Nat}(h:Rep S w (.slice (l.map Se)) [.slice A len c]){i:Nat}(hi:i<l.length) :
    ∃(ad:Addr)(q:Sv),A=some ad/\(∀j (hj:j<q.cells.length),w.cell? ((ad.add (i*5)).add j)=some q.cells[j])/\Rep S w (Se l[i]) q.cells:=by
  obtain⟨ad,cs,hA,hl,hc,hr⟩:=Rep.elem (sz:=5) h (λd hd=>by obtain⟨k,_,rfl⟩:=nQ.1 hd;exact Ex k) (i:=i) (by simpa using hi);rw[List.getElem_map]at hr;obtain⟨q,rfl,hq⟩:=Sy hr;exact⟨ad,q,hA,hc,hr⟩
structure CfOk (c:Cf):Prop where
  b:SdOk c.b
  l:SdOk c.l
  r:SdOk c.r
theorem CfOk.all{c:Cf}(h:CfOk c):∀s∈[c.b,c.l,c.r],SdOk s:=by
  intro s hs;simp only[oQ,List.not_mem_nil,or_false]at hs;rcases hs with rfl|rfl|rfl
  ·exact h.b
  ·exact h.l
  exact h.r
theorem G6(c:Cf):Z8 c=[c.b,c.l,c.r].all λs=>E1 s c.cls:=by simp[Z8]
def Sr(k:Int)(s:Str):Int:=if k≠7 then -1 else if (Uc s).2≠0 then -1 else (B8 (Uc s).1).1
theorem Wv(v:Tree):Qi v=Sr v.kind v.text:=rfl
theorem Ks(c:Cf)(q:Cv)(pk:Int)(S:Nat->Prop)(w0:World)(hq:CvOf S w0 c q)(hk:CfOk c)(hG:Gl w0):Calls prog 159 #[.agg q.cells.toArray,J pk] w0 (Oc λv w'=>∃y:Sv,v=.tuple #[.agg y.cells.toArray,.bool (Fj c pk).2]/\Rep (Btw w0 w') w' (Se (Fj c pk).1) y.cells/\Same [] w0 w'):=by
 refine Ea func159 O ntmps159 Bb (Nc _ _) ?_;have hF:=FR.start w0 [];refine Da (Df hF O ?_);rintro b1 w hb1 hF -;refine Gc (cs:=#[.bool false,J 0,I [],aQ,aQ]) hF tX O ?_;rintro b2 w hb2 hF -;refine Ba (Kb O) (Ca (Fa (Da (Ba (Cb O) (Ca (Sa (Da (Ba (Xh O O) (Ba (Kb O) ?_)))))))));refine Ca (Lb O O (λhc0=>?_) (λhc0=>?_));refine Da (Ba (Rb R3 O) (Ia (v:=.agg (q.x.cells).toArray) (Za (l:=q.x.cells) bZ pZ O O (hF.part 1 2 O O)) ?_));refine Ta (E8 c.b q.x S _ (hF.rep hq.x) hk.b (hG.ext hF.same)) (Ma YM O O) ?_;rintro _ w ⟨y,rfl,hRt,hE⟩;have hY:=RX.made (ids:=[b2,b1]) hF.same.size (λx hx=>hF.lt_ids (by simpa using hx)) hRt;have hF:=hF.ext hE;clear hE hRt;refine Ke hF pZ O O Oi ?_;intro w hF hE;have hY:=hY.store hE (by grind);refine Ba (Kb O) (Ca ?_);refine Xa (Va (Ka (Ae O (l:=y.cells) O bZ pZ O (hF.cellsAll 0 O) (v:=.bool true) O) ?_));have e:Fj c pk=(Zj c.b,true):=by unfold Fj;rw[if_pos hc0]
 rw[e]
 ·exact⟨y,O,hY.done,hF.same⟩
 refine Da (Ba (Xh O O) (Ba (Kb O) (Ca ?_)));refine Lb O O (λhc1=>?_) (λhc1=>?_);refine Da (Ba (Rb E3 O) (Ia (v:=.agg (q.y.cells).toArray) (Za (l:=q.y.cells) bZ pZ O O (hF.part 1 7 O O)) ?_));refine Ta (E8 c.l q.y S _ (hF.rep hq.y) hk.l (hG.ext hF.same)) (Ma YM O O) ?_;rintro _ w ⟨y,rfl,hRt,hE⟩;have hY:=RX.made (ids:=[b2,b1]) hF.same.size (λx hx=>hF.lt_ids (by simpa using hx)) hRt;have hF:=hF.ext hE;clear hE hRt;refine Ke hF pZ O O Oi ?_;intro w hF hE;have hY:=hY.store hE (by grind);refine Ba (Kb O) (Ca ?_);refine Xa (Va (Ka (Ae O (l:=y.cells) O bZ pZ O (hF.cellsAll 0 O) (v:=.bool true) O) ?_));have e:Fj c pk=(Zj c.l,true):=by unfold Fj;rw[if_neg hc0,if_pos hc1]
 rw[e]
 ·exact⟨y,O,hY.done,hF.same⟩
 refine Da (Ba (Xh O O) (Ba (Kb O) (Ca ?_)));refine Lb O O (λhc2=>?_) (λhc2=>?_);refine Da (Ba (Rb L3 O) (Ia (v:=.agg (q.z.cells).toArray) (Za (l:=q.z.cells) bZ pZ O O (hF.part 1 12 O O)) ?_));refine Ta (E8 c.r q.z S _ (hF.rep hq.z) hk.r (hG.ext hF.same)) (Ma YM O O) ?_;rintro _ w ⟨y,rfl,hRt,hE⟩;have hY:=RX.made (ids:=[b2,b1]) hF.same.size (λx hx=>hF.lt_ids (by simpa using hx)) hRt;have hF:=hF.ext hE;clear hE hRt;refine Ke hF pZ O O Oi ?_;intro w hF hE;have hY:=hY.store hE (by grind);refine Ba (Kb O) (Ca ?_);refine Xa (Va (Ka (Ae O (l:=y.cells) O bZ pZ O (hF.cellsAll 0 O) (v:=.bool true) O) ?_));have e:Fj c pk=(Zj c.r,true):=by unfold Fj;rw[if_neg hc0,if_neg hc1,if_pos hc2]
 rw[e]
 ·exact⟨y,O,hY.done,hF.same⟩
 refine Na (Wa (Ga (Da ?_)));refine Ia (w':=w) (v:=.agg #[.bool false,J 0,I [],aQ,aQ]) Ib (Ke hF pZ O O Oi ?_);rintro w hF -;refine Ba (Kb O) (Ca ?_);refine Xa (Va (Ka (Ae O (l:=[.bool false,J 0,I [],aQ,aQ]) O bZ pZ O (hF.cellsAll 0 O) (v:=.bool false) O) ?_));have e:Fj c pk=(noS,false):=by unfold Fj;rw[if_neg hc0,if_neg hc1,if_neg hc2]
 rw[e];exact⟨⟨false,O_⟩,O,Ho,hF.same⟩
theorem fits_c(c:Cf)(q:Cv)(S:Nat->Prop)(w0:World)(hq:CvOf S w0 c q)(hk:CfOk c)(hG:Gl w0):Calls prog 158 #[.agg q.cells.toArray] w0 (Oc λv w'=>v=.bool (Z8 c)/\Same [] w0 w'):=by
 refine Ea func158 O ntmps158 Bb (Tb _) ?_;have hF:=FR.start w0 [];refine Da (Df hF O ?_);rintro b1 w hb1 hF -;refine Ba (Kb O) (Ca (Fa (Da (Ba (Rb R3 O) (Ia (v:=.agg (q.x.cells).toArray) (Za (l:=q.x.cells) bZ pZ O O (hF.part 0 2 O O)) (Ba (Rb E3 O) (Ia (v:=.agg (q.y.cells).toArray) (Za (l:=q.y.cells) bZ pZ O O (hF.part 0 7 O O)) (Ba (Rb L3 O) (Ia (v:=.agg (q.z.cells).toArray) (Za (l:=q.z.cells) bZ pZ O O (hF.part 0 12 O O)) ?_)))))))));refine Ck 3 hF (Fb (cs:=((th q.x q.y q.z)).toArray) underlying104 pZ tX Oa Oa Ib) ?_;rintro b2 w hb2 hF -;have hrow:Rep (λx=>S x\/x=b2) _ (.slice ([c.b,c.l,c.r].map Se)) _:=hF.rowS 0 rfl (n:=3) (RepL.cons_mk (hF.rep hq.x) (RepL.cons_mk (hF.rep hq.y) (RepL.cons_mk (c2:=[]) (hF.rep hq.z) RepL.nil_mk))) rfl Aa;refine Ba (Qg underlying104 O) (Ba (Cb O) (Ca (Sa ?_)));refine Rc (λμ σ w=>∃(j:Nat),μ=3-j/\(j<=3)/\(Rep (λx=>S x\/x=b2) w (.slice ([c.b,c.l,c.r].map Se)) [W b2 3 3])/\(([c.b,c.l,c.r].take j).all (λs=>E1 s c.cls)=true)/\AllEq σ [(1,V b1),(11,W b2 3 3),(12,J 3),(13,J ((j:Int)))]/\FR w0 [] [(b2,.cells ((th q.x q.y q.z)).toArray 38),(b1,.cells (q.cells).toArray 40)] w) _ ⟨0,O,Aa,(hrow),(O),Ur,hF⟩ ?_;rintro μ σ w ⟨j,rfl,hj,hrow,ha,hs,hF⟩;refine Cg.slots hs ?_;clear hs;intro σ;refine Da (Ba (Dl O O) (Ca (Fa ?_)));refine Lb O O (λhc0=>?_) (λhc0=>?_);refine Na (Ga (Fa (Sa (Fa ?_))));have hj3:j<[c.b,c.l,c.r].length:=by simp only[kQ,List.length_nil];omega
 obtain⟨ad,s,hAs,hks,hes⟩:=hrow.sd_elem (i:=j) hj3;obtain⟨sd,hsd⟩:∃sd,sd=[c.b,c.l,c.r][j]:=⟨_,rfl⟩;rw[<-hsd]at hes;have hsok:SdOk sd:=hsd▸hk.all _ (eQ _);have hse:=Ze hes;have hqk:=hq.k;refine Ja (Ia (v:=.pointer (some (ad.add (j*5)))) (Ra (i:=(j:Int)) KY O hAs O Aa Aa) (Ia (v:=.agg (s.cells).toArray) (Za (l:=s.cells) bZ pZ O O hks) ?_));refine Hf hF tX pZ O ?_;intro b3 w hb3 hF hE;have hrow:=hrow.ext hE;have hes:=hes.ext hE;have hse:=Ze hes;refine Ob (Ba (Rb Sk O) (Yb (OE cZ O hF.F 0 O O) (Ba (Sc O) ?_)));refine Je (d:=19) O (λhg0=>?_) (λhg0=>?_);refine Ba (Rb Ih O) (Ia (v:=.agg (s.v.cells).toArray) (Za (l:=s.v.cells) aZ oZ O O (hF.part 0 1 O O)) ?_);refine Ta (N3 sd.val hsok.sz _ _ s.v.cells hse.2.2.2.2 hsok.ok (hG.ext hF.same)) (Ma BQ O O) ?_;rintro _ w ⟨rfl,hE⟩;have hF:=hF.ext hE;have hrow:=hrow.ext hE;have hes:=hes.ext hE;have hse:=Ze hes;refine Ba (Wi O) (Ba (Sc O) ?_);refine Je (d:=24) O (λhg1=>?_) (λhg1=>?_);refine Ha (Ha (Ha (Ha (Ha (Ha (Ha (Ha (Ha (Ba (Fc O O) (Ba (Fc O O) (Ca (Od O ?_))))))))))));refine Da (Ba (Kb O) (Ca ?_));refine Lc (v:=.bool false) O O ⟨congrArg Value.bool ?_,hF.same⟩;symm;rw[G6,List.all_eq_false];refine⟨sd,hsd▸eQ _,?_⟩;unfold E1;simp_all;refine Ba (Rb Rm O) (Yb (Pi xQ O hF.F 2 O O) (Ba (Xh O O) (Ba (Sc O) ?_)));refine Wb (d:=28) O (λhg2=>?_) (λhg2=>?_);refine Ba (Rb Ih O) (Ba (Rb Ve O) (Yb (Pi xQ O hF.F 0 O O) (Ba (Sn O O) (Ba (Fc O O) (Ba (Pc O O) (Ba (Fc O O) (Ca ?_)))))));refine Lb O O (λhc1=>?_) (λhc1=>?_);refine Da (Ba (Kb O) (Ca ?_));refine Lc (v:=.bool false) O O ⟨congrArg Value.bool ?_,hF.same⟩;symm;rw[G6,List.all_eq_false];refine⟨sd,hsd▸eQ _,?_⟩;unfold E1;simp_all;refine Na (Wa (Ga (Ja (Ba (Un (((j+1:Nat):Int)) O O) (Ba (Cb O) (Eb ?_))))));have hgood:E1 sd c.cls=true:=by unfold E1;simp_all
 refine Qb ⟨_,?_,j+1,O,Aa,(hrow),(by rw[iQ hj3,List.all_append,ha,<-hsd];simp[hgood]),Ur,hF.drop 1⟩;omega;refine Ha (Ha (Ha (Ha (Ba (Pc O O) (Ba (Pc O O) (Ba (Fc O O) (Ca (Te O (Na (Wa (Ga (Ja ?_))))))))))));refine Ba (Un (((j+1:Nat):Int)) O O) (Ba (Cb O) (Eb ?_));have hgood:E1 sd c.cls=true:=by unfold E1;simp_all
 refine Qb ⟨_,?_,j+1,O,Aa,(hrow),(by rw[iQ hj3,List.all_append,ha,<-hsd];simp[hgood]),Ur,hF.drop 1⟩;omega;refine Ha (Ha (Ha (Ha (Ha (Ha (Ha (Ha (Ha (Ha (Ha (Ha (Ha (Ha ?_)))))))))))));refine Ha (Ba (Pc O O) (Ca (Te O (Na (Wa (Ga (Ja (Ba (Un (((j+1:Nat):Int)) O O) (Ba (Cb O) (Eb ?_))))))))));have hgood:E1 sd c.cls=true:=by unfold E1;simp_all
 refine Qb ⟨_,?_,j+1,O,Aa,(hrow),(by rw[iQ hj3,List.all_append,ha,<-hsd];simp[hgood]),Ur,hF.drop 1⟩;omega;refine Ic (Ec O ?_);refine Ga (Da (Ba (Kb O) (Ca ?_)));refine Lc (v:=.bool true) O O ⟨congrArg Value.bool ?_,hF.same⟩;obtain rfl:j=3:=by omega
 rw[G6];exact ha.symm
theorem LO(x:Tv)(hl:x.t.length<=140737488355328)(w0:World)(hG:Gl w0):Calls prog 160 #[.agg (x.cells).toArray] w0 (Oc λv w'=>v=J (Sr x.k x.t)/\Same [] w0 w'):=by
 refine Ea func160 O ntmps160 Bb (Tb _) ?_;have hF:=FR.start w0 [];refine Da (Df hF O ?_);rintro b1 w hb1 hF -;refine Ba (Gb O) (Ca (Fa (Da (Ba (Rb Ve O) (Yb (Pi xQ O hF.F 0 O O) (Ba (Sn O O) (Ca ?_)))))));refine Lb O O (λhc0=>?_) (λhc0=>?_);refine Da (Ba (Gb O) (Ca ?_));refine Lc (v:=J ((-1))) O O ?_;exact⟨congrArg (Value.int .i64) (by simp_all[Sr]),hF.same⟩;refine Na (Ga (Da (Ba (Rb Bf O) (Yb (Tn fZ O hF.F 0 O O) ?_))));refine Qa hF (Yz x.t hl _) (Ma H4 O O) ?_;intro w hF;refine Ba (Aj O) (Ba (Ru O O) (Ba (Nh O O) ?_));refine Hf hF wX tZ O ?_;rintro b2 w hb2 hF -;refine Ba (Gb O) (Ca (Fa (Da (Ba (Cb O) (Ba (Sn O O) (Ca ?_))))));refine Lb O O (λhc1=>?_) (λhc1=>?_);refine Da (Ba (Gb O) (Ca ?_));refine Lc (v:=J ((-1))) O O ?_;exact⟨congrArg (Value.int .i64) (by simp_all[Sr]),hF.same⟩;refine Na (Ga (Da (Yb (Ig gZ tZ O hF.F 0 O O) ?_)));refine Qa hF (FH (Uc x.t).1 (by have:=Ij x.t;omega) _ (hG.ext hF.same)) (Ma AZ O O) ?_;intro w hF;refine Ba (Aj O) (Ba (Nh O O) (Ba (Xn O O) (Ba (Gb O) (Ba (Kb O) (Ob (Ba (Cb O) (Ba (Gb O) (Ca ?_))))))));refine Lc (v:=J ((B8 (Uc x.t).1).1)) O O ?_;exact⟨congrArg (Value.int .i64) (by simp_all[Sr]),hF.same⟩
theorem OY(v:Value)(k:Str):∀m:MapL,(Z4 m k v).length=m.length+if Mf m k=none then 1 else 0:=λm=>by
  have h:=Xv m k;unfold Z4;cases hf:m.findIdx? (λx=>decide (x.1=k))with
  | none=>rw[hf]at h;rw[<-h];simp
  | some i =>
    obtain⟨hi,-⟩:=D4 hf;rw[hf]at h;rw[<-h];simp[hi]
structure CntM (m:MapL) (l:List Str):Prop where
  get:∀t,Mf m t=if t∈l then some (J (l.count t:Int)) else none
  len:m.length=l.eraseDups.length
theorem CntM.nil:CntM [] []:=⟨λt=>by simp[Mf],rfl⟩
theorem CntM.val{m:MapL}{l:List Str}(h:CntM m l)(t:Str):(Mf m t).getD (J 0)=J ((l.count t:Nat):Int):=by
  rw[h.get];by_cases ht:t∈l
  ·rw[if_pos ht];rfl
  rw[if_neg ht,List.count_eq_zero.2 ht];rfl
theorem CntM.add{m:MapL}{l:List Str}(h:CntM m l)(t:Str):CntM (Z4 m t (J (((l.count t+1:Nat)):Int))) (l++[t]):=by
  refine⟨λk=>?_,?_⟩
  ·rw[J_]
   by_cases e:t=k
   ·subst e
    rw[if_pos rfl,if_pos La];simp
   rw[if_neg e, h.get, List.count_append, List.count_singleton];have e':(t==k)=false:=by simpa using e
   rw[e'];simp[Ne.symm e]
  rw[OY, h.len, h.get, List.eraseDups_append, dQ];by_cases ht:t∈l
  ·rw[if_pos ht]
   have:[t].removeAll l=[]:=by simp[List.removeAll,ht]
   rw[this];simp
  rw[if_neg ht];have:[t].removeAll l=[t]:=by simp[List.removeAll,ht]
  rw[this];rfl
theorem VD{xs:List Tree}{j:Nat}(hj:j<xs.length):Vh (xs.take (j+1))=Vh (xs.take j)++Fg xs[j]:=by
  rw[Yn,Yn,iQ hj,List.flatMap_append];simp
theorem T4(x:Tree):(Fg x).length<=Db x:=Tree.ind (Q:=λx=>(Fg x).length<=Db x) (λk t ks xs ih=>by
  have hs:∀ys:List Tree,(∀y∈ys,(Fg y).length<=Db y)->(Vh ys).length<=Nb ys:=λys=>by
    induction ys with
    | nil=>intro _;simp[Vh]
    | cons y ys ihy =>
      intro h;have h1:=h y La;have h2:=ihy λz hz=>h z (by simp[hz]);rw[Vh,Nb,dQ];omega
  have:=hs xs ih;rw[Fg,Db,dQ];split <;> simp <;> omega) x
def MK(x:Tree):Prop:=∀(S:Nat->Prop)(w0:World)(mb:Nat)(m:MapL)(l:List Str)(cs:List Value),Rep S w0 (Jb x) cs->(∀b,S b->b<w0.heap.size/\b∉[mb])->w0.heap[mb]? = some (Ee m)->CntM m l->l.length+Db x<=1000000000 ->
  Calls prog 157 #[.agg cs.toArray,.map (some mb)] w0 (Oc λv w'=>∃m',v=.tuple #[]/\w'.heap[mb]? = some (Ee m')/\CntM m' (l++Fg x)/\Same [mb] w0 w')
theorem NH(ys:List Tree):(Vh ys).length<=Nb ys:=by
  have:=T4 (.node 0 [] [] ys);rw[Fg,Db,if_neg Oa,List.nil_append]at this;have h2:∀zs:List Tree,(Vh zs).length<=Nb zs:=λzs=>by
    induction zs with
    | nil=>simp[Vh]
    | cons z zs ih=>have:=T4 z;rw[Vh,Nb,dQ];omega
  exact h2 ys
theorem WB(xs:List Tree)(j:Nat)(hj:j<xs.length):Nb (xs.take j)+Db xs[j]<=Nb xs:=by
  have h:xs=xs.take j++xs[j]::xs.drop (j+1):=by rw[<-List.drop_eq_getElem_cons hj,List.take_append_drop]
  have h2:=congrArg Nb h;rw[Pk,Nb]at h2;omega
theorem ZJ(k:Int)(t:Str)(ks:List Str)(xs:List Tree)(ih:∀x,x∈xs->MK x):MK (.node k t ks xs):=by
 intro S w0 mb m l cs hR hS hmb hCm hsz;obtain⟨A,c,B,e,rfl,-,-,-,hX⟩:=hR.tree_inv;have hXl:=hX.slice_len;rw[Db]at hsz;refine Ea func157 O ntmps157 Bb (Nc _ _) ?_;have hF:FR w0 [mb] [(mb,Ee (m))] w0:=FR.open_ (by simp[hmb]) La;refine Da (Df hF O ?_);rintro b1 w hb1 hF -;refine Ca (Fa ?_);refine Eh (λσ w=>∃(m1:MapL),∃(l1:List Str),(l1=l++(if k=7 then [t] else []))/\(CntM m1 l1)/\AllEq σ [(1,.map (some mb)),(2,V b1)]/\FR w0 [mb] [(b1,.cells #[J k,I t,.slice A ks.length c,.slice B xs.length e] 36),(mb,Ee (m1))] w) ?_ ?_;refine Da (Ba (Rb Ve O) (Yb (Pi xQ O hF.F 0 O O) (Ba (Xh O O) (Ca ?_))));refine Lb O O (λhc0=>?_) (λhc0=>?_);refine Ja (Ba (Vp) (Ba (Rb Bf O) (Yb (Tn fZ O hF.F 0 O O) (Ia (v:=J (((l.count t:Nat):Int))) (Zq underlying180 oX rX O O (hF.heap (i:=1) O) (hCm.val _)) ?_))));have hlc:=List.count_le_length (a:=t) (l:=l);refine Ba (Un (((l.count t+1:Nat):Int)) O O) (MR 1 (v:=J (((l.count t+1:Nat):Int))) hF underlying180 oX O O O O ?_);rintro w hF -;have hF:FR w0 [mb] [(b1,.cells #[J k,I t,.slice A ks.length c,.slice B xs.length e] 36),(mb,Ee (Z4 (m) (t) (J (((l.count t+1:Nat):Int)))))] w:=hF;refine Eb ?_;exact Qb ⟨(Z4 m t (J ((l.count t+1:Nat):Int))),(l++[t]),(by rw[if_pos hc0]),(hCm.add t),PC,hF⟩;refine Na ?_;exact Qb ⟨(m),(l),(by rw[if_neg hc0,qQ]),(hCm),PC,hF⟩;rintro σ w ⟨m1,l1,hl1,hC1,hs,hF⟩;refine Eg.slots hs ?_;clear hs;intro σ;refine Ga (Da (Ba (Rb Xb O) (Yb (Ff zQ O hF.F 0 O O) (Ba (Qg jX O) (Ba (Cb O) (Ca (Sa ?_)))))));refine Rc (λμ σ w=>∃(j:Nat),∃(m2:MapL),μ=xs.length-j/\(j<=xs.length)/\(CntM m2 (l1++Vh (xs.take j)))/\AllEq σ [(1,.map (some mb)),(15,.slice B xs.length e),(16,J ((xs.length:Nat))),(17,J ((j:Int)))]/\FR w0 [mb] [(b1,.cells #[J k,I t,.slice A ks.length c,.slice B xs.length e] 36),(mb,Ee (m2))] w) _ ⟨0,m1,O,(Nat.zero_le _),(by simpa[Vh]using hC1),Ur,hF⟩ ?_
 rintro μ σ w ⟨j,m2,rfl,hj,hC2,hs,hF⟩;refine Cg.slots hs ?_;clear hs;intro σ;have hll:l1.length<=l.length+1:=by rw[hl1,dQ];split <;> simp
 refine Da (Ba (Dl O O) (Ca (Fa ?_)));refine Lb O O (λhc1=>?_) (λhc1=>?_);refine Na (Ga (Fa (Sa (Da ?_))));obtain⟨ad0,cs0,hA0,hl0,hk0,hx0⟩:=(hF.repE hS hX).tree_elem (i:=j) Aa;have ho0:=hx0.one_;have hxj:=hx0;refine Ia (v:=.pointer (some (ad0.add (j*4)))) (Ra (i:=(j:Int)) Tg O hA0 O Aa Aa) (Ia (v:=.agg (List.toArray cs0)) (Za (l:=cs0) aZ oZ O hl0 hk0) ?_);refine Gw (l:=cs0) hF sX (by rw[hl0];exact oZ) (by rw[hl0];rfl) (v:=.agg (List.toArray cs0)) O O (ho0) O ?_;intro b2 w hb2 hF hE;have hxj:=hxj.ext hE;refine Ca (Ja (Ia (v:=.agg (List.toArray cs0)) (Za (l:=cs0) aZ oZ O hl0 (hF.cellsAll 0 O)) (Ba (Vp) ?_)));refine Ta (ih _ (eQ _) S _ mb m2 (l1++Vh (xs.take j)) cs0 hxj (λb hb=>⟨Nat.lt_of_lt_of_le (hS b hb).1 hF.same.size,(hS b hb).2⟩) (hF.heap (i:=2) O) hC2 (by have:=NH (xs.take j);have:=WB xs j Aa;rw[dQ];omega)) (Ua BZ O O O) ?_;rintro _ w ⟨m3,rfl,hm3,hC3,hE⟩;have hF:=hF.change 2 rfl hE hm3;have hF:FR w0 [mb] [(b2,.cells (List.toArray cs0) 36),(b1,.cells #[J k,I t,.slice A ks.length c,.slice B xs.length e] 36),(mb,Ee (m3))] w:=hF;clear hE hm3;refine Eb (Wa (Ga (Ja (Ba (Un (((j+1:Nat):Int)) O O) (Ba (Cb O) (Eb ?_))))));refine Qb ⟨_,?_,j+1,m3,O,Aa,(by rw[VD Aa,<-sQ];exact hC3),Ur,hF.drop 1⟩;omega;refine Ic (Ec O ?_);refine Kg (Le (Ui O) ?_);obtain rfl:j=xs.length:=by omega
 refine⟨m2,O,hF.heap (i:=1) O,?_,hF.same⟩;rw[List.take_length]at hC2;rw[Fg,<-sQ,<-hl1];exact hC2
theorem holes_c(x:Tree):MK x:=Tree.ind ZJ x
theorem C6{v:Tree}{L:List Cf}{pick:List Int}{j:Nat}(h:(List.range j).all (λi=>decide ((Fg v).count (Dp i)=1)&&(Z8 (L.getD i noC)&&(Fj (L.getD i noC) (pick.getD i 0)).2))=true)(h1:(Fg v).count (Dp j)=1)(hj:j<L.length)(hp:j<pick.length)(h2:Z8 L[j]=true)(h3:(Fj L[j] pick[j]).2=true) :
    (List.range (j+1)).all (λi=>decide ((Fg v).count (Dp i)=1)&&(Z8 (L.getD i noC)&&(Fj (L.getD i noC) (pick.getD i 0)).2))=true:=by
  have e1:L.getD j noC=L[j]:=by simp[List.getD,hj]
  have e2:pick.getD j 0=pick[j]:=by simp[List.getD,hp]
  rw[List.range_succ,List.all_append,h,List.all_cons,List.all_nil,e1,e2,h2,h3,decide_eq_true h1];rfl
theorem Iv{v:Tree}{L:List Cf}{pick:List Int}{j:Nat}(hj:j<L.length)(hp:j<pick.length)(h:¬((Fg v).count (Dp j)=1/\Z8 L[j]=true/\(Fj L[j] pick[j]).2=true)):Qr v L pick=false:=by
  have e1:L.getD j noC=L[j]:=by simp[List.getD,hj]
  have e2:pick.getD j 0=pick[j]:=by simp[List.getD,hp]
  rw[Bool.eq_false_iff];intro hg;unfold Qr at hg;rw[Bool.and_eq_true,Bool.and_eq_true,List.all_eq_true]at hg;have:=hg.2.2 j (List.mem_range.2 hj);rw[e1,e2,Bool.and_eq_true,Bool.and_eq_true,decide_eq_true_eq]at this;exact h this
theorem V9{v:Tree}{L:List Cf}{pick:List Int}(h:¬(L.length=pick.length/\(Fg v).eraseDups.length=L.length)):Qr v L pick=false:=by
  rw[Bool.eq_false_iff];intro hg;unfold Qr at hg;rw[Bool.and_eq_true,Bool.and_eq_true,decide_eq_true_eq,decide_eq_true_eq]at hg;exact h ⟨hg.1,hg.2.1⟩
theorem BS{v:Tree}{L:List Cf}{pick:List Int}(h1:L.length=pick.length)(h2:(Fg v).eraseDups.length=L.length)(h:(List.range L.length).all (λi=>decide ((Fg v).count (Dp i)=1)&&(Z8 (L.getD i noC)&&(Fj (L.getD i noC) (pick.getD i 0)).2))=true):Qr v L pick=true:=by
  unfold Qr;rw[decide_eq_true h1,decide_eq_true h2,h];rfl
theorem goodC_c(L:List Cf)(pick:List Int)(LA PA:Option Addr)(lc pc:Nat)(SL SP:Nat->Prop)(t:Tree)(x:Tv)(SX:Nat->Prop)(w0:World)(hL:Rep SL w0 (.slice (L.map VJ)) [.slice LA L.length lc])(hP:Rep SP w0 (.slice (pick.map Ai)) [.slice PA pick.length pc])(hLk:∀c∈L,CfOk c)(hX1:Rep SX w0 (Jb t) x.cells)(hsz:Db t<=1000000000)(hG:Gl w0):Calls prog 101 #[.agg #[.slice LA L.length lc,.slice PA pick.length pc],.agg (x.cells).toArray] w0 (Oc λv w'=>v=.bool (Qr t L pick)/\Same [] w0 w'):=by
 have hX:=hX1.low;have hLl:=hL.slice_len;have hPl:=hP.slice_len;simp only[rQ]at hLl hPl;refine Ea func101 O ntmps101 Bb (Nc _ _) ?_;have hF:=FR.start w0 [];refine Da (Df hF O ?_);rintro b1 w hb1 hF -;refine Df hF O ?_;rintro b2 w hb2 hF -;refine Ba (Kb O) (Ob ?_);refine Tt (v:=λb=>.map (some b)) hF (EN underlying180) ?_;rintro b3 w hb3 hF -;refine Ba (Yr) (Ob (Yb (Ig aZ oZ O hF.F 1 O O) (Ba (Vp) ?_)));refine Ta (holes_c t _ _ b3 [] [] x.cells (hF.rep hX) (λb hb=>⟨Nat.lt_of_lt_of_le hb hF.same.size,λhm=>by have h8:=hF.ge (i:=0) O;rw[pQ]at hm;omega⟩) (hF.heap (i:=0) O) CntM.nil (by simp only[List.length_nil];omega)) (Ua BZ O O O) ?_;rintro _ w ⟨m1,rfl,hm1,hC1,hE⟩;rw[List.nil_append]at hC1;have hF:=hF.change 0 rfl hE hm1;have hF:FR w0 [] [(b3,Ee (m1)),(b2,.cells (x.cells).toArray 36),(b1,.cells #[.slice LA L.length lc,.slice PA pick.length pc] 118)] w:=hF;clear hE hm1;have hC1l:=hC1.len;refine Ca (Fa (Da (Ba (Rb Pu O) (Yb (Ff isAgg62 O hF.F 2 O O) (Ba (Qg mX O) (Ba (Rb Q7 O) (Yb (Ff isAgg58 O hF.F 2 O O) (Ba (Qg lX O) (Ba (Sn O O) (Ba (Sc O) ?_))))))))));refine Wb (d:=21) O (λhg0=>?_) (λhg0=>?_);refine Ha (Ha (Ha (Ha (Ha (Ha (Ba (Fc O O) (Ca (Od O (Da (Ba (Kb O) (Eb ?_)))))))))));refine Ga (Lc (v:=.bool false) O O ?_);refine⟨congrArg Value.bool (V9 ?_).symm,hF.same⟩;omega;refine Ba (Vp) (Ia (v:=J (((m1).length:Nat))) (UU underlying180 O (hF.heap (i:=0) O)) (Ba (Rb Pu O) (Yb (Ff isAgg62 O hF.F 2 O O) (Ba (Qg mX O) (Ba (Sn O O) (Ba (Pc O O) (Ca ?_)))))));refine Lb O O (λhc0=>?_) (λhc0=>?_);refine Da (Ba (Kb O) (Ca ?_));refine Lc (v:=.bool false) O O ⟨congrArg Value.bool (V9 ?_).symm,hF.same⟩;omega;refine Na (Ga (Fa (Da (Ba (Rb Pu O) (Yb (Ff isAgg62 O hF.F 2 O O) (Ba (Qg mX O) (Ba (Cb O) (Ca (Sa ?_)))))))));have hlp:L.length=pick.length:=by omega
 have hll:(Fg t).eraseDups.length=L.length:=by omega
 refine Rc (λμ σ w=>∃(j:Nat),μ=L.length-j/\(j<=L.length)/\((List.range j).all (λi=>decide ((Fg t).count (Dp i)=1)&&(Z8 (L.getD i noC)&&(Fj (L.getD i noC) (pick.getD i 0)).2))=true)/\AllEq σ [(2,V b1),(5,.map (some b3)),(30,.slice LA L.length lc),(31,J ((L.length:Nat))),(32,J ((j:Int)))]/\FR w0 [] [(b3,Ee (m1)),(b2,.cells (x.cells).toArray 36),(b1,.cells #[.slice LA L.length lc,.slice PA pick.length pc] 118)] w) _ ⟨0,O,(Nat.zero_le _),(O),U7,hF⟩ ?_;rintro μ σ w ⟨j,rfl,hj,ha,hs,hF⟩;refine Cg.slots hs ?_;clear hs;intro σ;refine Da (Ba (Dl O O) (Ca (Fa ?_)));refine Lb O O (λhc1=>?_) (λhc1=>?_);refine Na (Ga (Fa (Sa (Fa ?_))));have hjL:j<L.length:=by omega
 have hjP:j<pick.length:=by omega
 obtain⟨ad0,cq0,hAd0,hcq0,hcf⟩:=hL.cf_elem hjL;refine Ja (Ba (Cb O) (Ia (v:=.pointer (some (ad0.add (j*17)))) (Ra (i:=(j:Int)) Bz O hAd0 O Aa Aa) (Ia (v:=.agg (cq0.cells).toArray) (Za (l:=cq0.cells) dZ qZ O O (hF.cells0 hcq0)) ?_)));refine Gc (cs:=#[aQ,J 0,.bool false,J 0,I [],aQ,aQ,.bool false,J 0,I [],aQ,aQ,.bool false,J 0,I [],aQ,aQ]) hF zeroValue40 O ?_;rintro b4 w hb4 hF -;refine Ba (Gb O) (Ke hF qZ O O Oi ?_);rintro w hF -;refine Ca (Fa (Da (Ba (Vp) (Ba (Cb O) ?_))));refine Qa hF (ZP (j:Int) Aa Aa _ (hG.ext hF.same)) (Ma en_66 O O) ?_;intro w hF;refine Qa hF (IC (Q8 (j:Int)) (by have:=Ij (Lib.itoa (j:Int));exact fQ this Oa) _ (hG.ext hF.same)) (Ma NO O O) ?_;intro w hF;refine Ia (v:=J ((((Fg t).count (Gi (Q8 (j:Int))):Nat):Int))) (Zq underlying180 oX rX O O (hF.heap (i:=1) O) (hC1.val _)) (Ba (Sn O O) (Ba (Sc O) ?_));refine Wb (d:=43) O (λhg1=>?_) (λhg1=>?_);refine Ha (Ha (Ha (Ba (Fc O O) (Ca (Od O (Da (Ba (Kb O) (Ca ?_))))))));refine Lc (v:=.bool false) O O ⟨congrArg Value.bool ?_,hF.same⟩;exact (Iv hjL hjP (λ⟨a,b,c⟩=>by simp_all[Dp])).symm;refine Yb (Ig dZ qZ O hF.F 0 O O) (Qa hF (fits_c L[j] cq0 _ _ (hcf.ext hF.same) (hLk _ (eQ _)) (hG.ext hF.same)) (Ma en_158 O O) ?_);intro w hF;refine Ba (Wi O) (Ba (Pc O O) (Ca ?_));refine He O O (λhc2=>?_) (λhc2=>?_);refine Da (Ba (Kb O) (Ca ?_));refine Lc (v:=.bool false) O O ⟨congrArg Value.bool ?_,hF.same⟩;exact (Iv hjL hjP (λ⟨a,b,c⟩=>by simp_all[Dp])).symm;refine Na (Ga (Fa ?_));refine Be (zs:=.of []) (bQ [0,1,2,3,4,5] (.alt 6 (bQ [7,8,9] (.act 10 (.act 11 (.free 12 .nil)))) (.act 10 (.act 6 (bQ [7,8,9] (.act 11 (.free 12 .nil))))))) hF ?_;intro w hF;refine Nf O (Ig dZ qZ O C0 0 O O) (Hb O (Rb Q7 O) (Nf O (Ff isAgg58 O C0 3 O O) (Hb O (Cb O) ?_)));obtain⟨ad2,hA2,hk2,hx2⟩:=hP.int_elem (i:=j) (hjP)
 refine Ab O (v:=.pointer (some (ad2.add (j*1)))) (λw hC=>Ra (i:=(j:Int)) H_ O hA2 O Aa Aa) (Ab O (v:=J (pick[j])) (λw hC=>Yc xQ O (hC.cell0 hk2)) ?_);refine By ?_ ?_;refine Cd O (Ks L[j] cq0 pick[j] _ _ (hcf.ext hF.same) (hLk _ (eQ _)) (hG.ext hF.same)) (Ua MD O O O) ?_;rintro _ w ⟨y,rfl,hRt,hE⟩;have hF:=hF.ext hE;clear hE hRt;refine⟨hF,?_⟩;refine Hb O (Aj O) (Hb O (Ru O O) (Hb O (Xn O O) ?_));refine Et O (v:=λb=>V b) (o:=.cells #[.bool false,J 0,I [],aQ,aQ] 38) hF (Ei tX) ?_;rintro b5 w hb5 hF -;refine⟨hF.drop 1,?_⟩;refine Aw O hF pZ O O Oi ?_;rintro w hF -;refine⟨hF.drop 1,?_⟩;refine Hb O (Kb O) (d_nil (Ga (Da (Ba (Sc O) (Ba (Wi O) (Ca ?_))))));refine He O O (λhc3=>?_) (λhc3=>?_);refine Da (Ba (Kb O) (Ca ?_));refine Lc (v:=.bool false) O O ⟨congrArg Value.bool ?_,hF.same⟩;exact (Iv hjL hjP (λ⟨a,b,c⟩=>by simp_all[Dp])).symm;refine Na (Wa (Ga (Ja (Ba (Un (((j+1:Nat):Int)) O O) (Ba (Cb O) (Eb ?_))))));refine Qb ⟨_,?_,j+1,O,Aa,(C6 ha (by simp_all[Dp];omega) hjL hjP (by simp_all) (by simp_all)),U7,hF.drop 2⟩;omega;refine Et O (v:=λb=>V b) (o:=.cells #[.bool false,J 0,I [],aQ,aQ] 38) hF (Ei tX) ?_;rintro b6 w hb6 hF -;refine⟨hF.drop 1,?_⟩;refine Cd O (Ks L[j] cq0 pick[j] _ _ (hcf.ext hF.same) (hLk _ (eQ _)) (hG.ext hF.same)) (Ua MD O O O) ?_;rintro _ w ⟨y,rfl,hRt,hE⟩;have hF:=hF.ext hE;clear hE hRt;refine⟨hF.drop 1,?_⟩;refine Hb O (Aj O) (Hb O (Ru O O) (Hb O (Xn O O) ?_));refine Aw O hF pZ O O Oi ?_;rintro w hF -;refine⟨hF.drop 1,?_⟩;refine Hb O (Kb O) (d_nil (Ga (Da (Ba (Sc O) (Ba (Wi O) (Ca ?_))))));refine He O O (λhc3=>?_) (λhc3=>?_);refine Da (Ba (Kb O) (Ca ?_));refine Lc (v:=.bool false) O O ⟨congrArg Value.bool ?_,hF.same⟩;exact (Iv hjL hjP (λ⟨a,b,c⟩=>by simp_all[Dp])).symm;refine Na (Wa (Ga (Ja (Ba (Un (((j+1:Nat):Int)) O O) (Ba (Cb O) (Eb ?_))))))
 refine Qb ⟨_,?_,j+1,O,Aa,(C6 ha (by simp_all[Dp];omega) hjL hjP (by simp_all) (by simp_all)),U7,hF.drop 2⟩;omega;refine Ic (Ec O ?_);refine Ga (Da (Ba (Kb O) (Ca ?_)));refine Lc (v:=.bool true) O O ?_;obtain rfl:j=L.length:=by omega
 exact⟨congrArg Value.bool (BS hlp hll ha).symm,hF.same⟩
end Go.Scarf
