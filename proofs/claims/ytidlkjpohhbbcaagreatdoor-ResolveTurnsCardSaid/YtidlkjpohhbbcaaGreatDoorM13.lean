/- A part of the proof. -/
import Derived.Test.YtidlkjpohhbbcaaGreatDoorE14
set_option linter.all false
set_option maxHeartbeats 8000000
set_option maxRecDepth 10000
namespace Go.Scarf
open Go.RowKit Go.Proofs Go.Proofs.Tryz
structure Cv where
  A:Option Addr
  n:Nat
  c:Nat
  k:Int
  x:Sv
  y:Sv
  z:Sv
abbrev Cv.cells(q:Cv):List Value:=[.slice q.A q.n q.c,J q.k]++th q.x q.y q.z
structure CvOf (S:Nat->Prop) (w:World) (c:Cf) (q:Cv):Prop where
  n:q.n=c.path.length
  k:q.k=c.cls
  p:Rep S w (Oh c.path) [.slice q.A q.n q.c]
  x:Rep S w (Le c.b) q.x.cells
  y:Rep S w (Le c.l) q.y.cells
  z:Rep S w (Le c.r) q.z.cells
theorem OS{S:Nat->Prop}{w:World}{c:Cf}{cs:List Value}(h:Rep S w (HA c) cs):∃q:Cv,cs=q.cells/\CvOf S w c q:=by
  unfold HA at h;rw[Rep]at h;obtain⟨c1,d1,rfl,h1,h⟩:=RepL.cons_inv h;obtain⟨c2,d2,rfl,h2,h⟩:=RepL.cons_inv h;obtain⟨c3,d3,rfl,h3,h⟩:=RepL.cons_inv h;obtain⟨c4,d4,rfl,h4,h⟩:=RepL.cons_inv h;obtain⟨c5,d5,rfl,h5,h⟩:=RepL.cons_inv h;obtain rfl:=RepL.nil_inv h;obtain⟨A,n,rfl⟩:∃A e,c1=[.slice A c.path.length e]:=by
    have h1':=h1;unfold Oh at h1';rw[Rep]at h1';obtain⟨A,c,rfl,-⟩:=h1';exact⟨A,c,by rw[rQ]⟩
  obtain rfl:c2=[J c.cls]:=by
    unfold Gj at h2;rw[Rep]at h2;exact h2.1
  obtain⟨x,rfl,-⟩:=Ow h3;obtain⟨y,rfl,-⟩:=Ow h4;obtain⟨z,rfl,-⟩:=Ow h5;exact⟨⟨A,c.path.length,n,c.cls,x,y,z⟩,by simp,⟨O,O,h1,h3,h4,h5⟩⟩
theorem CvOf.ext{S:Nat->Prop}{w w':World}{c:Cf}{q:Cv}(h:CvOf S w c q)(hs:Same [] w w'):CvOf S w' c q:=⟨h.n,h.k,h.p.ext hs,h.x.ext hs,h.y.ext hs,h.z.ext hs⟩
theorem Rep.cf_elem{S:Nat->Prop}{w:World}{l:List Cf}{A:Option Addr}{len c:Nat}(h:Rep S w (.slice (l.map HA)) [.slice A len c]){i:Nat}(hi:i<l.length) :
    ∃(ad:Addr)(q:Cv),A=some ad/\(∀j (hj:j<q.cells.length),w.cell? ((ad.add (i*17)).add j)=some q.cells[j])/\CvOf S w l[i] q:=by
  obtain⟨ad,cs,hA,hl,hc,hr⟩:=Rep.elem (sz:=17) h (λd hd=>by obtain⟨k,_,rfl⟩:=nQ.1 hd;exact AZ k) (i:=i) (by simpa using hi);rw[List.getElem_map]at hr;obtain⟨q,rfl,hq⟩:=OS hr;exact⟨ad,q,hA,hc,hq⟩
theorem Rep.sd_elem{S:Nat->Prop}{w:World}{l:List Sd}{A:Option Addr}{len c:Nat}(h:Rep S w (.slice (l.map Le)) [.slice A len c]){i:Nat}(hi:i<l.length) :
    ∃(ad:Addr)(q:Sv),A=some ad/\(∀j (hj:j<q.cells.length),w.cell? ((ad.add (i*5)).add j)=some q.cells[j])/\Rep S w (Le l[i]) q.cells:=by
  obtain⟨ad,cs,hA,hl,hc,hr⟩:=Rep.elem (sz:=5) h (λd hd=>by obtain⟨k,_,rfl⟩:=nQ.1 hd;exact Ky k) (i:=i) (by simpa using hi);rw[List.getElem_map]at hr;obtain⟨q,rfl,hq⟩:=Ow hr;exact⟨ad,q,hA,hc,hr⟩
structure CfOk (c:Cf):Prop where
  b:SdOk c.b
  l:SdOk c.l
  r:SdOk c.r
theorem CfOk.all{c:Cf}(h:CfOk c):∀s∈[c.b,c.l,c.r],SdOk s:=by
  intro s hs;simp only[oQ,List.not_mem_nil,or_false]at hs;rcases hs with rfl|rfl|rfl
  ·exact h.b
  ·exact h.l
  exact h.r
theorem N7(c:Cf):U_ c=[c.b,c.l,c.r].all λs=>Q3 s c.cls:=by simp[U_]
def Hs(k:Int)(s:Str):Int:=if k≠7 then -1 else if (Kc s).2≠0 then -1 else (Vr (Kc s).1).1
theorem Rw(v:Tree):Tj v=Hs v.kind v.text:=rfl
theorem Vt(c:Cf)(q:Cv)(pk:Int)(S:Nat->Prop)(w0:World)(hq:CvOf S w0 c q)(hk:CfOk c)(hG:Gl w0):Calls prog 159 #[.agg q.cells.toArray,J pk] w0 (Yc λv w'=>∃y:Sv,v=.tuple #[.agg y.cells.toArray,.bool (Lk c pk).2]/\Rep (Btw w0 w') w' (Le (Lk c pk).1) y.cells/\Same [] w0 w'):=by
 refine Fa func159 O ntmps159 Ab (Uc _ _) ?_;have hF:=FR.start w0 [];refine Ea (Ce hF O ?_);rintro b1 w hb1 hF -;refine Pc (cs:=#[.bool false,J 0,I [],aQ,aQ]) hF pX O ?_;rintro b2 w hb2 hF -;refine Ba (Kb O) (Da (Ga (Ea (Ba (Za O) (Da (Qa (Ea (Ba (Of O O) (Ba (Kb O) ?_)))))))));refine Da (Jb O O (λhc0=>?_) (λhc0=>?_));refine Ea (Ba (Mb Ct O) (Ia (v:=.agg (q.x.cells).toArray) (Wa (l:=q.x.cells) cZ oZ O O (hF.part 1 2 O O)) ?_));refine Eb (R7 c.b q.x S _ (hF.rep hq.x) hk.b (hG.ext hF.same)) (Ma DN O O) ?_;rintro _ w ⟨y,rfl,hRt,hE⟩;have hY:=RX.made (ids:=[b2,b1]) hF.same.size (λx hx=>hF.lt_ids (by simpa using hx)) hRt;have hF:=hF.ext hE;clear hE hRt;refine Ge hF oZ O O Pi ?_;intro w hF hE;have hY:=hY.store hE (by grind);refine Ba (Kb O) (Da ?_);refine Db (Cb (La (Ld O (l:=y.cells) O cZ oZ O (hF.cellsAll 0 O) (v:=.bool true) O) ?_));have e:Lk c pk=(Bl c.b,true):=by unfold Lk;rw[if_pos hc0]
 rw[e]
 ·exact⟨y,O,hY.done,hF.same⟩
 refine Ea (Ba (Of O O) (Ba (Kb O) (Da ?_)));refine Jb O O (λhc1=>?_) (λhc1=>?_);refine Ea (Ba (Mb Bu O) (Ia (v:=.agg (q.y.cells).toArray) (Wa (l:=q.y.cells) cZ oZ O O (hF.part 1 7 O O)) ?_));refine Eb (R7 c.l q.y S _ (hF.rep hq.y) hk.l (hG.ext hF.same)) (Ma DN O O) ?_;rintro _ w ⟨y,rfl,hRt,hE⟩;have hY:=RX.made (ids:=[b2,b1]) hF.same.size (λx hx=>hF.lt_ids (by simpa using hx)) hRt;have hF:=hF.ext hE;clear hE hRt;refine Ge hF oZ O O Pi ?_;intro w hF hE;have hY:=hY.store hE (by grind);refine Ba (Kb O) (Da ?_);refine Db (Cb (La (Ld O (l:=y.cells) O cZ oZ O (hF.cellsAll 0 O) (v:=.bool true) O) ?_));have e:Lk c pk=(Bl c.l,true):=by unfold Lk;rw[if_neg hc0,if_pos hc1]
 rw[e]
 ·exact⟨y,O,hY.done,hF.same⟩
 refine Ea (Ba (Of O O) (Ba (Kb O) (Da ?_)));refine Jb O O (λhc2=>?_) (λhc2=>?_);refine Ea (Ba (Mb Dt O) (Ia (v:=.agg (q.z.cells).toArray) (Wa (l:=q.z.cells) cZ oZ O O (hF.part 1 12 O O)) ?_));refine Eb (R7 c.r q.z S _ (hF.rep hq.z) hk.r (hG.ext hF.same)) (Ma DN O O) ?_;rintro _ w ⟨y,rfl,hRt,hE⟩;have hY:=RX.made (ids:=[b2,b1]) hF.same.size (λx hx=>hF.lt_ids (by simpa using hx)) hRt;have hF:=hF.ext hE;clear hE hRt;refine Ge hF oZ O O Pi ?_;intro w hF hE;have hY:=hY.store hE (by grind);refine Ba (Kb O) (Da ?_);refine Db (Cb (La (Ld O (l:=y.cells) O cZ oZ O (hF.cellsAll 0 O) (v:=.bool true) O) ?_));have e:Lk c pk=(Bl c.r,true):=by unfold Lk;rw[if_neg hc0,if_neg hc1,if_pos hc2]
 rw[e]
 ·exact⟨y,O,hY.done,hF.same⟩
 refine Ka (Ya (Ha (Ea ?_)));refine Ia (w':=w) (v:=.agg #[.bool false,J 0,I [],aQ,aQ]) Qb (Ge hF oZ O O Pi ?_);rintro w hF -;refine Ba (Kb O) (Da ?_);refine Db (Cb (La (Ld O (l:=[.bool false,J 0,I [],aQ,aQ]) O cZ oZ O (hF.cellsAll 0 O) (v:=.bool false) O) ?_));have e:Lk c pk=(noS,false):=by unfold Lk;rw[if_neg hc0,if_neg hc1,if_neg hc2]
 rw[e];exact⟨⟨false,C4⟩,O,Ml,hF.same⟩
theorem fits_c(c:Cf)(q:Cv)(S:Nat->Prop)(w0:World)(hq:CvOf S w0 c q)(hk:CfOk c)(hG:Gl w0):Calls prog 158 #[.agg q.cells.toArray] w0 (Yc λv w'=>v=.bool (U_ c)/\Same [] w0 w'):=by
 refine Fa func158 O ntmps158 Ab (Wb _) ?_;have hF:=FR.start w0 [];refine Ea (Ce hF O ?_);rintro b1 w hb1 hF -;refine Ba (Kb O) (Da (Ga (Ea (Ba (Mb Ct O) (Ia (v:=.agg (q.x.cells).toArray) (Wa (l:=q.x.cells) cZ oZ O O (hF.part 0 2 O O)) (Ba (Mb Bu O) (Ia (v:=.agg (q.y.cells).toArray) (Wa (l:=q.y.cells) cZ oZ O O (hF.part 0 7 O O)) (Ba (Mb Dt O) (Ia (v:=.agg (q.z.cells).toArray) (Wa (l:=q.z.cells) cZ oZ O O (hF.part 0 12 O O)) ?_)))))))));refine Mh 3 hF (Gb (cs:=((th q.x q.y q.z)).toArray) underlying104 oZ pX Ua Ua Qb) ?_;rintro b2 w hb2 hF -;have hrow:Rep (λx=>S x\/x=b2) _ (.slice ([c.b,c.l,c.r].map Le)) _:=hF.rowS 0 rfl (n:=3) (RepL.cons_mk (hF.rep hq.x) (RepL.cons_mk (hF.rep hq.y) (RepL.cons_mk (c2:=[]) (hF.rep hq.z) RepL.nil_mk))) rfl Aa;refine Ba (Nf underlying104 O) (Ba (Za O) (Da (Qa ?_)));refine Fc (λμ σ w=>∃(j:Nat),μ=3-j/\(j<=3)/\(Rep (λx=>S x\/x=b2) w (.slice ([c.b,c.l,c.r].map Le)) [W b2 3 3])/\(([c.b,c.l,c.r].take j).all (λs=>Q3 s c.cls)=true)/\AllEq σ [(1,V b1),(11,W b2 3 3),(12,J 3),(13,J ((j:Int)))]/\FR w0 [] [(b2,.cells ((th q.x q.y q.z)).toArray 38),(b1,.cells (q.cells).toArray 40)] w) _ ⟨0,O,Aa,(hrow),(O),Jj,hF⟩ ?_;rintro μ σ w ⟨j,rfl,hj,hrow,ha,hs,hF⟩;refine Cg.slots hs ?_;clear hs;intro σ;refine Ea (Ba (Pg O O) (Da (Ga ?_)));refine Jb O O (λhc0=>?_) (λhc0=>?_);refine Ka (Ha (Ga (Qa (Ga ?_))));have hj3:j<[c.b,c.l,c.r].length:=by simp only[kQ,List.length_nil];omega
 obtain⟨ad,s,hAs,hks,hes⟩:=hrow.sd_elem (i:=j) hj3;obtain⟨sd,hsd⟩:∃sd,sd=[c.b,c.l,c.r][j]:=⟨_,rfl⟩;rw[<-hsd]at hes;have hsok:SdOk sd:=hsd▸hk.all _ (eQ _);have hse:=Cd hes;have hqk:=hq.k;refine Ja (Ia (v:=.pointer (some (ad.add (j*5)))) (Na (i:=(j:Int)) RZ O hAs O Aa Aa) (Ia (v:=.agg (s.cells).toArray) (Wa (l:=s.cells) cZ oZ O O hks) ?_));refine If hF pX oZ O ?_;intro b3 w hb3 hF hE;have hrow:=hrow.ext hE;have hes:=hes.ext hE;have hse:=Cd hes;refine Lb (Ba (Mb Ni O) (Xb (X3 dZ O hF.F 0 O O) (Ba (Dc O) ?_)));refine Sc (d:=19) O (λhg0=>?_) (λhg0=>?_);refine Ba (Mb We O) (Ia (v:=.agg (s.v.cells).toArray) (Wa (l:=s.v.cells) aZ nZ O O (hF.part 0 1 O O)) ?_);refine Eb (L6 sd.val hsok.sz _ _ s.v.cells hse.2.2.2.2 hsok.ok (hG.ext hF.same)) (Ma OT O O) ?_;rintro _ w ⟨rfl,hE⟩;have hF:=hF.ext hE;have hrow:=hrow.ext hE;have hes:=hes.ext hE;have hse:=Cd hes;refine Ba (Di O) (Ba (Dc O) ?_);refine Sc (d:=24) O (λhg1=>?_) (λhg1=>?_);refine Ca (Ca (Ca (Ca (Ca (Ca (Ca (Ca (Ca (Ba (Rb O O) (Ba (Rb O O) (Da (Yd O ?_))))))))))));refine Ea (Ba (Kb O) (Da ?_));refine Gc (v:=.bool false) O O ⟨congrArg Value.bool ?_,hF.same⟩;symm;rw[N7,List.all_eq_false];refine⟨sd,hsd▸eQ _,?_⟩;unfold Q3;simp_all;refine Ba (Mb Li O) (Xb (Zg xQ O hF.F 2 O O) (Ba (Of O O) (Ba (Dc O) ?_)));refine Bb (d:=28) O (λhg2=>?_) (λhg2=>?_);refine Ba (Mb We O) (Ba (Mb Xc O) (Xb (Zg xQ O hF.F 0 O O) (Ba (Wm O O) (Ba (Rb O O) (Ba (Pb O O) (Ba (Rb O O) (Da ?_)))))));refine Jb O O (λhc1=>?_) (λhc1=>?_);refine Ea (Ba (Kb O) (Da ?_));refine Gc (v:=.bool false) O O ⟨congrArg Value.bool ?_,hF.same⟩;symm;rw[N7,List.all_eq_false];refine⟨sd,hsd▸eQ _,?_⟩;unfold Q3;simp_all;refine Ka (Ya (Ha (Ja (Ba (Bi (((j+1:Nat):Int)) O O) (Ba (Za O) (Va ?_))))));have hgood:Q3 sd c.cls=true:=by unfold Q3;simp_all
 refine Ta ⟨_,?_,j+1,O,Aa,(hrow),(by rw[iQ hj3,List.all_append,ha,<-hsd];simp[hgood]),Jj,hF.drop 1⟩;omega;refine Ca (Ca (Ca (Ca (Ba (Pb O O) (Ba (Pb O O) (Ba (Rb O O) (Da (Zd O (Ka (Ya (Ha (Ja ?_))))))))))));refine Ba (Bi (((j+1:Nat):Int)) O O) (Ba (Za O) (Va ?_));have hgood:Q3 sd c.cls=true:=by unfold Q3;simp_all
 refine Ta ⟨_,?_,j+1,O,Aa,(hrow),(by rw[iQ hj3,List.all_append,ha,<-hsd];simp[hgood]),Jj,hF.drop 1⟩;omega;refine Ca (Ca (Ca (Ca (Ca (Ca (Ca (Ca (Ca (Ca (Ca (Ca (Ca (Ca ?_)))))))))))));refine Ca (Ba (Pb O O) (Da (Zd O (Ka (Ya (Ha (Ja (Ba (Bi (((j+1:Nat):Int)) O O) (Ba (Za O) (Va ?_))))))))));have hgood:Q3 sd c.cls=true:=by unfold Q3;simp_all
 refine Ta ⟨_,?_,j+1,O,Aa,(hrow),(by rw[iQ hj3,List.all_append,ha,<-hsd];simp[hgood]),Jj,hF.drop 1⟩;omega;refine Bc (Yb O ?_);refine Ha (Ea (Ba (Kb O) (Da ?_)));refine Gc (v:=.bool true) O O ⟨congrArg Value.bool ?_,hF.same⟩;obtain rfl:j=3:=by omega
 rw[N7];exact ha.symm
theorem LS(x:Tv)(hl:x.t.length<=140737488355328)(w0:World)(hG:Gl w0):Calls prog 160 #[.agg (x.cells).toArray] w0 (Yc λv w'=>v=J (Hs x.k x.t)/\Same [] w0 w'):=by
 refine Fa func160 O ntmps160 Ab (Wb _) ?_;have hF:=FR.start w0 [];refine Ea (Ce hF O ?_);rintro b1 w hb1 hF -;refine Ba (Fb O) (Da (Ga (Ea (Ba (Mb Xc O) (Xb (Zg xQ O hF.F 0 O O) (Ba (Wm O O) (Da ?_)))))));refine Jb O O (λhc0=>?_) (λhc0=>?_);refine Ea (Ba (Fb O) (Da ?_));refine Gc (v:=J ((-1))) O O ?_;exact⟨congrArg (Value.int .i64) (by simp_all[Hs]),hF.same⟩;refine Ka (Ha (Ea (Ba (Mb Id O) (Xb (Ej iZ O hF.F 0 O O) ?_))));refine Pa hF (H1 x.t hl _) (Ma V7 O O) ?_;intro w hF;refine Ba (Mj O) (Ba (Gt O O) (Ba (Rj O O) ?_));refine If hF tX tZ O ?_;rintro b2 w hb2 hF -;refine Ba (Fb O) (Da (Ga (Ea (Ba (Za O) (Ba (Wm O O) (Da ?_))))));refine Jb O O (λhc1=>?_) (λhc1=>?_);refine Ea (Ba (Fb O) (Da ?_));refine Gc (v:=J ((-1))) O O ?_;exact⟨congrArg (Value.int .i64) (by simp_all[Hs]),hF.same⟩;refine Ka (Ha (Ea (Xb (Bf jZ tZ O hF.F 0 O O) ?_)));refine Pa hF (VK (Kc x.t).1 (by have:=Ah x.t;omega) _ (hG.ext hF.same)) (Ma en_222 O O) ?_;intro w hF;refine Ba (Mj O) (Ba (Rj O O) (Ba (Ym O O) (Ba (Fb O) (Ba (Kb O) (Lb (Ba (Za O) (Ba (Fb O) (Da ?_))))))));refine Gc (v:=J ((Vr (Kc x.t).1).1)) O O ?_;exact⟨congrArg (Value.int .i64) (by simp_all[Hs]),hF.same⟩
theorem updM_len(v:Value)(k:Str):∀m:MapL,(T9 m k v).length=m.length+if Wh m k=none then 1 else 0:=λm=>by
  have h:=Pw m k;unfold T9;cases hf:m.findIdx? (λx=>decide (x.1=k))with
  | none=>rw[hf]at h;rw[<-h];simp
  | some i =>
    obtain⟨hi,-⟩:=U8 hf;rw[hf]at h;rw[<-h];simp[hi]
structure CntM (m:MapL) (l:List Str):Prop where
  get:∀t,Wh m t=if t∈l then some (J (l.count t:Int)) else none
  len:m.length=l.eraseDups.length
theorem CntM.nil:CntM [] []:=⟨λt=>by simp[Wh],rfl⟩
theorem CntM.val{m:MapL}{l:List Str}(h:CntM m l)(t:Str):(Wh m t).getD (J 0)=J ((l.count t:Nat):Int):=by
  rw[h.get];by_cases ht:t∈l
  ·rw[if_pos ht];rfl
  rw[if_neg ht,List.count_eq_zero.2 ht];rfl
theorem CntM.add{m:MapL}{l:List Str}(h:CntM m l)(t:Str):CntM (T9 m t (J (((l.count t+1:Nat)):Int))) (l++[t]):=by
  refine⟨λk=>?_,?_⟩
  ·rw[IC]
   by_cases e:t=k
   ·subst e
    rw[if_pos rfl,if_pos Oa];simp
   rw[if_neg e, h.get, List.count_append, List.count_singleton];have e':(t==k)=false:=by simpa using e
   rw[e'];simp[Ne.symm e]
  rw[updM_len, h.len, h.get, List.eraseDups_append, dQ];by_cases ht:t∈l
  ·rw[if_pos ht]
   have:[t].removeAll l=[]:=by simp[List.removeAll,ht]
   rw[this];simp
  rw[if_neg ht];have:[t].removeAll l=[t]:=by simp[List.removeAll,ht]
  rw[this];rfl
theorem HD{xs:List Tree}{j:Nat}(hj:j<xs.length):Cj (xs.take (j+1))=Cj (xs.take j)++Hh xs[j]:=by
  rw[Yo,Yo,iQ hj,List.flatMap_append];simp
theorem O7(x:Tree):(Hh x).length<=Nb x:=Tree.ind (Q:=λx=>(Hh x).length<=Nb x) (λk t ks xs ih=>by
  have hs:∀ys:List Tree,(∀y∈ys,(Hh y).length<=Nb y)->(Cj ys).length<=Ec ys:=λys=>by
    induction ys with
    | nil=>intro _;simp[Cj]
    | cons y ys ihy =>
      intro h;have h1:=h y Oa;have h2:=ihy λz hz=>h z (by simp[hz]);rw[Cj,Ec,dQ];omega
  have:=hs xs ih;rw[Hh,Nb,dQ];split <;> simp <;> omega) x
def PN(x:Tree):Prop:=∀(S:Nat->Prop)(w0:World)(mb:Nat)(m:MapL)(l:List Str)(cs:List Value),Rep S w0 (Ob x) cs->(∀b,S b->b<w0.heap.size/\b∉[mb])->w0.heap[mb]? = some (Si m)->CntM m l->l.length+Nb x<=1000000000 ->
  Calls prog 157 #[.agg cs.toArray,.map (some mb)] w0 (Yc λv w'=>∃m',v=.tuple #[]/\w'.heap[mb]? = some (Si m')/\CntM m' (l++Hh x)/\Same [mb] w0 w')
theorem FH(ys:List Tree):(Cj ys).length<=Ec ys:=by
  have:=O7 (.node 0 [] [] ys);rw[Hh,Nb,if_neg Ua,List.nil_append]at this;have h2:∀zs:List Tree,(Cj zs).length<=Ec zs:=λzs=>by
    induction zs with
    | nil=>simp[Cj]
    | cons z zs ih=>have:=O7 z;rw[Cj,Ec,dQ];omega
  exact h2 ys
theorem WC(xs:List Tree)(j:Nat)(hj:j<xs.length):Ec (xs.take j)+Nb xs[j]<=Ec xs:=by
  have h:xs=xs.take j++xs[j]::xs.drop (j+1):=by rw[<-List.drop_eq_getElem_cons hj,List.take_append_drop]
  have h2:=congrArg Ec h;rw[Bm,Ec]at h2;omega
theorem DQ(k:Int)(t:Str)(ks:List Str)(xs:List Tree)(ih:∀x,x∈xs->PN x):PN (.node k t ks xs):=by
 intro S w0 mb m l cs hR hS hmb hCm hsz;obtain⟨A,c,B,e,rfl,-,-,-,hX⟩:=hR.tree_inv;have hXl:=hX.slice_len;rw[Nb]at hsz;refine Fa func157 O ntmps157 Ab (Uc _ _) ?_;have hF:FR w0 [mb] [(mb,Si (m))] w0:=FR.open_ (by simp[hmb]) Oa;refine Ea (Ce hF O ?_);rintro b1 w hb1 hF -;refine Da (Ga ?_);refine Fd (λσ w=>∃(m1:MapL),∃(l1:List Str),(l1=l++(if k=7 then [t] else []))/\(CntM m1 l1)/\AllEq σ [(1,.map (some mb)),(2,V b1)]/\FR w0 [mb] [(b1,.cells #[J k,I t,.slice A ks.length c,.slice B xs.length e] 36),(mb,Si (m1))] w) ?_ ?_;refine Ea (Ba (Mb Xc O) (Xb (Zg xQ O hF.F 0 O O) (Ba (Of O O) (Da ?_))));refine Jb O O (λhc0=>?_) (λhc0=>?_);refine Ja (Ba (Pu) (Ba (Mb Id O) (Xb (Ej iZ O hF.F 0 O O) (Ia (v:=J (((l.count t:Nat):Int))) (Ax underlying180 kX mX O O (hF.heap (i:=1) O) (hCm.val _)) ?_))));have hlc:=List.count_le_length (a:=t) (l:=l);refine Ba (Bi (((l.count t+1:Nat):Int)) O O) (EY 1 (v:=J (((l.count t+1:Nat):Int))) hF underlying180 kX O O O O ?_);rintro w hF -;have hF:FR w0 [mb] [(b1,.cells #[J k,I t,.slice A ks.length c,.slice B xs.length e] 36),(mb,Si (T9 (m) (t) (J (((l.count t+1:Nat):Int)))))] w:=hF;refine Va ?_;exact Ta ⟨(T9 m t (J ((l.count t+1:Nat):Int))),(l++[t]),(by rw[if_pos hc0]),(hCm.add t),Rq,hF⟩;refine Ka ?_;exact Ta ⟨(m),(l),(by rw[if_neg hc0,qQ]),(hCm),Rq,hF⟩;rintro σ w ⟨m1,l1,hl1,hC1,hs,hF⟩;refine Eg.slots hs ?_;clear hs;intro σ;refine Ha (Ea (Ba (Mb Tb O) (Xb (Ie zQ O hF.F 0 O O) (Ba (Nf dX O) (Ba (Za O) (Da (Qa ?_)))))));refine Fc (λμ σ w=>∃(j:Nat),∃(m2:MapL),μ=xs.length-j/\(j<=xs.length)/\(CntM m2 (l1++Cj (xs.take j)))/\AllEq σ [(1,.map (some mb)),(15,.slice B xs.length e),(16,J ((xs.length:Nat))),(17,J ((j:Int)))]/\FR w0 [mb] [(b1,.cells #[J k,I t,.slice A ks.length c,.slice B xs.length e] 36),(mb,Si (m2))] w) _ ⟨0,m1,O,(Nat.zero_le _),(by simpa[Cj]using hC1),Jj,hF⟩ ?_
 rintro μ σ w ⟨j,m2,rfl,hj,hC2,hs,hF⟩;refine Cg.slots hs ?_;clear hs;intro σ;have hll:l1.length<=l.length+1:=by rw[hl1,dQ];split <;> simp
 refine Ea (Ba (Pg O O) (Da (Ga ?_)));refine Jb O O (λhc1=>?_) (λhc1=>?_);refine Ka (Ha (Ga (Qa (Ea ?_))));obtain⟨ad0,cs0,hA0,hl0,hk0,hx0⟩:=(hF.repE hS hX).tree_elem (i:=j) Aa;have ho0:=hx0.one_;have hxj:=hx0;refine Ia (v:=.pointer (some (ad0.add (j*4)))) (Na (i:=(j:Int)) Wf O hA0 O Aa Aa) (Ia (v:=.agg (List.toArray cs0)) (Wa (l:=cs0) aZ nZ O hl0 hk0) ?_);refine J4 (l:=cs0) hF oX (by rw[hl0];exact nZ) (by rw[hl0];rfl) (v:=.agg (List.toArray cs0)) O O (ho0) O ?_;intro b2 w hb2 hF hE;have hxj:=hxj.ext hE;refine Da (Ja (Ia (v:=.agg (List.toArray cs0)) (Wa (l:=cs0) aZ nZ O hl0 (hF.cellsAll 0 O)) (Ba (Pu) ?_)));refine Eb (ih _ (eQ _) S _ mb m2 (l1++Cj (xs.take j)) cs0 hxj (λb hb=>⟨Nat.lt_of_lt_of_le (hS b hb).1 hF.same.size,(hS b hb).2⟩) (hF.heap (i:=2) O) hC2 (by have:=FH (xs.take j);have:=WC xs j Aa;rw[dQ];omega)) (Xa en_157 O O O) ?_;rintro _ w ⟨m3,rfl,hm3,hC3,hE⟩;have hF:=hF.change 2 rfl hE hm3;have hF:FR w0 [mb] [(b2,.cells (List.toArray cs0) 36),(b1,.cells #[J k,I t,.slice A ks.length c,.slice B xs.length e] 36),(mb,Si (m3))] w:=hF;clear hE hm3;refine Va (Ya (Ha (Ja (Ba (Bi (((j+1:Nat):Int)) O O) (Ba (Za O) (Va ?_))))));refine Ta ⟨_,?_,j+1,m3,O,Aa,(by rw[HD Aa,<-sQ];exact hC3),Jj,hF.drop 1⟩;omega;refine Bc (Yb O ?_);refine Kh (Ve (Zj O) ?_);obtain rfl:j=xs.length:=by omega
 refine⟨m2,O,hF.heap (i:=1) O,?_,hF.same⟩;rw[List.take_length]at hC2;rw[Hh,<-sQ,<-hl1];exact hC2
theorem holes_c(x:Tree):PN x:=Tree.ind DQ x
def Qu(m:Mm):D:=.agg [Vl m.pr,Le m.sd]
theorem W0(m:Mm):Wd (Qu m)=6:=by simp only[Qu,Wd,Wd.sizeL,Ky,Vl]
def Xd(t:List Mm):D:=.slice (t.map Qu)
abbrev Qn(p:Str)(x:Sv):List Value:=[I p,.bool x.h,J x.v.k,I x.v.t,.slice x.v.A x.v.n x.v.c,.slice x.v.B x.v.m x.v.e]
section
variable {S:Nat->Prop}{w:World}
theorem Tz{m:Mm}{cs:List Value}(h:Rep S w (Qu m) cs):∃x:Sv,cs=Qn m.pr x/\Rep S w (Le m.sd) x.cells/\m.pr.length<=9223372036854775807:=by
  unfold Qu at h;rw[Rep]at h;obtain⟨c1,d1,rfl,h1,h⟩:=RepL.cons_inv h;obtain⟨c2,d2,rfl,h2,h⟩:=RepL.cons_inv h;obtain rfl:=RepL.nil_inv h;unfold Vl at h1;rw[Rep]at h1;obtain⟨rfl,hl⟩:=h1;obtain⟨x,rfl,-⟩:=Ow h2;exact⟨x,by simp[Qn],h2,hl⟩
theorem Wx{m:Mm}{x:Sv}(h:Rep S w (Le m.sd) x.cells)(hl:m.pr.length<=9223372036854775807):Rep S w (Qu m) (Qn m.pr x):=by
  unfold Qu;rw[Rep];have h1:Rep S w (Vl m.pr) [I m.pr]:=Rep.lit_mk (v:=I m.pr) hl;exact RepL.cons_mk h1 (RepL.cons_mk (c2:=[]) h RepL.nil_mk)
theorem Rep.mm_elem{l:List Mm}{A:Option Addr}{len c:Nat}(h:Rep S w (Xd l) [.slice A len c]){i:Nat}(hi:i<l.length) :
    ∃(ad:Addr)(x:Sv),A=some ad/\(∀j (hj:j<(Qn l[i].pr x).length),w.cell? ((ad.add (i*6)).add j)=some (Qn l[i].pr x)[j])/\Rep S w (Le l[i].sd) x.cells/\l[i].pr.length<=9223372036854775807:=by
  obtain⟨ad,cs,hA,hl,hc,hr⟩:=Rep.elem (sz:=6) h (λd hd=>by obtain⟨k,_,rfl⟩:=nQ.1 hd;exact W0 k) (i:=i) (by simpa using hi);rw[List.getElem_map]at hr;obtain⟨x,rfl,hx,hp⟩:=Tz hr;exact⟨ad,x,hA,hc,hx,hp⟩
end
theorem Ip{s:Sd}(h:SdOk s):Tq (Ud s)/\Nb (Ud s)<=1+Nb s.val:=by
  unfold Ud;split
  ·refine⟨?_, by simp only[Nb, Ec];omega⟩
   have:=h.ok;simp[Tq,V6,this]
  exact⟨by simp[Tq,V6],by simp only[Nb,Ec];omega⟩
theorem JJ(A:Option Addr)(n c:Nat)(w0:World):Calls prog 35 #[.slice A n c] w0 (Yc λv w'=>v=.agg #[J 5,I [],aQ,.slice A n c]/\Same [] w0 w'):=by
 refine Fa func35 O ntmps35 Ab (Wb _) ?_;have hF:=FR.start w0 [];refine Ea (Pc (cs:=#[J 0,I [],aQ,aQ]) hF oX O ?_);rintro b1 w hb1 hF -;refine Lb (Ba (Hd O) ?_);refine Ia (w':=w) (v:=.agg #[J 5,I [],aQ,.slice A n c]) Qb (Ge hF nZ O O Pi ?_);rintro w hF -;refine Da (Db (Cb (La (Mg O (l:=[J 5,I [],aQ,.slice A n c]) O aZ nZ O (hF.cellsAll 0 O)) ?_)));exact⟨O,hF.same⟩
theorem Sw(s:Sd)(x:Sv)(S:Nat->Prop)(w0:World)(hX:Rep S w0 (Le s) x.cells):Calls prog 37 #[.agg x.cells.toArray] w0 (Yc λv w'=>∃ct:List Value,v=.agg ct.toArray/\Rep (λb=>S b\/Btw w0 w' b) w' (Ob (Ud s)) ct/\Same [] w0 w'):=by
 have hx:=Cd hX;refine Fa func37 O ntmps37 Ab (Wb _) ?_;have hF:=FR.start w0 [];refine Ea (Ce hF O ?_);rintro b1 w hb1 hF -;refine Pc (cs:=#[J 0,I [],aQ,aQ]) hF oX O ?_;rintro b2 w hb2 hF -;refine Da (Ga (Ea (Ba (Mb Ni O) (Xb (X3 dZ O hF.F 1 O O) (Ba (Di O) (Da ?_))))));refine Jd O O (λhc0=>?_) (λhc0=>?_);have h0:s.has=false:=by rw[<-hx.1];simpa using hc0
 refine Ea (Pa hF (JJ none 0 0 _) (Ma SJ O O) ?_);intro w hF;refine Ge hF nZ O O Pi ?_;rintro w hF -;refine Da (Db (Cb (La (Mg O (l:=[J 5,I [],aQ,aQ]) O aZ nZ O (hF.cellsAll 0 O)) ?_)));have e:Ud s=.node 5 [] [] []:=by unfold Ud;rw[if_neg (by rw[h0];decide)]
 rw[e];exact⟨_,O,Rep.tree_mk (ks:=[]) (xs:=[]) ⟨by decide,by decide⟩ Oa (Rep.nil_slice 0 Aa none) (Rep.nil_slice 0 Aa none),hF.same⟩;have h0:s.has=true:=by rw[<-hx.1];simpa using hc0
 refine Ka (Ha (Ea (Ba (Mb We O) (Ia (v:=.agg (x.v.cells).toArray) (Wa (l:=x.v.cells) aZ nZ O O (hF.part 1 1 O O)) ?_))));refine Mh 1 hF (Gb (cs:=(x.v.cells).toArray) dX nZ oX Ua Ua Qb) ?_;rintro b3 w hb3 hF -;refine Pa hF (JJ (some ⟨b3,0,none⟩) 1 1 _) (Ma SJ O O) ?_;intro w hF;refine Ge hF nZ O O Tr ?_;rintro w hF -;refine Da (Db (Cb (La (Mg O (l:=[J 5,I [],aQ,W b3 1 1]) O aZ nZ O (hF.cellsAll 1 O)) ?_)));have e:Ud s=.node 5 [] [] [s.val]:=by unfold Ud;rw[if_pos h0]
 rw[e];exact⟨_,O,Rep.tree_mk (ks:=[]) (xs:=[s.val]) ⟨by decide,by decide⟩ Oa (Rep.nil_slice 0 Aa none) ((hF.rowS 0 O (n:=1) (RepL.cons_mk (c2:=[]) (hF.rep hx.2.2.2.2) RepL.nil_mk) O Aa).weaken λb hb hl=>hb.elim .inl λe=>.inr (by rw[e];exact⟨hF.ge (i:=0) O,hF.lt (i:=0) O,_,_,hF.heap (i:=0) O⟩)),hF.same⟩
theorem YN(s:Sd)(x:Sv)(k:Int)(S:Nat->Prop)(w0:World)(hX:Rep S w0 (Le s) x.cells)(hs:SdOk s)(hG:Gl w0):Calls prog 55 #[.agg x.cells.toArray,J k] w0 (Yc λv w'=>v=.bool (Sq s k)/\Same [] w0 w'):=by
 have hx:=Cd hX;refine Fa func55 O ntmps55 Ab (Uc _ _) ?_;have hF:=FR.start w0 [];refine Ea (Ce hF O ?_);rintro b1 w hb1 hF -;refine Ba (Kb O) (Lb (Ba (Mb Ni O) (Xb (X3 dZ O hF.F 0 O O) (Ba (Di O) (Ba (Dc O) ?_)))));refine Sc (d:=8) O (λhg0=>?_) (λhg0=>?_);refine Ca (Ca (Ca (Ca (Ca (Ca (Ca (Ca (Ca (Ca (Ca (Ca (Ca (Ba (Rb O O) ?_)))))))))))));refine Ba (Kb O) (Da ?_);refine Gc (v:=.bool true) O O ⟨congrArg Value.bool ?_,hF.same⟩;have h1:=hx.1;have h2:=hx.2.1;unfold Sq;simp_all;refine Ba (Mb We O) (Ia (v:=.agg (x.v.cells).toArray) (Wa (l:=x.v.cells) aZ nZ O O (hF.part 0 1 O O)) ?_);refine Pa hF (L6 s.val hs.sz _ _ x.v.cells (hF.rep hx.2.2.2.2) hs.ok (hG.ext hF.same)) (Ma OT O O) ?_;intro w hF;refine Ba (Dc O) (Sc (d:=12) O (λhg1=>?_) (λhg1=>?_));refine Ba (Za O) (Ba (Wm O O) (Ba (Dc O) ?_));refine Bb (d:=15) O (λhg2=>?_) (λhg2=>?_);refine Ca (Ca (Ca (Ca (Ba (Rb O O) (Ba (Rb O O) (Ba (Pb O O) (Ba (Kb O) (Da ?_))))))));refine Gc (v:=.bool true) O O ⟨congrArg Value.bool ?_,hF.same⟩;have h1:=hx.1;have h2:=hx.2.1;unfold Sq;simp_all;refine Ba (Mb We O) (Ba (Mb Xc O) (Xb (Zg xQ O hF.F 0 O O) (Ba (Of O O) (Ba (Pb O O) (Ba (Rb O O) (Ba (Pb O O) (Ba (Kb O) (Da ?_))))))));refine Gc (v:=.bool _) O O ⟨congrArg Value.bool ?_,hF.same⟩;have h1:=hx.1;have h2:=hx.2.1;unfold Sq;simp_all;refine Ca (Ca (Ca (Ca (Ca (Ca (Ca (Ca (Ba (Pb O O) (Ba (Pb O O) (Ba (Kb O) (Da ?_)))))))))));refine Gc (v:=.bool false) O O ⟨congrArg Value.bool ?_,hF.same⟩;have h1:=hx.1;have h2:=hx.2.1;unfold Sq;simp_all
theorem rightC_c(c:Cf)(q:Cv)(S:Nat->Prop)(w0:World)(hq:CvOf S w0 c q)(hk:CfOk c)(hG:Gl w0):Calls prog 49 #[.agg q.cells.toArray] w0 (Yc λv w'=>v=.bool (Jk c)/\Same [] w0 w'):=by
 refine Fa func49 O ntmps49 Ab (Wb _) ?_;have hF:=FR.start w0 [];refine Ea (Ce hF O ?_);rintro b1 w hb1 hF -;refine Ba (Kb O) (Da (Ga (Ea (Ba (Mb Ct O) (Ia (v:=.agg (q.x.cells).toArray) (Wa (l:=q.x.cells) cZ oZ O O (hF.part 0 2 O O)) (Ba (Mb Bu O) (Ia (v:=.agg (q.y.cells).toArray) (Wa (l:=q.y.cells) cZ oZ O O (hF.part 0 7 O O)) (Ba (Mb Dt O) (Ia (v:=.agg (q.z.cells).toArray) (Wa (l:=q.z.cells) cZ oZ O O (hF.part 0 12 O O)) ?_)))))))));refine Mh 3 hF (Gb (cs:=((th q.x q.y q.z)).toArray) underlying104 oZ pX Ua Ua Qb) ?_;rintro b2 w hb2 hF -;have hrow:Rep (λx=>S x\/x=b2) _ (.slice ([c.b,c.l,c.r].map Le)) _:=hF.rowS 0 rfl (n:=3) (RepL.cons_mk (hF.rep hq.x) (RepL.cons_mk (hF.rep hq.y) (RepL.cons_mk (c2:=[]) (hF.rep hq.z) RepL.nil_mk))) rfl Aa;refine Ba (Nf underlying104 O) (Ba (Za O) (Da (Qa ?_)));refine Fc (λμ σ w=>∃(j:Nat),μ=3-j/\(j<=3)/\(Rep (λx=>S x\/x=b2) w (.slice ([c.b,c.l,c.r].map Le)) [W b2 3 3])/\(([c.b,c.l,c.r].take j).all (λs=>Sq s c.cls)=true)/\AllEq σ [(1,V b1),(11,W b2 3 3),(12,J 3),(13,J ((j:Int)))]/\FR w0 [] [(b2,.cells ((th q.x q.y q.z)).toArray 38),(b1,.cells (q.cells).toArray 40)] w) _ ⟨0,O,Aa,(hrow),(O),Jj,hF⟩ ?_;rintro μ σ w ⟨j,rfl,hj,hrow,ha,hs,hF⟩;refine Cg.slots hs ?_;clear hs;intro σ;refine Ea (Ba (Pg O O) (Da (Ga ?_)));refine Jb O O (λhc0=>?_) (λhc0=>?_);refine Ka (Ha (Ga (Qa (Ga ?_))));have hj3:j<[c.b,c.l,c.r].length:=by simp only[kQ,List.length_nil];omega
 obtain⟨ad,s,hAs,hks,hes⟩:=hrow.sd_elem (i:=j) hj3;obtain⟨sd,hsd⟩:∃sd,sd=[c.b,c.l,c.r][j]:=⟨_,rfl⟩;rw[<-hsd]at hes;have hsok:SdOk sd:=hsd▸hk.all _ (eQ _);have hqk:=hq.k;refine Ja (Ia (v:=.pointer (some (ad.add (j*5)))) (Na (i:=(j:Int)) RZ O hAs O Aa Aa) (Ia (v:=.agg (s.cells).toArray) (Wa (l:=s.cells) cZ oZ O O hks) ?_));refine If hF pX oZ O ?_;intro b3 w hb3 hF hE;have hrow:=hrow.ext hE;have hes:=hes.ext hE;refine Lb (Xb (Bf cZ oZ O hF.F 0 O O) (Ba (Mb Li O) (Xb (Zg xQ O hF.F 2 O O) ?_)));refine Eb (YN sd s q.k _ _ hes hsok (hG.ext hF.same)) (Xa en_55 O O O) ?_;rintro _ w ⟨rfl,hE⟩;have hF:=hF.ext hE;have hrow:=hrow.ext hE;have hes:=hes.ext hE;refine Ba (Di O) (Da ?_);refine Jd O O (λhc1=>?_) (λhc1=>?_);refine Ea (Ba (Kb O) (Da ?_));refine Gc (v:=.bool false) O O ⟨congrArg Value.bool ?_,hF.same⟩;have hbad:Sq sd c.cls=false:=by rw[<-hqk];simpa using hc1
 have hm:sd∈[c.b,c.l,c.r]:=hsd▸eQ _;unfold Jk;simp only[oQ,List.not_mem_nil,or_false]at hm;rcases hm with e|e|e <;> (rw[e]at hbad;simp[hbad])
 refine Ka (Ya (Ha (Ja (Ba (Bi (((j+1:Nat):Int)) O O) (Ba (Za O) (Va ?_))))));have hgood:Sq sd c.cls=true:=by rw[<-hqk];simpa using hc1
 refine Ta ⟨_,?_,j+1,O,Aa,(hrow),(by rw[iQ hj3,List.all_append,ha,<-hsd];simp[hgood]),Jj,hF.drop 1⟩;omega;refine Bc (Yb O ?_);refine Ha (Ga ?_);obtain rfl:j=3:=by omega
 have hqk:=hq.k;have ea:Jk c=(decide (1<=c.cls)&&decide (c.cls<=6)):=by simp only[List.take,List.all_cons,List.all_nil,Bool.and_true,Bool.and_eq_true]at ha;unfold Jk;rw[ha.1,ha.2.1,ha.2.2];simp
 refine Ja (Ba (Mb Li O) (Xb (Zg xQ O hF.F 1 O O) (Ba (Vx O O) (Ba (Dc O) ?_))));refine Bb (d:=26) O (λhg0=>?_) (λhg0=>?_);refine Ba (Mb Li O) (Xb (Zg xQ O hF.F 1 O O) (Ba (EB O O) (Ba (Rb O O) (Ba (Kb O) (Da ?_)))));refine Gc (v:=.bool _) O O ⟨congrArg Value.bool ?_,hF.same⟩;rw[ea,<-hqk]
 ·first|(simp_all;done)|(simp_all;omega)
 refine Ca (Ca (Ca (Ba (Pb O O) (Ba (Kb O) (Da ?_)))));refine Gc (v:=.bool false) O O ⟨congrArg Value.bool ?_,hF.same⟩;rw[ea,<-hqk]
 ·first|(simp_all;done)|(simp_all;omega)
theorem zeroB_c(y:Tree)(x:Tv)(S:Nat->Prop)(w0:World)(hX:Rep S w0 (Ob y) x.cells)(hn:x.n+x.m<=1000000000000):Calls prog 79 #[.agg x.cells.toArray] w0 (Yc λv w'=>v=.bool (Ur y)/\Same [] w0 w'):=by
 refine Fa func79 O ntmps79 Ab (Wb _) ?_;have hF:=FR.start w0 [];refine Ea (Ce hF O ?_);rintro b1 w hb1 hF -;refine Ba (Kb O) (Lb (Ba (Mb Xc O) (Xb (Zg xQ O hF.F 0 O O) (Ba (Of O O) (Ba (Dc O) ?_)))));refine Bb (d:=6) O (λhg0=>?_) (λhg0=>?_)
 ·
  refine Ba (Mb Id O) (Xb (Ej iZ O hF.F 0 O O) (Ba (Ry O O) (Ba (Rb O O) (Ba (Dc O) ?_))));refine Bb (d:=11) O (λhg1=>?_) (λhg1=>?_)
  ·
   refine Ba (Mb Tc O) (Xb (Ie yQ O hF.F 0 O O) (Ba (Nf cX O) (Ba (Mb Tb O) (Xb (Ie zQ O hF.F 0 O O) (Ba (Nf dX O) (Ba (Cl O O) (Ba (Of O O) (Ba (Rb O O) (Ba (Kb O) (Da ?_))))))))));refine Gc (v:=.bool _) O O ⟨congrArg Value.bool ?_,hF.same⟩;unfold Ur;obtain⟨h1,h2,h3,h4,-,-⟩:=Ji hX;have e1:(y.keys=[])↔x.n=0:=by rw[h3];exact List.length_eq_zero_iff.symm
   have e2:(y.items=[])↔x.m=0:=by rw[h4];exact List.length_eq_zero_iff.symm
   simp_all
   all_goals first|done|(rw[Bool.eq_iff_iff];simp only[Bool.and_eq_true,decide_eq_true_eq,<-List.length_eq_zero_iff];omega)
  refine Ca (Ca (Ca (Ca (Ca (Ca (Ca (Ca (Ba (Pb O O) (Ba (Kb O) (Da ?_))))))))));refine Gc (v:=.bool false) O O ⟨congrArg Value.bool ?_,hF.same⟩;unfold Ur;obtain⟨h1,h2,h3,h4,-,-⟩:=Ji hX;have e1:(y.keys=[])↔x.n=0:=by rw[h3];exact List.length_eq_zero_iff.symm
  have e2:(y.items=[])↔x.m=0:=by rw[h4];exact List.length_eq_zero_iff.symm
  simp_all
  all_goals first|done|(rw[Bool.eq_iff_iff];simp only[Bool.and_eq_true,decide_eq_true_eq,<-List.length_eq_zero_iff];omega)
 refine Ca (Ca (Ca (Ba (Pb O O) (Ba (Dc O) (Ca (Ca (Ca (Ca (Ca (Ca (Ca (Ca (Ba (Pb O O) ?_)))))))))))));refine Ba (Kb O) (Da ?_);refine Gc (v:=.bool false) O O ⟨congrArg Value.bool ?_,hF.same⟩;unfold Ur;obtain⟨h1,h2,h3,h4,-,-⟩:=Ji hX;have e1:(y.keys=[])↔x.n=0:=by rw[h3];exact List.length_eq_zero_iff.symm
 have e2:(y.items=[])↔x.m=0:=by rw[h4];exact List.length_eq_zero_iff.symm
 simp_all
 all_goals first|done|(rw[Bool.eq_iff_iff];simp only[Bool.and_eq_true,decide_eq_true_eq,<-List.length_eq_zero_iff];omega)
theorem W8{v:Tree}{L:List Cf}{pick:List Int}{j:Nat}(h:(List.range j).all (λi=>decide ((Hh v).count (Hq i)=1)&&(U_ (L.getD i noC)&&(Lk (L.getD i noC) (pick.getD i 0)).2))=true)(h1:(Hh v).count (Hq j)=1)(hj:j<L.length)(hp:j<pick.length)(h2:U_ L[j]=true)(h3:(Lk L[j] pick[j]).2=true) :
    (List.range (j+1)).all (λi=>decide ((Hh v).count (Hq i)=1)&&(U_ (L.getD i noC)&&(Lk (L.getD i noC) (pick.getD i 0)).2))=true:=by
  have e1:L.getD j noC=L[j]:=by simp[List.getD,hj]
  have e2:pick.getD j 0=pick[j]:=by simp[List.getD,hp]
  rw[List.range_succ,List.all_append,h,List.all_cons,List.all_nil,e1,e2,h2,h3,decide_eq_true h1];rfl
theorem Dx{v:Tree}{L:List Cf}{pick:List Int}{j:Nat}(hj:j<L.length)(hp:j<pick.length)(h:¬((Hh v).count (Hq j)=1/\U_ L[j]=true/\(Lk L[j] pick[j]).2=true)):Es v L pick=false:=by
  have e1:L.getD j noC=L[j]:=by simp[List.getD,hj]
  have e2:pick.getD j 0=pick[j]:=by simp[List.getD,hp]
  rw[Bool.eq_false_iff];intro hg;unfold Es at hg;rw[Bool.and_eq_true,Bool.and_eq_true,List.all_eq_true]at hg;have:=hg.2.2 j (List.mem_range.2 hj);rw[e1,e2,Bool.and_eq_true,Bool.and_eq_true,decide_eq_true_eq]at this;exact h this
theorem OB{v:Tree}{L:List Cf}{pick:List Int}(h:¬(L.length=pick.length/\(Hh v).eraseDups.length=L.length)):Es v L pick=false:=by
  rw[Bool.eq_false_iff];intro hg;unfold Es at hg;rw[Bool.and_eq_true,Bool.and_eq_true,decide_eq_true_eq,decide_eq_true_eq]at hg;exact h ⟨hg.1,hg.2.1⟩
theorem BV{v:Tree}{L:List Cf}{pick:List Int}(h1:L.length=pick.length)(h2:(Hh v).eraseDups.length=L.length)(h:(List.range L.length).all (λi=>decide ((Hh v).count (Hq i)=1)&&(U_ (L.getD i noC)&&(Lk (L.getD i noC) (pick.getD i 0)).2))=true):Es v L pick=true:=by
  unfold Es;rw[decide_eq_true h1,decide_eq_true h2,h];rfl
theorem goodC_c(L:List Cf)(pick:List Int)(LA PA:Option Addr)(lc pc:Nat)(SL SP:Nat->Prop)(t:Tree)(x:Tv)(SX:Nat->Prop)(w0:World)(hL:Rep SL w0 (.slice (L.map HA)) [.slice LA L.length lc])(hP:Rep SP w0 (.slice (pick.map Gj)) [.slice PA pick.length pc])(hLk:∀c∈L,CfOk c)(hX1:Rep SX w0 (Ob t) x.cells)(hsz:Nb t<=1000000000)(hG:Gl w0):Calls prog 101 #[.agg #[.slice LA L.length lc,.slice PA pick.length pc],.agg (x.cells).toArray] w0 (Yc λv w'=>v=.bool (Es t L pick)/\Same [] w0 w'):=by
 have hX:=hX1.low;have hLl:=hL.slice_len;have hPl:=hP.slice_len;simp only[rQ]at hLl hPl;refine Fa func101 O ntmps101 Ab (Uc _ _) ?_;have hF:=FR.start w0 [];refine Ea (Ce hF O ?_);rintro b1 w hb1 hF -;refine Ce hF O ?_;rintro b2 w hb2 hF -;refine Ba (Kb O) (Lb ?_);refine Nx (v:=λb=>.map (some b)) hF (XP underlying180) ?_;rintro b3 w hb3 hF -;refine Ba (O2) (Lb (Xb (Bf aZ nZ O hF.F 1 O O) (Ba (Pu) ?_)));refine Eb (holes_c t _ _ b3 [] [] x.cells (hF.rep hX) (λb hb=>⟨Nat.lt_of_lt_of_le hb hF.same.size,λhm=>by have h8:=hF.ge (i:=0) O;rw[pQ]at hm;omega⟩) (hF.heap (i:=0) O) CntM.nil (by simp only[List.length_nil];omega)) (Xa en_157 O O O) ?_;rintro _ w ⟨m1,rfl,hm1,hC1,hE⟩;rw[List.nil_append]at hC1;have hF:=hF.change 0 rfl hE hm1;have hF:FR w0 [] [(b3,Si (m1)),(b2,.cells (x.cells).toArray 36),(b1,.cells #[.slice LA L.length lc,.slice PA pick.length pc] 118)] w:=hF;clear hE hm1;have hC1l:=hC1.len;refine Da (Ga (Ea (Ba (Mb Nv O) (Xb (Ie isAgg62 O hF.F 2 O O) (Ba (Nf jX O) (Ba (Mb K8 O) (Xb (Ie isAgg58 O hF.F 2 O O) (Ba (Nf iX O) (Ba (Wm O O) (Ba (Dc O) ?_))))))))));refine Bb (d:=21) O (λhg0=>?_) (λhg0=>?_);refine Ca (Ca (Ca (Ca (Ca (Ca (Ba (Rb O O) (Da (Yd O (Ea (Ba (Kb O) (Va ?_)))))))))));refine Ha (Gc (v:=.bool false) O O ?_);refine⟨congrArg Value.bool (OB ?_).symm,hF.same⟩;omega;refine Ba (Pu) (Ia (v:=J (((m1).length:Nat))) (SW underlying180 O (hF.heap (i:=0) O)) (Ba (Mb Nv O) (Xb (Ie isAgg62 O hF.F 2 O O) (Ba (Nf jX O) (Ba (Wm O O) (Ba (Pb O O) (Da ?_)))))));refine Jb O O (λhc0=>?_) (λhc0=>?_);refine Ea (Ba (Kb O) (Da ?_));refine Gc (v:=.bool false) O O ⟨congrArg Value.bool (OB ?_).symm,hF.same⟩;omega;refine Ka (Ha (Ga (Ea (Ba (Mb Nv O) (Xb (Ie isAgg62 O hF.F 2 O O) (Ba (Nf jX O) (Ba (Za O) (Da (Qa ?_)))))))));have hlp:L.length=pick.length:=by omega
 have hll:(Hh t).eraseDups.length=L.length:=by omega
 refine Fc (λμ σ w=>∃(j:Nat),μ=L.length-j/\(j<=L.length)/\((List.range j).all (λi=>decide ((Hh t).count (Hq i)=1)&&(U_ (L.getD i noC)&&(Lk (L.getD i noC) (pick.getD i 0)).2))=true)/\AllEq σ [(2,V b1),(5,.map (some b3)),(30,.slice LA L.length lc),(31,J ((L.length:Nat))),(32,J ((j:Int)))]/\FR w0 [] [(b3,Si (m1)),(b2,.cells (x.cells).toArray 36),(b1,.cells #[.slice LA L.length lc,.slice PA pick.length pc] 118)] w) _ ⟨0,O,(Nat.zero_le _),(O),Uq,hF⟩ ?_;rintro μ σ w ⟨j,rfl,hj,ha,hs,hF⟩;refine Cg.slots hs ?_;clear hs;intro σ;refine Ea (Ba (Pg O O) (Da (Ga ?_)));refine Jb O O (λhc1=>?_) (λhc1=>?_);refine Ka (Ha (Ga (Qa (Ga ?_))));have hjL:j<L.length:=by omega
 have hjP:j<pick.length:=by omega
 obtain⟨ad0,cq0,hAd0,hcq0,hcf⟩:=hL.cf_elem hjL;refine Ja (Ba (Za O) (Ia (v:=.pointer (some (ad0.add (j*17)))) (Na (i:=(j:Int)) Jz O hAd0 O Aa Aa) (Ia (v:=.agg (cq0.cells).toArray) (Wa (l:=cq0.cells) fZ pZ O O (hF.cells0 hcq0)) ?_)));refine Pc (cs:=#[aQ,J 0,.bool false,J 0,I [],aQ,aQ,.bool false,J 0,I [],aQ,aQ,.bool false,J 0,I [],aQ,aQ]) hF zeroValue40 O ?_;rintro b4 w hb4 hF -;refine Ba (Fb O) (Ge hF pZ O O Pi ?_);rintro w hF -;refine Da (Ga (Ea (Ba (Pu) (Ba (Za O) ?_))));refine Pa hF (SS (j:Int) Aa Aa _ (hG.ext hF.same)) (Ma en_66 O O) ?_;intro w hF;refine Pa hF (WE (Kw (j:Int)) (by have:=Ah (Lib.itoa (j:Int));exact fQ this Ua) _ (hG.ext hF.same)) (Ma US O O) ?_;intro w hF;refine Ia (v:=J ((((Hh t).count (Rg (Kw (j:Int))):Nat):Int))) (Ax underlying180 kX mX O O (hF.heap (i:=1) O) (hC1.val _)) (Ba (Wm O O) (Ba (Dc O) ?_));refine Bb (d:=43) O (λhg1=>?_) (λhg1=>?_);refine Ca (Ca (Ca (Ba (Rb O O) (Da (Yd O (Ea (Ba (Kb O) (Da ?_))))))));refine Gc (v:=.bool false) O O ⟨congrArg Value.bool ?_,hF.same⟩;exact (Dx hjL hjP (λ⟨a,b,c⟩=>by simp_all[Hq])).symm;refine Xb (Bf fZ pZ O hF.F 0 O O) (Pa hF (fits_c L[j] cq0 _ _ (hcf.ext hF.same) (hLk _ (eQ _)) (hG.ext hF.same)) (Ma en_158 O O) ?_);intro w hF;refine Ba (Di O) (Ba (Pb O O) (Da ?_));refine Jd O O (λhc2=>?_) (λhc2=>?_);refine Ea (Ba (Kb O) (Da ?_));refine Gc (v:=.bool false) O O ⟨congrArg Value.bool ?_,hF.same⟩;exact (Dx hjL hjP (λ⟨a,b,c⟩=>by simp_all[Hq])).symm;refine Ka (Ha (Ga ?_));refine De (zs:=.of []) (bQ [0,1,2,3,4,5] (.alt 6 (bQ [7,8,9] (.act 10 (.act 11 (.free 12 .nil)))) (.act 10 (.act 6 (bQ [7,8,9] (.act 11 (.free 12 .nil))))))) hF ?_;intro w hF;refine Ng O (Bf fZ pZ O C0 0 O O) (Ib O (Mb K8 O) (Ng O (Ie isAgg58 O C0 3 O O) (Ib O (Za O) ?_)));obtain⟨ad2,hA2,hk2,hx2⟩:=hP.int_elem (i:=j) (hjP)
 refine Sa O (v:=.pointer (some (ad2.add (j*1)))) (λw hC=>Na (i:=(j:Int)) SA O hA2 O Aa Aa) (Sa O (v:=J (pick[j])) (λw hC=>Nc xQ O (hC.cell0 hk2)) ?_);refine Iv ?_ ?_;refine Dd O (Vt L[j] cq0 pick[j] _ _ (hcf.ext hF.same) (hLk _ (eQ _)) (hG.ext hF.same)) (Xa XE O O O) ?_;rintro _ w ⟨y,rfl,hRt,hE⟩;have hF:=hF.ext hE;clear hE hRt;refine⟨hF,?_⟩;refine Ib O (Mj O) (Ib O (Gt O O) (Ib O (Ym O O) ?_));refine Vp O (v:=λb=>V b) (o:=.cells #[.bool false,J 0,I [],aQ,aQ] 38) hF (Xh pX) ?_;rintro b5 w hb5 hF -;refine⟨hF.drop 1,?_⟩;refine Gx O hF oZ O O Pi ?_;rintro w hF -;refine⟨hF.drop 1,?_⟩;refine Ib O (Kb O) (Ic (Ha (Ea (Ba (Dc O) (Ba (Di O) (Da ?_))))));refine Jd O O (λhc3=>?_) (λhc3=>?_);refine Ea (Ba (Kb O) (Da ?_));refine Gc (v:=.bool false) O O ⟨congrArg Value.bool ?_,hF.same⟩;exact (Dx hjL hjP (λ⟨a,b,c⟩=>by simp_all[Hq])).symm;refine Ka (Ya (Ha (Ja (Ba (Bi (((j+1:Nat):Int)) O O) (Ba (Za O) (Va ?_))))));refine Ta ⟨_,?_,j+1,O,Aa,(W8 ha (by simp_all[Hq];omega) hjL hjP (by simp_all) (by simp_all)),Uq,hF.drop 2⟩;omega;refine Vp O (v:=λb=>V b) (o:=.cells #[.bool false,J 0,I [],aQ,aQ] 38) hF (Xh pX) ?_;rintro b6 w hb6 hF -;refine⟨hF.drop 1,?_⟩;refine Dd O (Vt L[j] cq0 pick[j] _ _ (hcf.ext hF.same) (hLk _ (eQ _)) (hG.ext hF.same)) (Xa XE O O O) ?_;rintro _ w ⟨y,rfl,hRt,hE⟩;have hF:=hF.ext hE;clear hE hRt;refine⟨hF.drop 1,?_⟩;refine Ib O (Mj O) (Ib O (Gt O O) (Ib O (Ym O O) ?_));refine Gx O hF oZ O O Pi ?_;rintro w hF -;refine⟨hF.drop 1,?_⟩;refine Ib O (Kb O) (Ic (Ha (Ea (Ba (Dc O) (Ba (Di O) (Da ?_))))));refine Jd O O (λhc3=>?_) (λhc3=>?_);refine Ea (Ba (Kb O) (Da ?_));refine Gc (v:=.bool false) O O ⟨congrArg Value.bool ?_,hF.same⟩;exact (Dx hjL hjP (λ⟨a,b,c⟩=>by simp_all[Hq])).symm;refine Ka (Ya (Ha (Ja (Ba (Bi (((j+1:Nat):Int)) O O) (Ba (Za O) (Va ?_))))))
 refine Ta ⟨_,?_,j+1,O,Aa,(W8 ha (by simp_all[Hq];omega) hjL hjP (by simp_all) (by simp_all)),Uq,hF.drop 2⟩;omega;refine Bc (Yb O ?_);refine Ha (Ea (Ba (Kb O) (Da ?_)));refine Gc (v:=.bool true) O O ?_;obtain rfl:j=L.length:=by omega
 exact⟨congrArg Value.bool (BV hlp hll ha).symm,hF.same⟩
end Go.Scarf
