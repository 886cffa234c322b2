/- A part of the proof. -/
import Derived.Test.YthnkjgpjdbdchaaGreatDoorM12
import Derived.Test.YthnkjgpjdbdchaaGreatDoorMapS
set_option linter.all false
set_option maxHeartbeats 8000000
set_option maxRecDepth 10000
namespace Go.Scarf
open Go.RowKit Go.Proofs Go.Proofs.Tryz
structure Cv where
  A:Option Addr
  n:Nat
  c:Nat
  k:Int
  x:Sv
  y:Sv
  z:Sv
abbrev Cv.cells(q:Cv):List Value:=[.slice q.A q.n q.c,J q.k]++th q.x q.y q.z
structure CvOf (S:Nat->Prop) (w:World) (c:Cf) (q:Cv):Prop where
  n:q.n=c.path.length
  k:q.k=c.cls
  p:Rep S w (Ud c.path) [.slice q.A q.n q.c]
  x:Rep S w (Ke c.b) q.x.cells
  y:Rep S w (Ke c.l) q.y.cells
  z:Rep S w (Ke c.r) q.z.cells
theorem cf_open{S:Nat->Prop}{w:World}{c:Cf}{cs:List Value}(h:Rep S w (RC c) cs):∃q:Cv,cs=q.cells/\CvOf S w c q:=by
  unfold RC at h;rw[Rep]at h;obtain⟨c1,d1,rfl,h1,h⟩:=RepL.cons_inv h;obtain⟨c2,d2,rfl,h2,h⟩:=RepL.cons_inv h;obtain⟨c3,d3,rfl,h3,h⟩:=RepL.cons_inv h;obtain⟨c4,d4,rfl,h4,h⟩:=RepL.cons_inv h;obtain⟨c5,d5,rfl,h5,h⟩:=RepL.cons_inv h;obtain rfl:=RepL.nil_inv h;obtain⟨A,n,rfl⟩:∃A e,c1=[.slice A c.path.length e]:=by
    have h1':=h1;unfold Ud at h1';rw[Rep]at h1';obtain⟨A,c,rfl,-⟩:=h1';exact⟨A,c,by rw[rQ]⟩
  obtain rfl:c2=[J c.cls]:=by
    unfold Kh at h2;rw[Rep]at h2;exact h2.1
  obtain⟨x,rfl,-⟩:=G8 h3;obtain⟨y,rfl,-⟩:=G8 h4;obtain⟨z,rfl,-⟩:=G8 h5;exact⟨⟨A,c.path.length,n,c.cls,x,y,z⟩,by simp,⟨O,O,h1,h3,h4,h5⟩⟩
theorem CvOf.ext{S:Nat->Prop}{w w':World}{c:Cf}{q:Cv}(h:CvOf S w c q)(hs:Same [] w w'):CvOf S w' c q:=⟨h.n,h.k,h.p.ext hs,h.x.ext hs,h.y.ext hs,h.z.ext hs⟩
theorem Rep.cf_elem{S:Nat->Prop}{w:World}{l:List Cf}{A:Option Addr}{len c:Nat}(h:Rep S w (.slice (l.map RC)) [.slice A len c]){i:Nat}(hi:i<l.length) :
    ∃(ad:Addr)(q:Cv),A=some ad/\(∀j (hj:j<q.cells.length),w.cell? ((ad.add (i*17)).add j)=some q.cells[j])/\CvOf S w l[i] q:=by
  obtain⟨ad,cs,hA,hl,hc,hr⟩:=Rep.elem (sz:=17) h (λd hd=>by obtain⟨k,_,rfl⟩:=nQ.1 hd;exact YY k) (i:=i) (by simpa using hi);rw[List.getElem_map]at hr;obtain⟨q,rfl,hq⟩:=cf_open hr;exact⟨ad,q,hA,hc,hq⟩
theorem Rep.sd_elem{S:Nat->Prop}{w:World}{l:List Sd}{A:Option Addr}{len c:Nat}(h:Rep S w (.slice (l.map Ke)) [.slice A len c]){i:Nat}(hi:i<l.length) :
    ∃(ad:Addr)(q:Sv),A=some ad/\(∀j (hj:j<q.cells.length),w.cell? ((ad.add (i*5)).add j)=some q.cells[j])/\Rep S w (Ke l[i]) q.cells:=by
  obtain⟨ad,cs,hA,hl,hc,hr⟩:=Rep.elem (sz:=5) h (λd hd=>by obtain⟨k,_,rfl⟩:=nQ.1 hd;exact Yr k) (i:=i) (by simpa using hi);rw[List.getElem_map]at hr;obtain⟨q,rfl,hq⟩:=G8 hr;exact⟨ad,q,hA,hc,hr⟩
structure CfOk (c:Cf):Prop where
  b:SdOk c.b
  l:SdOk c.l
  r:SdOk c.r
theorem CfOk.all{c:Cf}(h:CfOk c):∀s∈[c.b,c.l,c.r],SdOk s:=by
  intro s hs;simp only[oQ,List.not_mem_nil,or_false]at hs;rcases hs with rfl|rfl|rfl
  ·exact h.b
  ·exact h.l
  exact h.r
theorem P8(c:Cf):BC c=[c.b,c.l,c.r].all λs=>G5 s c.cls:=by simp[BC]
def Du(k:Int)(s:Str):Int:=if k≠7 then -1 else if (Hf s).2≠0 then -1 else (KB (Hf s).1).1
theorem Jy(v:Tree):Pi v=Du v.kind v.text:=rfl
theorem Dv(c:Cf)(q:Cv)(pk:Int)(S:Nat->Prop)(w0:World)(hq:CvOf S w0 c q)(hk:CfOk c)(hG:Gl w0):Calls prog 73 #[.agg q.cells.toArray,J pk] w0 (Be λv w'=>∃y:Sv,v=.tuple #[.agg y.cells.toArray,.bool (Ml c pk).2]/\Rep (Btw w0 w') w' (Ke (Ml c pk).1) y.cells/\Same [] w0 w'):=by
 refine Ga func73 O ntmps73 Ib (Md _ _) ?_;have hF:=FR.start w0 [];refine Ia (Bf hF O ?_);rintro b1 w hb1 hF -;refine Td (cs:=#[.bool false,J 0,I [],aQ,aQ]) hF oX O ?_;rintro b2 w hb2 hF -;refine Ca (Jc O) (Ea (Ja (Ia (Ca (Vb O) (Ea (Za (Ia (Ca (Rq O O) (Ca (Jc O) ?_)))))))));refine Ea (Rc O O (λhc0=>?_) (λhc0=>?_));refine Ia (Ca (Bc HS O) (Ma (v:=.agg (q.x.cells).toArray) (Ya (l:=q.x.cells) bZ qZ O O (hF.part 1 2 O O)) ?_));refine Db (Wo c.b q.x S _ (hF.rep hq.x) hk.b (hG.ext hF.same)) (Ra G1 O O) ?_;rintro _ w ⟨y,rfl,hRt,hE⟩;have hY:=RX.made (ids:=[b2,b1]) hF.same.size (λx hx=>hF.lt_ids (by simpa using hx)) hRt;have hF:=hF.ext hE;clear hE hRt;refine Pf hF qZ O O Yh ?_;intro w hF hE;have hY:=hY.store hE (by grind);refine Ca (Jc O) (Ea ?_);refine Ec (Dc (Ua (He O (l:=y.cells) O bZ qZ O (hF.cellsAll 0 O) (v:=.bool true) O) ?_));have e:Ml c pk=(Oq c.b,true):=by unfold Ml;rw[if_pos hc0]
 rw[e]
 ·exact⟨y,O,hY.done,hF.same⟩
 refine Ia (Ca (Rq O O) (Ca (Jc O) (Ea ?_)));refine Rc O O (λhc1=>?_) (λhc1=>?_);refine Ia (Ca (Bc JS O) (Ma (v:=.agg (q.y.cells).toArray) (Ya (l:=q.y.cells) bZ qZ O O (hF.part 1 7 O O)) ?_));refine Db (Wo c.l q.y S _ (hF.rep hq.y) hk.l (hG.ext hF.same)) (Ra G1 O O) ?_;rintro _ w ⟨y,rfl,hRt,hE⟩;have hY:=RX.made (ids:=[b2,b1]) hF.same.size (λx hx=>hF.lt_ids (by simpa using hx)) hRt;have hF:=hF.ext hE;clear hE hRt;refine Pf hF qZ O O Yh ?_;intro w hF hE;have hY:=hY.store hE (by grind);refine Ca (Jc O) (Ea ?_);refine Ec (Dc (Ua (He O (l:=y.cells) O bZ qZ O (hF.cellsAll 0 O) (v:=.bool true) O) ?_));have e:Ml c pk=(Oq c.l,true):=by unfold Ml;rw[if_neg hc0,if_pos hc1]
 rw[e]
 ·exact⟨y,O,hY.done,hF.same⟩
 refine Ia (Ca (Rq O O) (Ca (Jc O) (Ea ?_)));refine Rc O O (λhc2=>?_) (λhc2=>?_);refine Ia (Ca (Bc QS O) (Ma (v:=.agg (q.z.cells).toArray) (Ya (l:=q.z.cells) bZ qZ O O (hF.part 1 12 O O)) ?_));refine Db (Wo c.r q.z S _ (hF.rep hq.z) hk.r (hG.ext hF.same)) (Ra G1 O O) ?_;rintro _ w ⟨y,rfl,hRt,hE⟩;have hY:=RX.made (ids:=[b2,b1]) hF.same.size (λx hx=>hF.lt_ids (by simpa using hx)) hRt;have hF:=hF.ext hE;clear hE hRt;refine Pf hF qZ O O Yh ?_;intro w hF hE;have hY:=hY.store hE (by grind);refine Ca (Jc O) (Ea ?_);refine Ec (Dc (Ua (He O (l:=y.cells) O bZ qZ O (hF.cellsAll 0 O) (v:=.bool true) O) ?_));have e:Ml c pk=(Oq c.r,true):=by unfold Ml;rw[if_neg hc0,if_neg hc1,if_pos hc2]
 rw[e]
 ·exact⟨y,O,hY.done,hF.same⟩
 refine Va (Fb (Ha (Ia ?_)));refine Ma (w':=w) (v:=.agg #[.bool false,J 0,I [],aQ,aQ]) Ob (Pf hF qZ O O Yh ?_);rintro w hF -;refine Ca (Jc O) (Ea ?_);refine Ec (Dc (Ua (He O (l:=[.bool false,J 0,I [],aQ,aQ]) O bZ qZ O (hF.cellsAll 0 O) (v:=.bool false) O) ?_));have e:Ml c pk=(noS,false):=by unfold Ml;rw[if_neg hc0,if_neg hc1,if_neg hc2]
 rw[e];exact⟨⟨false,HY⟩,O,D8,hF.same⟩
theorem fits_c(c:Cf)(q:Cv)(S:Nat->Prop)(w0:World)(hq:CvOf S w0 c q)(hk:CfOk c)(hG:Gl w0):Calls prog 72 #[.agg q.cells.toArray] w0 (Be λv w'=>v=.bool (BC c)/\Same [] w0 w'):=by
 refine Ga func72 O ntmps72 Ib (Id _) ?_;have hF:=FR.start w0 [];refine Ia (Bf hF O ?_);rintro b1 w hb1 hF -;refine Ca (Jc O) (Ea (Ja (Ia (Ca (Bc HS O) (Ma (v:=.agg (q.x.cells).toArray) (Ya (l:=q.x.cells) bZ qZ O O (hF.part 0 2 O O)) (Ca (Bc JS O) (Ma (v:=.agg (q.y.cells).toArray) (Ya (l:=q.y.cells) bZ qZ O O (hF.part 0 7 O O)) (Ca (Bc QS O) (Ma (v:=.agg (q.z.cells).toArray) (Ya (l:=q.z.cells) bZ qZ O O (hF.part 0 12 O O)) ?_)))))))));refine Bi 3 hF (Sa (cs:=((th q.x q.y q.z)).toArray) underlying128 qZ oX Pa Pa Ob) ?_;rintro b2 w hb2 hF -;have hrow:Rep (λx=>S x\/x=b2) _ (.slice ([c.b,c.l,c.r].map Ke)) _:=hF.rowS 0 rfl (n:=3) (RepL.cons_mk (hF.rep hq.x) (RepL.cons_mk (hF.rep hq.y) (RepL.cons_mk (c2:=[]) (hF.rep hq.z) RepL.nil_mk))) rfl tX;refine Ca (Tf underlying128 O) (Ca (Vb O) (Ea (Za ?_)));refine Fd (λμ σ w=>∃(j:Nat),μ=3-j/\(j<=3)/\(Rep (λx=>S x\/x=b2) w (.slice ([c.b,c.l,c.r].map Ke)) [W b2 3 3])/\(([c.b,c.l,c.r].take j).all (λs=>G5 s c.cls)=true)/\AllEq σ [(1,V b1),(11,W b2 3 3),(12,J 3),(13,J ((j:Int)))]/\FR w0 [] [(b2,.cells ((th q.x q.y q.z)).toArray 39),(b1,.cells #[.slice q.A q.n q.c,J (q.k),.bool (q.x.h),J (q.x.v.k),I (q.x.v.t),.slice q.x.v.A q.x.v.n q.x.v.c,.slice q.x.v.B q.x.v.m q.x.v.e,.bool (q.y.h),J (q.y.v.k),I (q.y.v.t),.slice q.y.v.A q.y.v.n q.y.v.c,.slice q.y.v.B q.y.v.m q.y.v.e,.bool (q.z.h),J (q.z.v.k),I (q.z.v.t),.slice q.z.v.A q.z.v.n q.z.v.c,.slice q.z.v.B q.z.v.m q.z.v.e] 41)] w) _ ⟨0,O,tX,(hrow),(O),Uu,hF⟩ ?_;rintro μ σ w ⟨j,rfl,hj,hrow,ha,hs,hF⟩;refine Cg.slots hs ?_;clear hs;intro σ;refine Ia (Ca (Hn O O) (Ea (Ja ?_)));refine Rc O O (λhc0=>?_) (λhc0=>?_);refine Va (Ha (Ja (Za (Ja ?_))));have hj3:j<[c.b,c.l,c.r].length:=by simp only[kQ,List.length_nil];omega
 obtain⟨ad,s,hAs,hks,hes⟩:=hrow.sd_elem (i:=j) hj3;obtain⟨sd,hsd⟩:∃sd,sd=[c.b,c.l,c.r][j]:=⟨_,rfl⟩;rw[<-hsd]at hes;have hsok:SdOk sd:=hsd▸hk.all _ (eQ _);have hse:=Me hes;have hqk:=hq.k;refine Fa (Ma (v:=.pointer (some (ad.add (j*5)))) (Ta (i:=(j:Int)) sl_128 O hAs O tX tX) (Ma (v:=.agg (s.cells).toArray) (Ya (l:=s.cells) bZ qZ O O hks) ?_));refine Qg hF oX qZ O ?_;intro b3 w hb3 hF hE;have hrow:=hrow.ext hE;have hes:=hes.ext hE;have hse:=Me hes;refine Lc (Ca (Bc En O) (Sc (TI cZ O hF.F 0 O O) (Ca (Hd O) ?_)));refine Zd (d:=19) O (λhg0=>?_) (λhg0=>?_);refine Ca (Bc Ge O) (Ma (v:=.agg (s.v.cells).toArray) (Ya (l:=s.v.cells) zQ oZ O O (hF.part 0 1 O O)) ?_);refine Db (Aq sd.val hsok.sz _ _ s.v.cells hse.2.2.2.2 hsok.ok (hG.ext hF.same)) (Ra Mz O O) ?_;rintro _ w ⟨rfl,hE⟩;have hF:=hF.ext hE;have hrow:=hrow.ext hE;have hes:=hes.ext hE;have hse:=Me hes;refine Ca (Fk O) (Ca (Hd O) ?_);refine Zd (d:=24) O (λhg1=>?_) (λhg1=>?_);refine Ka (Ka (Ka (Ka (Ka (Ka (Ka (Ka (Ka (Ca (Kc O O) (Ca (Kc O O) (Ea (Se O ?_))))))))))));refine Ia (Ca (Jc O) (Ea ?_));refine Rd (v:=.bool false) O O ⟨congrArg Value.bool ?_,hF.same⟩;symm;rw[P8,List.all_eq_false];refine⟨sd,hsd▸eQ _,?_⟩;unfold G5;simp_all;refine Ca (Bc L8 O) (Sc (Zq aZ O hF.F 2 O O) (Ca (Rq O O) (Ca (Hd O) ?_)));refine Tc (d:=28) O (λhg2=>?_) (λhg2=>?_);refine Ca (Bc Ge O) (Ca (Bc Wf O) (Sc (Zq aZ O hF.F 0 O O) (Ca (Bw O O) (Ca (Kc O O) (Ca (Ld O O) (Ca (Kc O O) (Ea ?_)))))));refine Rc O O (λhc1=>?_) (λhc1=>?_);refine Ia (Ca (Jc O) (Ea ?_));refine Rd (v:=.bool false) O O ⟨congrArg Value.bool ?_,hF.same⟩;symm;rw[P8,List.all_eq_false];refine⟨sd,hsd▸eQ _,?_⟩;unfold G5;simp_all;refine Va (Fb (Ha (Fa (Ca (Sl (((j+1:Nat):Int)) O O) (Ca (Vb O) (Gb ?_))))));have hgood:G5 sd c.cls=true:=by unfold G5;simp_all
 refine Cc ⟨_,?_,j+1,O,tX,(hrow),(by rw[iQ hj3,List.all_append,ha,<-hsd];simp[hgood]),Uu,hF.drop 1⟩;omega;refine Ka (Ka (Ka (Ka (Ca (Ld O O) (Ca (Ld O O) (Ca (Kc O O) (Ea (Bg O (Va (Fb (Ha (Fa ?_))))))))))));refine Ca (Sl (((j+1:Nat):Int)) O O) (Ca (Vb O) (Gb ?_));have hgood:G5 sd c.cls=true:=by unfold G5;simp_all
 refine Cc ⟨_,?_,j+1,O,tX,(hrow),(by rw[iQ hj3,List.all_append,ha,<-hsd];simp[hgood]),Uu,hF.drop 1⟩;omega;refine Ka (Ka (Ka (Ka (Ka (Ka (Ka (Ka (Ka (Ka (Ka (Ka (Ka (Ka ?_)))))))))))));refine Ka (Ca (Ld O O) (Ea (Bg O (Va (Fb (Ha (Fa (Ca (Sl (((j+1:Nat):Int)) O O) (Ca (Vb O) (Gb ?_))))))))));have hgood:G5 sd c.cls=true:=by unfold G5;simp_all
 refine Cc ⟨_,?_,j+1,O,tX,(hrow),(by rw[iQ hj3,List.all_append,ha,<-hsd];simp[hgood]),Uu,hF.drop 1⟩;omega;refine Wc (Vc O ?_);refine Ha (Ia (Ca (Jc O) (Ea ?_)));refine Rd (v:=.bool true) O O ⟨congrArg Value.bool ?_,hF.same⟩;obtain rfl:j=3:=by omega
 rw[P8];exact ha.symm
theorem IT(x:Tv)(hl:x.t.length<=140737488355328)(w0:World)(hG:Gl w0):Calls prog 74 #[.agg (x.cells).toArray] w0 (Be λv w'=>v=J (Du x.k x.t)/\Same [] w0 w'):=by
 refine Ga func74 O ntmps74 Ib (Id _) ?_;have hF:=FR.start w0 [];refine Ia (Bf hF O ?_);rintro b1 w hb1 hF -;refine Ca (Yc O) (Ea (Ja (Ia (Ca (Bc Wf O) (Sc (Zq aZ O hF.F 0 O O) (Ca (Bw O O) (Ea ?_)))))));refine Rc O O (λhc0=>?_) (λhc0=>?_);refine Ia (Ca (Yc O) (Ea ?_));refine Rd (v:=J ((-1))) O O ?_;exact⟨congrArg (Value.int .i64) (by simp_all[Du]),hF.same⟩;refine Va (Ha (Ia (Ca (Bc Fi O) (Sc (Zy fZ O hF.F 0 O O) ?_))));refine Hb hF (UH x.t hl _) (Ra en_77 O O) ?_;intro w hF;refine Ca (So O) (Ca (Zz O O) (Ca (Sy O O) ?_));refine Qg hF qX uZ O ?_;rintro b2 w hb2 hF -;refine Ca (Yc O) (Ea (Ja (Ia (Ca (Vb O) (Ca (Bw O O) (Ea ?_))))));refine Rc O O (λhc1=>?_) (λhc1=>?_);refine Ia (Ca (Yc O) (Ea ?_));refine Rd (v:=J ((-1))) O O ?_;exact⟨congrArg (Value.int .i64) (by simp_all[Du]),hF.same⟩;refine Va (Ha (Ia (Sc (Of eZ uZ O hF.F 0 O O) ?_)));refine Hb hF (BM (Hf x.t).1 (by have:=Gs x.t;omega) _ (hG.ext hF.same)) (Ra en_99 O O) ?_;intro w hF;refine Ca (So O) (Ca (Sy O O) (Ca (Tq O O) (Ca (Yc O) (Ca (Jc O) (Lc (Ca (Vb O) (Ca (Yc O) (Ea ?_))))))));refine Rd (v:=J ((KB (Hf x.t).1).1)) O O ?_;exact⟨congrArg (Value.int .i64) (by simp_all[Du]),hF.same⟩
theorem updM_len(v:Value)(k:Str):∀m:MapL,(RB m k v).length=m.length+if Bh m k=none then 1 else 0:=λm=>by
  have h:=Fu m k;unfold RB;cases hf:m.findIdx? (λx=>decide (x.1=k))with
  | none=>rw[hf]at h;rw[<-h];simp
  | some i =>
    obtain⟨hi,-⟩:=Q9 hf;rw[hf]at h;rw[<-h];simp[hi]
structure CntM (m:MapL) (l:List Str):Prop where
  get:∀t,Bh m t=if t∈l then some (J (l.count t:Int)) else none
  len:m.length=l.eraseDups.length
theorem CntM.nil:CntM [] []:=⟨λt=>by simp[Bh],rfl⟩
theorem CntM.val{m:MapL}{l:List Str}(h:CntM m l)(t:Str):(Bh m t).getD (J 0)=J ((l.count t:Nat):Int):=by
  rw[h.get];by_cases ht:t∈l
  ·rw[if_pos ht];rfl
  rw[if_neg ht,List.count_eq_zero.2 ht];rfl
theorem CntM.add{m:MapL}{l:List Str}(h:CntM m l)(t:Str):CntM (RB m t (J (((l.count t+1:Nat)):Int))) (l++[t]):=by
  refine⟨λk=>?_,?_⟩
  ·rw[WE]
   by_cases e:t=k
   ·subst e
    rw[if_pos rfl,if_pos Da];simp
   rw[if_neg e, h.get, List.count_append, List.count_singleton];have e':(t==k)=false:=by simpa using e
   rw[e'];simp[Ne.symm e]
  rw[updM_len, h.len, h.get, List.eraseDups_append, dQ];by_cases ht:t∈l
  ·rw[if_pos ht]
   have:[t].removeAll l=[]:=by simp[List.removeAll,ht]
   rw[this];simp
  rw[if_neg ht];have:[t].removeAll l=[t]:=by simp[List.removeAll,ht]
  rw[this];rfl
theorem GH{xs:List Tree}{j:Nat}(hj:j<xs.length):Hh (xs.take (j+1))=Hh (xs.take j)++Eh xs[j]:=by
  rw[Ci,Ci,iQ hj,List.flatMap_append];simp
theorem JA(x:Tree):(Eh x).length<=Mb x:=Tree.ind (Q:=λx=>(Eh x).length<=Mb x) (λk t ks xs ih=>by
  have hs:∀ys:List Tree,(∀y∈ys,(Eh y).length<=Mb y)->(Hh ys).length<=Kb ys:=λys=>by
    induction ys with
    | nil=>intro _;simp[Hh]
    | cons y ys ihy =>
      intro h;have h1:=h y Da;have h2:=ihy λz hz=>h z (by simp[hz]);rw[Hh,Kb,dQ];omega
  have:=hs xs ih;rw[Eh,Mb,dQ];split <;> simp <;> omega) x
def WN(x:Tree):Prop:=∀(S:Nat->Prop)(w0:World)(mb:Nat)(m:MapL)(l:List Str)(cs:List Value),Rep S w0 (Ub x) cs->(∀b,S b->b<w0.heap.size/\b∉[mb])->w0.heap[mb]? = some (Rg m)->CntM m l->l.length+Mb x<=1000000000 ->
  Calls prog 71 #[.agg cs.toArray,.map (some mb)] w0 (Be λv w'=>∃m',v=.tuple #[]/\w'.heap[mb]? = some (Rg m')/\CntM m' (l++Eh x)/\Same [mb] w0 w')
theorem KL(ys:List Tree):(Hh ys).length<=Kb ys:=by
  have:=JA (.node 0 [] [] ys);rw[Eh,Mb,if_neg Pa,List.nil_append]at this;have h2:∀zs:List Tree,(Hh zs).length<=Kb zs:=λzs=>by
    induction zs with
    | nil=>simp[Hh]
    | cons z zs ih=>have:=JA z;rw[Hh,Kb,dQ];omega
  exact h2 ys
theorem AI(xs:List Tree)(j:Nat)(hj:j<xs.length):Kb (xs.take j)+Mb xs[j]<=Kb xs:=by
  have h:xs=xs.take j++xs[j]::xs.drop (j+1):=by rw[<-List.drop_eq_getElem_cons hj,List.take_append_drop]
  have h2:=congrArg Kb h;rw[Ee,Kb]at h2;omega
theorem LO(k:Int)(t:Str)(ks:List Str)(xs:List Tree)(ih:∀x,x∈xs->WN x):WN (.node k t ks xs):=by
 intro S w0 mb m l cs hR hS hmb hCm hsz;obtain⟨A,c,B,e,rfl,-,-,-,hX⟩:=hR.tree_inv;have hXl:=hX.slice_len;rw[Mb]at hsz;refine Ga func71 O ntmps71 Ib (Md _ _) ?_;have hF:FR w0 [mb] [(mb,Rg (m))] w0:=FR.open_ (by simp[hmb]) Da;refine Ia (Bf hF O ?_);rintro b1 w hb1 hF -;refine Ea (Ja ?_);refine Mj (λσ w=>∃(m1:MapL),∃(l1:List Str),(l1=l++(if k=7 then [t] else []))/\(CntM m1 l1)/\AllEq σ [(1,.map (some mb)),(2,V b1)]/\FR w0 [mb] [(b1,.cells #[J k,I t,.slice A ks.length c,.slice B xs.length e] 25),(mb,Rg (m1))] w) ?_ ?_;refine Ia (Ca (Bc Wf O) (Sc (Zq aZ O hF.F 0 O O) (Ca (Rq O O) (Ea ?_))));refine Rc O O (λhc0=>?_) (λhc0=>?_);refine Fa (Ca (Zt) (Ca (Bc Fi O) (Sc (Zy fZ O hF.F 0 O O) (Ma (v:=J (((l.count t:Nat):Int))) (Qu underlying96 kX nX O O (hF.heap (i:=1) O) (hCm.val _)) ?_))));have hlc:=List.count_le_length (a:=t) (l:=l);refine Ca (Sl (((l.count t+1:Nat):Int)) O O) (SV 1 (v:=J (((l.count t+1:Nat):Int))) hF underlying96 kX O O O O ?_);rintro w hF -;have hF:FR w0 [mb] [(b1,.cells #[J k,I t,.slice A ks.length c,.slice B xs.length e] 25),(mb,Rg (RB (m) (t) (J (((l.count t+1:Nat):Int)))))] w:=hF;refine Gb ?_;exact Cc ⟨(RB m t (J ((l.count t+1:Nat):Int))),(l++[t]),(by rw[if_pos hc0]),(hCm.add t),GE,hF⟩;refine Va ?_;exact Cc ⟨(m),(l),(by rw[if_neg hc0,qQ]),(hCm),GE,hF⟩;rintro σ w ⟨m1,l1,hl1,hC1,hs,hF⟩;refine Eg.slots hs ?_;clear hs;intro σ;refine Ha (Ia (Ca (Bc Gc O) (Sc (Xf xQ O hF.F 0 O O) (Ca (Tf dX O) (Ca (Vb O) (Ea (Za ?_)))))));refine Fd (λμ σ w=>∃(j:Nat),∃(m2:MapL),μ=xs.length-j/\(j<=xs.length)/\(CntM m2 (l1++Hh (xs.take j)))/\AllEq σ [(1,.map (some mb)),(15,.slice B xs.length e),(16,J ((xs.length:Nat))),(17,J ((j:Int)))]/\FR w0 [mb] [(b1,.cells #[J k,I t,.slice A ks.length c,.slice B xs.length e] 25),(mb,Rg (m2))] w) _ ⟨0,m1,O,(Nat.zero_le _),(by simpa[Hh]using hC1),Uu,hF⟩ ?_
 rintro μ σ w ⟨j,m2,rfl,hj,hC2,hs,hF⟩;refine Cg.slots hs ?_;clear hs;intro σ;have hll:l1.length<=l.length+1:=by rw[hl1,dQ];split <;> simp
 refine Ia (Ca (Hn O O) (Ea (Ja ?_)));refine Rc O O (λhc1=>?_) (λhc1=>?_);refine Va (Ha (Ja (Za (Ia ?_))));obtain⟨ad0,cs0,hA0,hl0,hk0,hx0⟩:=(hF.repE hS hX).tree_elem (i:=j) tX;have ho0:=hx0.one_;have hxj:=hx0;refine Ma (v:=.pointer (some (ad0.add (j*4)))) (Ta (i:=(j:Int)) Ae O hA0 O tX tX) (Ma (v:=.agg (List.toArray cs0)) (Ya (l:=cs0) zQ oZ O hl0 hk0) ?_);refine Kw (l:=cs0) hF mX (by rw[hl0];exact oZ) (by rw[hl0];rfl) (v:=.agg (List.toArray cs0)) O O (ho0) O ?_;intro b2 w hb2 hF hE;have hxj:=hxj.ext hE;refine Ea (Fa (Ma (v:=.agg (List.toArray cs0)) (Ya (l:=cs0) zQ oZ O hl0 (hF.cellsAll 0 O)) (Ca (Zt) ?_)));refine Db (ih _ (eQ _) S _ mb m2 (l1++Hh (xs.take j)) cs0 hxj (λb hb=>⟨Nat.lt_of_lt_of_le (hS b hb).1 hF.same.size,(hS b hb).2⟩) (hF.heap (i:=2) O) hC2 (by have:=KL (xs.take j);have:=AI xs j tX;rw[dQ];omega)) (Xa en_71 O O O) ?_;rintro _ w ⟨m3,rfl,hm3,hC3,hE⟩;have hF:=hF.change 2 rfl hE hm3;have hF:FR w0 [mb] [(b2,.cells (List.toArray cs0) 25),(b1,.cells #[J k,I t,.slice A ks.length c,.slice B xs.length e] 25),(mb,Rg (m3))] w:=hF;clear hE hm3;refine Gb (Fb (Ha (Fa (Ca (Sl (((j+1:Nat):Int)) O O) (Ca (Vb O) (Gb ?_))))));refine Cc ⟨_,?_,j+1,m3,O,tX,(by rw[GH tX,<-sQ];exact hC3),Uu,hF.drop 1⟩;omega;refine Wc (Vc O ?_);refine Rf (Vd (Rh O) ?_);obtain rfl:j=xs.length:=by omega
 refine⟨m2,O,hF.heap (i:=1) O,?_,hF.same⟩;rw[List.take_length]at hC2;rw[Eh,<-sQ,<-hl1];exact hC2
theorem holes_c(x:Tree):WN x:=Tree.ind LO x
theorem D9{v:Tree}{L:List Cf}{pick:List Int}{j:Nat}(h:(List.range j).all (λi=>decide ((Eh v).count (Si i)=1)&&(BC (L.getD i noC)&&(Ml (L.getD i noC) (pick.getD i 0)).2))=true)(h1:(Eh v).count (Si j)=1)(hj:j<L.length)(hp:j<pick.length)(h2:BC L[j]=true)(h3:(Ml L[j] pick[j]).2=true) :
    (List.range (j+1)).all (λi=>decide ((Eh v).count (Si i)=1)&&(BC (L.getD i noC)&&(Ml (L.getD i noC) (pick.getD i 0)).2))=true:=by
  have e1:L.getD j noC=L[j]:=by simp[List.getD,hj]
  have e2:pick.getD j 0=pick[j]:=by simp[List.getD,hp]
  rw[List.range_succ,List.all_append,h,List.all_cons,List.all_nil,e1,e2,h2,h3,decide_eq_true h1];rfl
theorem Ly{v:Tree}{L:List Cf}{pick:List Int}{j:Nat}(hj:j<L.length)(hp:j<pick.length)(h:¬((Eh v).count (Si j)=1/\BC L[j]=true/\(Ml L[j] pick[j]).2=true)):Iu v L pick=false:=by
  have e1:L.getD j noC=L[j]:=by simp[List.getD,hj]
  have e2:pick.getD j 0=pick[j]:=by simp[List.getD,hp]
  rw[Bool.eq_false_iff];intro hg;unfold Iu at hg;rw[Bool.and_eq_true,Bool.and_eq_true,List.all_eq_true]at hg;have:=hg.2.2 j (List.mem_range.2 hj);rw[e1,e2,Bool.and_eq_true,Bool.and_eq_true,decide_eq_true_eq]at this;exact h this
theorem ZC{v:Tree}{L:List Cf}{pick:List Int}(h:¬(L.length=pick.length/\(Eh v).eraseDups.length=L.length)):Iu v L pick=false:=by
  rw[Bool.eq_false_iff];intro hg;unfold Iu at hg;rw[Bool.and_eq_true,Bool.and_eq_true,decide_eq_true_eq,decide_eq_true_eq]at hg;exact h ⟨hg.1,hg.2.1⟩
theorem AX{v:Tree}{L:List Cf}{pick:List Int}(h1:L.length=pick.length)(h2:(Eh v).eraseDups.length=L.length)(h:(List.range L.length).all (λi=>decide ((Eh v).count (Si i)=1)&&(BC (L.getD i noC)&&(Ml (L.getD i noC) (pick.getD i 0)).2))=true):Iu v L pick=true:=by
  unfold Iu;rw[decide_eq_true h1,decide_eq_true h2,h];rfl
theorem goodC_c(L:List Cf)(pick:List Int)(LA PA:Option Addr)(lc pc:Nat)(SL SP:Nat->Prop)(t:Tree)(x:Tv)(SX:Nat->Prop)(w0:World)(hL:Rep SL w0 (.slice (L.map RC)) [.slice LA L.length lc])(hP:Rep SP w0 (.slice (pick.map Kh)) [.slice PA pick.length pc])(hLk:∀c∈L,CfOk c)(hX1:Rep SX w0 (Ub t) x.cells)(hsz:Mb t<=1000000000)(hG:Gl w0):Calls prog 40 #[.agg #[.slice LA L.length lc,.slice PA pick.length pc],.agg (x.cells).toArray] w0 (Be λv w'=>v=.bool (Iu t L pick)/\Same [] w0 w'):=by
 have hX:=hX1.low;have hLl:=hL.slice_len;have hPl:=hP.slice_len;simp only[rQ]at hLl hPl;refine Ga func40 O ntmps40 Ib (Md _ _) ?_;have hF:=FR.start w0 [];refine Ia (Bf hF O ?_);rintro b1 w hb1 hF -;refine Bf hF O ?_;rintro b2 w hb2 hF -;refine Ca (Jc O) (Lc ?_);refine Us (v:=λb=>.map (some b)) hF (ZA underlying96) ?_;rintro b3 w hb3 hF -;refine Ca (C4) (Lc (Sc (Of zQ oZ O hF.F 1 O O) (Ca (Zt) ?_)));refine Db (holes_c t _ _ b3 [] [] x.cells (hF.rep hX) (λb hb=>⟨Nat.lt_of_lt_of_le hb hF.same.size,λhm=>by have h8:=hF.ge (i:=0) O;rw[pQ]at hm;omega⟩) (hF.heap (i:=0) O) CntM.nil (by simp only[List.length_nil];omega)) (Xa en_71 O O O) ?_;rintro _ w ⟨m1,rfl,hm1,hC1,hE⟩;rw[List.nil_append]at hC1;have hF:=hF.change 0 rfl hE hm1;have hF:FR w0 [] [(b3,Rg (m1)),(b2,.cells (x.cells).toArray 25),(b1,.cells #[.slice LA L.length lc,.slice PA pick.length pc] 72)] w:=hF;clear hE hm1;have hC1l:=hC1.len;refine Ea (Ja (Ia (Ca (Bc Y3 O) (Sc (Xf isAgg30 O hF.F 2 O O) (Ca (Tf gX O) (Ca (Bc UG O) (Sc (Xf dZ O hF.F 2 O O) (Ca (Tf iX O) (Ca (Bw O O) (Ca (Hd O) ?_))))))))));refine Tc (d:=21) O (λhg0=>?_) (λhg0=>?_);refine Ka (Ka (Ka (Ka (Ka (Ka (Ca (Kc O O) (Ea (Se O (Ia (Ca (Jc O) (Gb ?_)))))))))));refine Ha (Rd (v:=.bool false) O O ?_);refine⟨congrArg Value.bool (ZC ?_).symm,hF.same⟩;omega;refine Ca (Zt) (Ma (v:=J (((m1).length:Nat))) (K4 underlying96 O (hF.heap (i:=0) O)) (Ca (Bc Y3 O) (Sc (Xf isAgg30 O hF.F 2 O O) (Ca (Tf gX O) (Ca (Bw O O) (Ca (Ld O O) (Ea ?_)))))));refine Rc O O (λhc0=>?_) (λhc0=>?_);refine Ia (Ca (Jc O) (Ea ?_));refine Rd (v:=.bool false) O O ⟨congrArg Value.bool (ZC ?_).symm,hF.same⟩;omega;refine Va (Ha (Ja (Ia (Ca (Bc Y3 O) (Sc (Xf isAgg30 O hF.F 2 O O) (Ca (Tf gX O) (Ca (Vb O) (Ea (Za ?_)))))))));have hlp:L.length=pick.length:=by omega
 have hll:(Eh t).eraseDups.length=L.length:=by omega
 refine Fd (λμ σ w=>∃(j:Nat),μ=L.length-j/\(j<=L.length)/\((List.range j).all (λi=>decide ((Eh t).count (Si i)=1)&&(BC (L.getD i noC)&&(Ml (L.getD i noC) (pick.getD i 0)).2))=true)/\AllEq σ [(2,V b1),(5,.map (some b3)),(30,.slice LA L.length lc),(31,J ((L.length:Nat))),(32,J ((j:Int)))]/\FR w0 [] [(b3,Rg (m1)),(b2,.cells (x.cells).toArray 25),(b1,.cells #[.slice LA L.length lc,.slice PA pick.length pc] 72)] w) _ ⟨0,O,(Nat.zero_le _),(O),Jw,hF⟩ ?_;rintro μ σ w ⟨j,rfl,hj,ha,hs,hF⟩;refine Cg.slots hs ?_;clear hs;intro σ;refine Ia (Ca (Hn O O) (Ea (Ja ?_)));refine Rc O O (λhc1=>?_) (λhc1=>?_);refine Va (Ha (Ja (Za (Ja ?_))));have hjL:j<L.length:=by omega
 have hjP:j<pick.length:=by omega
 obtain⟨ad0,cq0,hAd0,hcq0,hcf⟩:=hL.cf_elem hjL;refine Fa (Ca (Vb O) (Ma (v:=.pointer (some (ad0.add (j*17)))) (Ta (i:=(j:Int)) R2 O hAd0 O tX tX) (Ma (v:=.agg #[.slice cq0.A cq0.n cq0.c,J (cq0.k),.bool (cq0.x.h),J (cq0.x.v.k),I (cq0.x.v.t),.slice cq0.x.v.A cq0.x.v.n cq0.x.v.c,.slice cq0.x.v.B cq0.x.v.m cq0.x.v.e,.bool (cq0.y.h),J (cq0.y.v.k),I (cq0.y.v.t),.slice cq0.y.v.A cq0.y.v.n cq0.y.v.c,.slice cq0.y.v.B cq0.y.v.m cq0.y.v.e,.bool (cq0.z.h),J (cq0.z.v.k),I (cq0.z.v.t),.slice cq0.z.v.A cq0.z.v.n cq0.z.v.c,.slice cq0.z.v.B cq0.z.v.m cq0.z.v.e]) (Ya (l:=cq0.cells) isAgg41 sizeOf41 O O (hF.cells0 hcq0)) ?_)));refine Td (cs:=#[aQ,J 0,.bool false,J 0,I [],aQ,aQ,.bool false,J 0,I [],aQ,aQ,.bool false,J 0,I [],aQ,aQ]) hF zeroValue41 O ?_;rintro b4 w hb4 hF -;refine Ca (Yc O) (Pf hF sizeOf41 O O Yh ?_);rintro w hF -;refine Ea (Ja (Ia (Ca (Zt) (Ca (Vb O) ?_))));refine Hb hF (BU (j:Int) tX tX _ (hG.ext hF.same)) (Ra en_43 O O) ?_;intro w hF;refine Hb hF (XO (TD (j:Int)) (by have:=Gs (Lib.itoa (j:Int));exact fQ this Pa) _ (hG.ext hF.same)) (Ra en_42 O O) ?_;intro w hF;refine Ma (v:=J ((((Eh t).count (Io (TD (j:Int))):Nat):Int))) (Qu underlying96 kX nX O O (hF.heap (i:=1) O) (hC1.val _)) (Ca (Bw O O) (Ca (Hd O) ?_));refine Tc (d:=43) O (λhg1=>?_) (λhg1=>?_);refine Ka (Ka (Ka (Ca (Kc O O) (Ea (Se O (Ia (Ca (Jc O) (Ea ?_))))))));refine Rd (v:=.bool false) O O ⟨congrArg Value.bool ?_,hF.same⟩;exact (Ly hjL hjP (λ⟨a,b,c⟩=>by simp_all[Si])).symm;refine Sc (Of isAgg41 sizeOf41 O hF.F 0 O O) (Hb hF (fits_c L[j] cq0 _ _ (hcf.ext hF.same) (hLk _ (eQ _)) (hG.ext hF.same)) (Ra en_72 O O) ?_);intro w hF;refine Ca (Fk O) (Ca (Ld O O) (Ea ?_));refine Jg O O (λhc2=>?_) (λhc2=>?_);refine Ia (Ca (Jc O) (Ea ?_));refine Rd (v:=.bool false) O O ⟨congrArg Value.bool ?_,hF.same⟩;exact (Ly hjL hjP (λ⟨a,b,c⟩=>by simp_all[Si])).symm
 refine Va (Ha (Ja ?_));refine Xg (zs:=.of []) (bQ [0,1,2,3,4,5] (.alt 6 (bQ [7,8,9] (.act 10 (.act 11 (.free 12 .nil)))) (.act 10 (.act 6 (bQ [7,8,9] (.act 11 (.free 12 .nil))))))) hF ?_;intro w hF;refine Wj O (Of isAgg41 sizeOf41 O C0 0 O O) (Cb O (Bc UG O) (Wj O (Xf dZ O C0 3 O O) (Cb O (Vb O) ?_)));obtain⟨ad2,hA2,hk2,hx2⟩:=hP.int_elem (i:=j) (hjP);refine Qa O (v:=.pointer (some (ad2.add (j*1)))) (λw hC=>Ta (i:=(j:Int)) Gh O hA2 O tX tX) (Qa O (v:=J (pick[j])) (λw hC=>Pb aZ O (hC.cell0 hk2)) ?_);refine Qf ?_ ?_;refine Qb O (Dv L[j] cq0 pick[j] _ _ (hcf.ext hF.same) (hLk _ (eQ _)) (hG.ext hF.same)) (Xa NT O O O) ?_;rintro _ w ⟨y,rfl,hRt,hE⟩;have hF:=hF.ext hE;clear hE hRt;refine⟨hF,?_⟩;refine Cb O (So O) (Cb O (Zz O O) (Cb O (Tq O O) ?_));refine Af O (v:=λb=>V b) (o:=.cells #[.bool false,J 0,I [],aQ,aQ] 39) hF (Xe oX) ?_;rintro b5 w hb5 hF -;refine⟨hF.drop 1,?_⟩;refine Eu O hF qZ O O Yh ?_;rintro w hF -;refine⟨hF.drop 1,?_⟩;refine Cb O (Jc O) (Hc (Ha (Ia (Ca (Hd O) (Ca (Fk O) (Ea ?_))))));refine Jg O O (λhc3=>?_) (λhc3=>?_);refine Ia (Ca (Jc O) (Ea ?_));refine Rd (v:=.bool false) O O ⟨congrArg Value.bool ?_,hF.same⟩;exact (Ly hjL hjP (λ⟨a,b,c⟩=>by simp_all[Si])).symm;refine Va (Fb (Ha (Fa (Ca (Sl (((j+1:Nat):Int)) O O) (Ca (Vb O) (Gb ?_))))));refine Cc ⟨_,?_,j+1,O,tX,(D9 ha (by simp_all[Si];omega) hjL hjP (by simp_all) (by simp_all)),Jw,hF.drop 2⟩;omega;refine Af O (v:=λb=>V b) (o:=.cells #[.bool false,J 0,I [],aQ,aQ] 39) hF (Xe oX) ?_;rintro b6 w hb6 hF -;refine⟨hF.drop 1,?_⟩;refine Qb O (Dv L[j] cq0 pick[j] _ _ (hcf.ext hF.same) (hLk _ (eQ _)) (hG.ext hF.same)) (Xa NT O O O) ?_;rintro _ w ⟨y,rfl,hRt,hE⟩;have hF:=hF.ext hE;clear hE hRt;refine⟨hF.drop 1,?_⟩;refine Cb O (So O) (Cb O (Zz O O) (Cb O (Tq O O) ?_));refine Eu O hF qZ O O Yh ?_
 rintro w hF -;refine⟨hF.drop 1,?_⟩;refine Cb O (Jc O) (Hc (Ha (Ia (Ca (Hd O) (Ca (Fk O) (Ea ?_))))));refine Jg O O (λhc3=>?_) (λhc3=>?_);refine Ia (Ca (Jc O) (Ea ?_));refine Rd (v:=.bool false) O O ⟨congrArg Value.bool ?_,hF.same⟩;exact (Ly hjL hjP (λ⟨a,b,c⟩=>by simp_all[Si])).symm;refine Va (Fb (Ha (Fa (Ca (Sl (((j+1:Nat):Int)) O O) (Ca (Vb O) (Gb ?_))))));refine Cc ⟨_,?_,j+1,O,tX,(D9 ha (by simp_all[Si];omega) hjL hjP (by simp_all) (by simp_all)),Jw,hF.drop 2⟩;omega;refine Wc (Vc O ?_);refine Ha (Ia (Ca (Jc O) (Ea ?_)));refine Rd (v:=.bool true) O O ?_;obtain rfl:j=L.length:=by omega
 exact⟨congrArg Value.bool (AX hlp hll ha).symm,hF.same⟩
end Go.Scarf
