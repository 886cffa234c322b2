/- A part of the proof. -/
import Derived.Test.YthnkjgpjdbdchaaGreatDoorM12
import Derived.Test.YthnkjgpjdbdchaaGreatDoorMapS
set_option linter.all false
set_option maxHeartbeats 8000000
set_option maxRecDepth 10000
namespace Go.Scarf
open Go.RowKit Go.Proofs Go.Proofs.Tryz
structure Cv where
  A:Option Addr
  n:Nat
  c:Nat
  k:Int
  x:Sv
  y:Sv
  z:Sv
abbrev Cv.cells(q:Cv):List Value:=[.slice q.A q.n q.c,J q.k]++th q.x q.y q.z
structure CvOf (S:Nat->Prop) (w:World) (c:Cf) (q:Cv):Prop where
  n:q.n=c.path.length
  k:q.k=c.cls
  p:Rep S w (Ld c.path) [.slice q.A q.n q.c]
  x:Rep S w (Je c.b) q.x.cells
  y:Rep S w (Je c.l) q.y.cells
  z:Rep S w (Je c.r) q.z.cells
theorem cf_open{S:Nat->Prop}{w:World}{c:Cf}{cs:List Value}(h:Rep S w (XB c) cs):∃q:Cv,cs=q.cells/\CvOf S w c q:=by
  unfold XB at h;rw[Rep]at h;obtain⟨c1,d1,rfl,h1,h⟩:=RepL.cons_inv h;obtain⟨c2,d2,rfl,h2,h⟩:=RepL.cons_inv h;obtain⟨c3,d3,rfl,h3,h⟩:=RepL.cons_inv h;obtain⟨c4,d4,rfl,h4,h⟩:=RepL.cons_inv h;obtain⟨c5,d5,rfl,h5,h⟩:=RepL.cons_inv h;obtain rfl:=RepL.nil_inv h;obtain⟨A,n,rfl⟩:∃A e,c1=[.slice A c.path.length e]:=by
    have h1':=h1;unfold Ld at h1';rw[Rep]at h1';obtain⟨A,c,rfl,-⟩:=h1';exact⟨A,c,by rw[rQ]⟩
  obtain rfl:c2=[J c.cls]:=by
    unfold Ah at h2;rw[Rep]at h2;exact h2.1
  obtain⟨x,rfl,-⟩:=B7 h3;obtain⟨y,rfl,-⟩:=B7 h4;obtain⟨z,rfl,-⟩:=B7 h5;exact⟨⟨A,c.path.length,n,c.cls,x,y,z⟩,by simp,⟨O,O,h1,h3,h4,h5⟩⟩
theorem CvOf.ext{S:Nat->Prop}{w w':World}{c:Cf}{q:Cv}(h:CvOf S w c q)(hs:Same [] w w'):CvOf S w' c q:=⟨h.n,h.k,h.p.ext hs,h.x.ext hs,h.y.ext hs,h.z.ext hs⟩
theorem Rep.cf_elem{S:Nat->Prop}{w:World}{l:List Cf}{A:Option Addr}{len c:Nat}(h:Rep S w (.slice (l.map XB)) [.slice A len c]){i:Nat}(hi:i<l.length) :
    ∃(ad:Addr)(q:Cv),A=some ad/\(∀j (hj:j<q.cells.length),w.cell? ((ad.add (i*17)).add j)=some q.cells[j])/\CvOf S w l[i] q:=by
  obtain⟨ad,cs,hA,hl,hc,hr⟩:=Rep.elem (sz:=17) h (λd hd=>by obtain⟨k,_,rfl⟩:=nQ.1 hd;exact VY k) (i:=i) (by simpa using hi);rw[List.getElem_map]at hr;obtain⟨q,rfl,hq⟩:=cf_open hr;exact⟨ad,q,hA,hc,hq⟩
theorem Rep.sd_elem{S:Nat->Prop}{w:World}{l:List Sd}{A:Option Addr}{len c:Nat}(h:Rep S w (.slice (l.map Je)) [.slice A len c]){i:Nat}(hi:i<l.length) :
    ∃(ad:Addr)(q:Sv),A=some ad/\(∀j (hj:j<q.cells.length),w.cell? ((ad.add (i*5)).add j)=some q.cells[j])/\Rep S w (Je l[i]) q.cells:=by
  obtain⟨ad,cs,hA,hl,hc,hr⟩:=Rep.elem (sz:=5) h (λd hd=>by obtain⟨k,_,rfl⟩:=nQ.1 hd;exact Zr k) (i:=i) (by simpa using hi);rw[List.getElem_map]at hr;obtain⟨q,rfl,hq⟩:=B7 hr;exact⟨ad,q,hA,hc,hr⟩
structure CfOk (c:Cf):Prop where
  b:SdOk c.b
  l:SdOk c.l
  r:SdOk c.r
theorem CfOk.all{c:Cf}(h:CfOk c):∀s∈[c.b,c.l,c.r],SdOk s:=by
  intro s hs;simp only[oQ,List.not_mem_nil,or_false]at hs;rcases hs with rfl|rfl|rfl
  ·exact h.b
  ·exact h.l
  exact h.r
theorem G8(c:Cf):ZA c=[c.b,c.l,c.r].all λs=>E4 s c.cls:=by simp[ZA]
def Yt(k:Int)(s:Str):Int:=if k≠7 then -1 else if (Ef s).2≠0 then -1 else (T_ (Ef s).1).1
theorem Yx(v:Tree):Ji v=Yt v.kind v.text:=rfl
theorem Jv(c:Cf)(q:Cv)(pk:Int)(S:Nat->Prop)(w0:World)(hq:CvOf S w0 c q)(hk:CfOk c)(hG:Gl w0):Calls prog 73 #[.agg q.cells.toArray,J pk] w0 (Wd λv w'=>∃y:Sv,v=.tuple #[.agg y.cells.toArray,.bool (Xk c pk).2]/\Rep (Btw w0 w') w' (Je (Xk c pk).1) y.cells/\Same [] w0 w'):=by
 refine Fa func73 O ntmps73 Ib (Hd _ _) ?_;have hF:=FR.start w0 [];refine Ha (Df hF O ?_);rintro b1 w hb1 hF -;refine Md (cs:=#[.bool false,J 0,I [],aQ,aQ]) hF oX O ?_;rintro b2 w hb2 hF -;refine Ca (Ic O) (Ea (Ja (Ha (Ca (Qb O) (Ea (Za (Ha (Ca (Gq O O) (Ca (Ic O) ?_)))))))));refine Ea (Nc O O (λhc0=>?_) (λhc0=>?_));refine Ha (Ca (Zb WP O) (Ka (v:=.agg (q.x.cells).toArray) (Va (l:=q.x.cells) bZ qZ O O (hF.part 1 2 O O)) ?_));refine Fb (Kk c.b q.x S _ (hF.rep hq.x) hk.b (hG.ext hF.same)) (Ra Pv O O) ?_;rintro _ w ⟨y,rfl,hRt,hE⟩;have hY:=RX.made (ids:=[b2,b1]) hF.same.size (λx hx=>hF.lt_ids (by simpa using hx)) hRt;have hF:=hF.ext hE;clear hE hRt;refine If hF qZ O O Ih ?_;intro w hF hE;have hY:=hY.store hE (by grind);refine Ca (Ic O) (Ea ?_);refine Cc (Bc (Ua (Ee O (l:=y.cells) O bZ qZ O (hF.cellsAll 0 O) (v:=.bool true) O) ?_));have e:Xk c pk=(Yp c.b,true):=by unfold Xk;rw[if_pos hc0]
 rw[e]
 ·exact⟨y,O,hY.done,hF.same⟩
 refine Ha (Ca (Gq O O) (Ca (Ic O) (Ea ?_)));refine Nc O O (λhc1=>?_) (λhc1=>?_);refine Ha (Ca (Zb OR O) (Ka (v:=.agg (q.y.cells).toArray) (Va (l:=q.y.cells) bZ qZ O O (hF.part 1 7 O O)) ?_));refine Fb (Kk c.l q.y S _ (hF.rep hq.y) hk.l (hG.ext hF.same)) (Ra Pv O O) ?_;rintro _ w ⟨y,rfl,hRt,hE⟩;have hY:=RX.made (ids:=[b2,b1]) hF.same.size (λx hx=>hF.lt_ids (by simpa using hx)) hRt;have hF:=hF.ext hE;clear hE hRt;refine If hF qZ O O Ih ?_;intro w hF hE;have hY:=hY.store hE (by grind);refine Ca (Ic O) (Ea ?_);refine Cc (Bc (Ua (Ee O (l:=y.cells) O bZ qZ O (hF.cellsAll 0 O) (v:=.bool true) O) ?_));have e:Xk c pk=(Yp c.l,true):=by unfold Xk;rw[if_neg hc0,if_pos hc1]
 rw[e]
 ·exact⟨y,O,hY.done,hF.same⟩
 refine Ha (Ca (Gq O O) (Ca (Ic O) (Ea ?_)));refine Nc O O (λhc2=>?_) (λhc2=>?_);refine Ha (Ca (Zb IR O) (Ka (v:=.agg (q.z.cells).toArray) (Va (l:=q.z.cells) bZ qZ O O (hF.part 1 12 O O)) ?_));refine Fb (Kk c.r q.z S _ (hF.rep hq.z) hk.r (hG.ext hF.same)) (Ra Pv O O) ?_;rintro _ w ⟨y,rfl,hRt,hE⟩;have hY:=RX.made (ids:=[b2,b1]) hF.same.size (λx hx=>hF.lt_ids (by simpa using hx)) hRt;have hF:=hF.ext hE;clear hE hRt;refine If hF qZ O O Ih ?_;intro w hF hE;have hY:=hY.store hE (by grind);refine Ca (Ic O) (Ea ?_);refine Cc (Bc (Ua (Ee O (l:=y.cells) O bZ qZ O (hF.cellsAll 0 O) (v:=.bool true) O) ?_));have e:Xk c pk=(Yp c.r,true):=by unfold Xk;rw[if_neg hc0,if_neg hc1,if_pos hc2]
 rw[e]
 ·exact⟨y,O,hY.done,hF.same⟩
 refine Wa (Eb (Ia (Ha ?_)));refine Ka (w':=w) (v:=.agg #[.bool false,J 0,I [],aQ,aQ]) Mb (If hF qZ O O Ih ?_);rintro w hF -;refine Ca (Ic O) (Ea ?_);refine Cc (Bc (Ua (Ee O (l:=[.bool false,J 0,I [],aQ,aQ]) O bZ qZ O (hF.cellsAll 0 O) (v:=.bool false) O) ?_));have e:Xk c pk=(noS,false):=by unfold Xk;rw[if_neg hc0,if_neg hc1,if_neg hc2]
 rw[e];exact⟨⟨false,RW⟩,O,W6,hF.same⟩
theorem fits_c(c:Cf)(q:Cv)(S:Nat->Prop)(w0:World)(hq:CvOf S w0 c q)(hk:CfOk c)(hG:Gl w0):Calls prog 72 #[.agg q.cells.toArray] w0 (Wd λv w'=>v=.bool (ZA c)/\Same [] w0 w'):=by
 refine Fa func72 O ntmps72 Ib (Zc _) ?_;have hF:=FR.start w0 [];refine Ha (Df hF O ?_);rintro b1 w hb1 hF -;refine Ca (Ic O) (Ea (Ja (Ha (Ca (Zb WP O) (Ka (v:=.agg (q.x.cells).toArray) (Va (l:=q.x.cells) bZ qZ O O (hF.part 0 2 O O)) (Ca (Zb OR O) (Ka (v:=.agg (q.y.cells).toArray) (Va (l:=q.y.cells) bZ qZ O O (hF.part 0 7 O O)) (Ca (Zb IR O) (Ka (v:=.agg (q.z.cells).toArray) (Va (l:=q.z.cells) bZ qZ O O (hF.part 0 12 O O)) ?_)))))))));refine Vh 3 hF (Sa (cs:=((th q.x q.y q.z)).toArray) underlying128 qZ oX Oa Oa Mb) ?_;rintro b2 w hb2 hF -;have hrow:Rep (λx=>S x\/x=b2) _ (.slice ([c.b,c.l,c.r].map Je)) _:=hF.rowS 0 rfl (n:=3) (RepL.cons_mk (hF.rep hq.x) (RepL.cons_mk (hF.rep hq.y) (RepL.cons_mk (c2:=[]) (hF.rep hq.z) RepL.nil_mk))) rfl sX;refine Ca (Mf underlying128 O) (Ca (Qb O) (Ea (Za ?_)));refine Ad (λμ σ w=>∃(j:Nat),μ=3-j/\(j<=3)/\(Rep (λx=>S x\/x=b2) w (.slice ([c.b,c.l,c.r].map Je)) [W b2 3 3])/\(([c.b,c.l,c.r].take j).all (λs=>E4 s c.cls)=true)/\AllEq σ [(1,V b1),(11,W b2 3 3),(12,J 3),(13,J ((j:Int)))]/\FR w0 [] [(b2,.cells ((th q.x q.y q.z)).toArray 39),(b1,.cells #[.slice q.A q.n q.c,J (q.k),.bool (q.x.h),J (q.x.v.k),I (q.x.v.t),.slice q.x.v.A q.x.v.n q.x.v.c,.slice q.x.v.B q.x.v.m q.x.v.e,.bool (q.y.h),J (q.y.v.k),I (q.y.v.t),.slice q.y.v.A q.y.v.n q.y.v.c,.slice q.y.v.B q.y.v.m q.y.v.e,.bool (q.z.h),J (q.z.v.k),I (q.z.v.t),.slice q.z.v.A q.z.v.n q.z.v.c,.slice q.z.v.B q.z.v.m q.z.v.e] 41)] w) _ ⟨0,O,sX,(hrow),(O),Eu,hF⟩ ?_;rintro μ σ w ⟨j,rfl,hj,hrow,ha,hs,hF⟩;refine Cg.slots hs ?_;clear hs;intro σ;refine Ha (Ca (An O O) (Ea (Ja ?_)));refine Nc O O (λhc0=>?_) (λhc0=>?_);refine Wa (Ia (Ja (Za (Ja ?_))));have hj3:j<[c.b,c.l,c.r].length:=by simp only[kQ,List.length_nil];omega
 obtain⟨ad,s,hAs,hks,hes⟩:=hrow.sd_elem (i:=j) hj3;obtain⟨sd,hsd⟩:∃sd,sd=[c.b,c.l,c.r][j]:=⟨_,rfl⟩;rw[<-hsd]at hes;have hsok:SdOk sd:=hsd▸hk.all _ (eQ _);have hse:=Oe hes;have hqk:=hq.k;refine Ga (Ka (v:=.pointer (some (ad.add (j*5)))) (Ta (i:=(j:Int)) sl_128 O hAs O sX sX) (Ka (v:=.agg (s.cells).toArray) (Va (l:=s.cells) bZ qZ O O hks) ?_));refine Kh hF oX qZ O ?_;intro b3 w hb3 hF hE;have hrow:=hrow.ext hE;have hes:=hes.ext hE;have hse:=Oe hes;refine Jc (Ca (Zb Cn O) (Rc (ZK cZ O hF.F 0 O O) (Ca (Fe O) ?_)));refine Bf (d:=19) O (λhg0=>?_) (λhg0=>?_);refine Ca (Zb Ce O) (Ka (v:=.agg (s.v.cells).toArray) (Va (l:=s.v.cells) zQ oZ O O (hF.part 0 1 O O)) ?_);refine Fb (Ay sd.val hsok.sz _ _ s.v.cells hse.2.2.2.2 hsok.ok (hG.ext hF.same)) (Ra BC O O) ?_;rintro _ w ⟨rfl,hE⟩;have hF:=hF.ext hE;have hrow:=hrow.ext hE;have hes:=hes.ext hE;have hse:=Oe hes;refine Ca (Jm O) (Ca (Fe O) ?_);refine Bf (d:=24) O (λhg1=>?_) (λhg1=>?_);refine Qa (Qa (Qa (Qa (Qa (Qa (Qa (Qa (Qa (Ca (Dd O O) (Ca (Dd O O) (Ea (Le O ?_))))))))))));refine Ha (Ca (Ic O) (Ea ?_));refine Pd (v:=.bool false) O O ⟨congrArg Value.bool ?_,hF.same⟩;symm;rw[G8,List.all_eq_false];refine⟨sd,hsd▸eQ _,?_⟩;unfold E4;simp_all;refine Ca (Zb Y6 O) (Rc (Wr aZ O hF.F 2 O O) (Ca (Gq O O) (Ca (Fe O) ?_)));refine Jd (d:=28) O (λhg2=>?_) (λhg2=>?_);refine Ca (Zb Ce O) (Ca (Zb Mg O) (Rc (Wr aZ O hF.F 0 O O) (Ca (Dz O O) (Ca (Dd O O) (Ca (Ae O O) (Ca (Dd O O) (Ea ?_)))))));refine Nc O O (λhc1=>?_) (λhc1=>?_);refine Ha (Ca (Ic O) (Ea ?_));refine Pd (v:=.bool false) O O ⟨congrArg Value.bool ?_,hF.same⟩;symm;rw[G8,List.all_eq_false];refine⟨sd,hsd▸eQ _,?_⟩;unfold E4;simp_all;refine Wa (Eb (Ia (Ga (Ca (Yl (((j+1:Nat):Int)) O O) (Ca (Qb O) (Gb ?_))))));have hgood:E4 sd c.cls=true:=by unfold E4;simp_all
 refine Dc ⟨_,?_,j+1,O,sX,(hrow),(by rw[iQ hj3,List.all_append,ha,<-hsd];simp[hgood]),Eu,hF.drop 1⟩;omega;refine Qa (Qa (Qa (Qa (Ca (Ae O O) (Ca (Ae O O) (Ca (Dd O O) (Ea (Bg O (Wa (Eb (Ia (Ga ?_))))))))))));refine Ca (Yl (((j+1:Nat):Int)) O O) (Ca (Qb O) (Gb ?_));have hgood:E4 sd c.cls=true:=by unfold E4;simp_all
 refine Dc ⟨_,?_,j+1,O,sX,(hrow),(by rw[iQ hj3,List.all_append,ha,<-hsd];simp[hgood]),Eu,hF.drop 1⟩;omega;refine Qa (Qa (Qa (Qa (Qa (Qa (Qa (Qa (Qa (Qa (Qa (Qa (Qa (Qa ?_)))))))))))));refine Qa (Ca (Ae O O) (Ea (Bg O (Wa (Eb (Ia (Ga (Ca (Yl (((j+1:Nat):Int)) O O) (Ca (Qb O) (Gb ?_))))))))));have hgood:E4 sd c.cls=true:=by unfold E4;simp_all
 refine Dc ⟨_,?_,j+1,O,sX,(hrow),(by rw[iQ hj3,List.all_append,ha,<-hsd];simp[hgood]),Eu,hF.drop 1⟩;omega;refine Pc (Oc O ?_);refine Ia (Ha (Ca (Ic O) (Ea ?_)));refine Pd (v:=.bool true) O O ⟨congrArg Value.bool ?_,hF.same⟩;obtain rfl:j=3:=by omega
 rw[G8];exact ha.symm
theorem LQ(x:Tv)(hl:x.t.length<=140737488355328)(w0:World)(hG:Gl w0):Calls prog 74 #[.agg (x.cells).toArray] w0 (Wd λv w'=>v=J (Yt x.k x.t)/\Same [] w0 w'):=by
 refine Fa func74 O ntmps74 Ib (Zc _) ?_;have hF:=FR.start w0 [];refine Ha (Df hF O ?_);rintro b1 w hb1 hF -;refine Ca (Uc O) (Ea (Ja (Ha (Ca (Zb Mg O) (Rc (Wr aZ O hF.F 0 O O) (Ca (Dz O O) (Ea ?_)))))));refine Nc O O (λhc0=>?_) (λhc0=>?_);refine Ha (Ca (Uc O) (Ea ?_));refine Pd (v:=J ((-1))) O O ?_;exact⟨congrArg (Value.int .i64) (by simp_all[Yt]),hF.same⟩;refine Wa (Ia (Ha (Ca (Zb Xh O) (Rc (Iy fZ O hF.F 0 O O) ?_))));refine Hb hF (EG x.t hl _) (Ra HW O O) ?_;intro w hF;refine Ca (Bo O) (Ca (Py O O) (Ca (Fv O O) ?_));refine Kh hF qX tZ O ?_;rintro b2 w hb2 hF -;refine Ca (Uc O) (Ea (Ja (Ha (Ca (Qb O) (Ca (Dz O O) (Ea ?_))))));refine Nc O O (λhc1=>?_) (λhc1=>?_);refine Ha (Ca (Uc O) (Ea ?_));refine Pd (v:=J ((-1))) O O ?_;exact⟨congrArg (Value.int .i64) (by simp_all[Yt]),hF.same⟩;refine Wa (Ia (Ha (Rc (Rf eZ tZ O hF.F 0 O O) ?_)));refine Hb hF (GK (Ef x.t).1 (by have:=Bs x.t;omega) _ (hG.ext hF.same)) (Ra en_99 O O) ?_;intro w hF;refine Ca (Bo O) (Ca (Fv O O) (Ca (Ar O O) (Ca (Uc O) (Ca (Ic O) (Jc (Ca (Qb O) (Ca (Uc O) (Ea ?_))))))));refine Pd (v:=J ((T_ (Ef x.t).1).1)) O O ?_;exact⟨congrArg (Value.int .i64) (by simp_all[Yt]),hF.same⟩
theorem SZ(v:Value)(k:Str):∀m:MapL,(F8 m k v).length=m.length+if Rg m k=none then 1 else 0:=λm=>by
  have h:=Ht m k;unfold F8;cases hf:m.findIdx? (λx=>decide (x.1=k))with
  | none=>rw[hf]at h;rw[<-h];simp
  | some i =>
    obtain⟨hi,-⟩:=CA hf;rw[hf]at h;rw[<-h];simp[hi]
structure CntM (m:MapL) (l:List Str):Prop where
  get:∀t,Rg m t=if t∈l then some (J (l.count t:Int)) else none
  len:m.length=l.eraseDups.length
theorem CntM.nil:CntM [] []:=⟨λt=>by simp[Rg],rfl⟩
theorem CntM.val{m:MapL}{l:List Str}(h:CntM m l)(t:Str):(Rg m t).getD (J 0)=J ((l.count t:Nat):Int):=by
  rw[h.get];by_cases ht:t∈l
  ·rw[if_pos ht];rfl
  rw[if_neg ht,List.count_eq_zero.2 ht];rfl
theorem CntM.add{m:MapL}{l:List Str}(h:CntM m l)(t:Str):CntM (F8 m t (J (((l.count t+1:Nat)):Int))) (l++[t]):=by
  refine⟨λk=>?_,?_⟩
  ·rw[FC]
   by_cases e:t=k
   ·subst e
    rw[if_pos rfl,if_pos Da];simp
   rw[if_neg e, h.get, List.count_append, List.count_singleton];have e':(t==k)=false:=by simpa using e
   rw[e'];simp[Ne.symm e]
  rw[SZ, h.len, h.get, List.eraseDups_append, dQ];by_cases ht:t∈l
  ·rw[if_pos ht]
   have:[t].removeAll l=[]:=by simp[List.removeAll,ht]
   rw[this];simp
  rw[if_neg ht];have:[t].removeAll l=[t]:=by simp[List.removeAll,ht]
  rw[this];rfl
theorem RG{xs:List Tree}{j:Nat}(hj:j<xs.length):Zg (xs.take (j+1))=Zg (xs.take j)++Vg xs[j]:=by
  rw[Wh,Wh,iQ hj,List.flatMap_append];simp
theorem I_(x:Tree):(Vg x).length<=Rb x:=Tree.ind (Q:=λx=>(Vg x).length<=Rb x) (λk t ks xs ih=>by
  have hs:∀ys:List Tree,(∀y∈ys,(Vg y).length<=Rb y)->(Zg ys).length<=Pb ys:=λys=>by
    induction ys with
    | nil=>intro _;simp[Zg]
    | cons y ys ihy =>
      intro h;have h1:=h y Da;have h2:=ihy λz hz=>h z (by simp[hz]);rw[Zg,Pb,dQ];omega
  have:=hs xs ih;rw[Vg,Rb,dQ];split <;> simp <;> omega) x
def YO(x:Tree):Prop:=∀(S:Nat->Prop)(w0:World)(mb:Nat)(m:MapL)(l:List Str)(cs:List Value),Rep S w0 (Wb x) cs->(∀b,S b->b<w0.heap.size/\b∉[mb])->w0.heap[mb]? = some (Zf m)->CntM m l->l.length+Rb x<=1000000000 ->
  Calls prog 71 #[.agg cs.toArray,.map (some mb)] w0 (Wd λv w'=>∃m',v=.tuple #[]/\w'.heap[mb]? = some (Zf m')/\CntM m' (l++Vg x)/\Same [mb] w0 w')
theorem AI(ys:List Tree):(Zg ys).length<=Pb ys:=by
  have:=I_ (.node 0 [] [] ys);rw[Vg,Rb,if_neg Oa,List.nil_append]at this;have h2:∀zs:List Tree,(Zg zs).length<=Pb zs:=λzs=>by
    induction zs with
    | nil=>simp[Zg]
    | cons z zs ih=>have:=I_ z;rw[Zg,Pb,dQ];omega
  exact h2 ys
theorem LF(xs:List Tree)(j:Nat)(hj:j<xs.length):Pb (xs.take j)+Rb xs[j]<=Pb xs:=by
  have h:xs=xs.take j++xs[j]::xs.drop (j+1):=by rw[<-List.drop_eq_getElem_cons hj,List.take_append_drop]
  have h2:=congrArg Pb h;rw[Be,Pb]at h2;omega
theorem PP(k:Int)(t:Str)(ks:List Str)(xs:List Tree)(ih:∀x,x∈xs->YO x):YO (.node k t ks xs):=by
 intro S w0 mb m l cs hR hS hmb hCm hsz;obtain⟨A,c,B,e,rfl,-,-,-,hX⟩:=hR.tree_inv;have hXl:=hX.slice_len;rw[Rb]at hsz;refine Fa func71 O ntmps71 Ib (Hd _ _) ?_;have hF:FR w0 [mb] [(mb,Zf (m))] w0:=FR.open_ (by simp[hmb]) Da;refine Ha (Df hF O ?_);rintro b1 w hb1 hF -;refine Ea (Ja ?_);refine Ok (λσ w=>∃(m1:MapL),∃(l1:List Str),(l1=l++(if k=7 then [t] else []))/\(CntM m1 l1)/\AllEq σ [(1,.map (some mb)),(2,V b1)]/\FR w0 [mb] [(b1,.cells #[J k,I t,.slice A ks.length c,.slice B xs.length e] 25),(mb,Zf (m1))] w) ?_ ?_;refine Ha (Ca (Zb Mg O) (Rc (Wr aZ O hF.F 0 O O) (Ca (Gq O O) (Ea ?_))));refine Nc O O (λhc0=>?_) (λhc0=>?_);refine Ga (Ca (Pt) (Ca (Zb Xh O) (Rc (Iy fZ O hF.F 0 O O) (Ka (v:=J (((l.count t:Nat):Int))) (Cu underlying96 kX nX O O (hF.heap (i:=1) O) (hCm.val _)) ?_))));have hlc:=List.count_le_length (a:=t) (l:=l);refine Ca (Yl (((l.count t+1:Nat):Int)) O O) (BV 1 (v:=J (((l.count t+1:Nat):Int))) hF underlying96 kX O O O O ?_);rintro w hF -;have hF:FR w0 [mb] [(b1,.cells #[J k,I t,.slice A ks.length c,.slice B xs.length e] 25),(mb,Zf (F8 (m) (t) (J (((l.count t+1:Nat):Int)))))] w:=hF;refine Gb ?_;exact Dc ⟨(F8 m t (J ((l.count t+1:Nat):Int))),(l++[t]),(by rw[if_pos hc0]),(hCm.add t),J7,hF⟩;refine Wa ?_;exact Dc ⟨(m),(l),(by rw[if_neg hc0,qQ]),(hCm),J7,hF⟩;rintro σ w ⟨m1,l1,hl1,hC1,hs,hF⟩;refine Eg.slots hs ?_;clear hs;intro σ;refine Ia (Ha (Ca (Zb Gc O) (Rc (Tf xQ O hF.F 0 O O) (Ca (Mf cX O) (Ca (Qb O) (Ea (Za ?_)))))));refine Ad (λμ σ w=>∃(j:Nat),∃(m2:MapL),μ=xs.length-j/\(j<=xs.length)/\(CntM m2 (l1++Zg (xs.take j)))/\AllEq σ [(1,.map (some mb)),(15,.slice B xs.length e),(16,J ((xs.length:Nat))),(17,J ((j:Int)))]/\FR w0 [mb] [(b1,.cells #[J k,I t,.slice A ks.length c,.slice B xs.length e] 25),(mb,Zf (m2))] w) _ ⟨0,m1,O,(Nat.zero_le _),(by simpa[Zg]using hC1),Eu,hF⟩ ?_
 rintro μ σ w ⟨j,m2,rfl,hj,hC2,hs,hF⟩;refine Cg.slots hs ?_;clear hs;intro σ;have hll:l1.length<=l.length+1:=by rw[hl1,dQ];split <;> simp
 refine Ha (Ca (An O O) (Ea (Ja ?_)));refine Nc O O (λhc1=>?_) (λhc1=>?_);refine Wa (Ia (Ja (Za (Ha ?_))));obtain⟨ad0,cs0,hA0,hl0,hk0,hx0⟩:=(hF.repE hS hX).tree_elem (i:=j) sX;have ho0:=hx0.one_;have hxj:=hx0;refine Ka (v:=.pointer (some (ad0.add (j*4)))) (Ta (i:=(j:Int)) Xd O hA0 O sX sX) (Ka (v:=.agg (List.toArray cs0)) (Va (l:=cs0) zQ oZ O hl0 hk0) ?_);refine Rv (l:=cs0) hF mX (by rw[hl0];exact oZ) (by rw[hl0];rfl) (v:=.agg (List.toArray cs0)) O O (ho0) O ?_;intro b2 w hb2 hF hE;have hxj:=hxj.ext hE;refine Ea (Ga (Ka (v:=.agg (List.toArray cs0)) (Va (l:=cs0) zQ oZ O hl0 (hF.cellsAll 0 O)) (Ca (Pt) ?_)));refine Fb (ih _ (eQ _) S _ mb m2 (l1++Zg (xs.take j)) cs0 hxj (λb hb=>⟨Nat.lt_of_lt_of_le (hS b hb).1 hF.same.size,(hS b hb).2⟩) (hF.heap (i:=2) O) hC2 (by have:=AI (xs.take j);have:=LF xs j sX;rw[dQ];omega)) (Ya en_71 O O O) ?_;rintro _ w ⟨m3,rfl,hm3,hC3,hE⟩;have hF:=hF.change 2 rfl hE hm3;have hF:FR w0 [mb] [(b2,.cells (List.toArray cs0) 25),(b1,.cells #[J k,I t,.slice A ks.length c,.slice B xs.length e] 25),(mb,Zf (m3))] w:=hF;clear hE hm3;refine Gb (Eb (Ia (Ga (Ca (Yl (((j+1:Nat):Int)) O O) (Ca (Qb O) (Gb ?_))))));refine Dc ⟨_,?_,j+1,m3,O,sX,(by rw[RG sX,<-sQ];exact hC3),Eu,hF.drop 1⟩;omega;refine Pc (Oc O ?_);refine Jf (Od (Jh O) ?_);obtain rfl:j=xs.length:=by omega
 refine⟨m2,O,hF.heap (i:=1) O,?_,hF.same⟩;rw[List.take_length]at hC2;rw[Vg,<-sQ,<-hl1];exact hC2
theorem holes_c(x:Tree):YO x:=Tree.ind PP x
theorem O8{v:Tree}{L:List Cf}{pick:List Int}{j:Nat}(h:(List.range j).all (λi=>decide ((Vg v).count (Oi i)=1)&&(ZA (L.getD i noC)&&(Xk (L.getD i noC) (pick.getD i 0)).2))=true)(h1:(Vg v).count (Oi j)=1)(hj:j<L.length)(hp:j<pick.length)(h2:ZA L[j]=true)(h3:(Xk L[j] pick[j]).2=true) :
    (List.range (j+1)).all (λi=>decide ((Vg v).count (Oi i)=1)&&(ZA (L.getD i noC)&&(Xk (L.getD i noC) (pick.getD i 0)).2))=true:=by
  have e1:L.getD j noC=L[j]:=by simp[List.getD,hj]
  have e2:pick.getD j 0=pick[j]:=by simp[List.getD,hp]
  rw[List.range_succ,List.all_append,h,List.all_cons,List.all_nil,e1,e2,h2,h3,decide_eq_true h1];rfl
theorem Tx{v:Tree}{L:List Cf}{pick:List Int}{j:Nat}(hj:j<L.length)(hp:j<pick.length)(h:¬((Vg v).count (Oi j)=1/\ZA L[j]=true/\(Xk L[j] pick[j]).2=true)):It v L pick=false:=by
  have e1:L.getD j noC=L[j]:=by simp[List.getD,hj]
  have e2:pick.getD j 0=pick[j]:=by simp[List.getD,hp]
  rw[Bool.eq_false_iff];intro hg;unfold It at hg;rw[Bool.and_eq_true,Bool.and_eq_true,List.all_eq_true]at hg;have:=hg.2.2 j (List.mem_range.2 hj);rw[e1,e2,Bool.and_eq_true,Bool.and_eq_true,decide_eq_true_eq]at this;exact h this
theorem ID{v:Tree}{L:List Cf}{pick:List Int}(h:¬(L.length=pick.length/\(Vg v).eraseDups.length=L.length)):It v L pick=false:=by
  rw[Bool.eq_false_iff];intro hg;unfold It at hg;rw[Bool.and_eq_true,Bool.and_eq_true,decide_eq_true_eq,decide_eq_true_eq]at hg;exact h ⟨hg.1,hg.2.1⟩
theorem GU{v:Tree}{L:List Cf}{pick:List Int}(h1:L.length=pick.length)(h2:(Vg v).eraseDups.length=L.length)(h:(List.range L.length).all (λi=>decide ((Vg v).count (Oi i)=1)&&(ZA (L.getD i noC)&&(Xk (L.getD i noC) (pick.getD i 0)).2))=true):It v L pick=true:=by
  unfold It;rw[decide_eq_true h1,decide_eq_true h2,h];rfl
theorem goodC_c(L:List Cf)(pick:List Int)(LA PA:Option Addr)(lc pc:Nat)(SL SP:Nat->Prop)(t:Tree)(x:Tv)(SX:Nat->Prop)(w0:World)(hL:Rep SL w0 (.slice (L.map XB)) [.slice LA L.length lc])(hP:Rep SP w0 (.slice (pick.map Ah)) [.slice PA pick.length pc])(hLk:∀c∈L,CfOk c)(hX1:Rep SX w0 (Wb t) x.cells)(hsz:Rb t<=1000000000)(hG:Gl w0):Calls prog 40 #[.agg #[.slice LA L.length lc,.slice PA pick.length pc],.agg (x.cells).toArray] w0 (Wd λv w'=>v=.bool (It t L pick)/\Same [] w0 w'):=by
 have hX:=hX1.low;have hLl:=hL.slice_len;have hPl:=hP.slice_len;simp only[rQ]at hLl hPl;refine Fa func40 O ntmps40 Ib (Hd _ _) ?_;have hF:=FR.start w0 [];refine Ha (Df hF O ?_);rintro b1 w hb1 hF -;refine Df hF O ?_;rintro b2 w hb2 hF -;refine Ca (Ic O) (Jc ?_);refine Ir (v:=λb=>.map (some b)) hF (Z8 underlying96) ?_;rintro b3 w hb3 hF -;refine Ca (C3) (Jc (Rc (Rf zQ oZ O hF.F 1 O O) (Ca (Pt) ?_)));refine Fb (holes_c t _ _ b3 [] [] x.cells (hF.rep hX) (λb hb=>⟨Nat.lt_of_lt_of_le hb hF.same.size,λhm=>by have h8:=hF.ge (i:=0) O;rw[pQ]at hm;omega⟩) (hF.heap (i:=0) O) CntM.nil (by simp only[List.length_nil];omega)) (Ya en_71 O O O) ?_;rintro _ w ⟨m1,rfl,hm1,hC1,hE⟩;rw[List.nil_append]at hC1;have hF:=hF.change 0 rfl hE hm1;have hF:FR w0 [] [(b3,Zf (m1)),(b2,.cells (x.cells).toArray 25),(b1,.cells #[.slice LA L.length lc,.slice PA pick.length pc] 72)] w:=hF;clear hE hm1;have hC1l:=hC1.len;refine Ea (Ja (Ha (Ca (Zb M2 O) (Rc (Tf isAgg30 O hF.F 2 O O) (Ca (Mf gX O) (Ca (Zb TF O) (Rc (Tf dZ O hF.F 2 O O) (Ca (Mf iX O) (Ca (Dz O O) (Ca (Fe O) ?_))))))))));refine Jd (d:=21) O (λhg0=>?_) (λhg0=>?_);refine Qa (Qa (Qa (Qa (Qa (Qa (Ca (Dd O O) (Ea (Le O (Ha (Ca (Ic O) (Gb ?_)))))))))));refine Ia (Pd (v:=.bool false) O O ?_);refine⟨congrArg Value.bool (ID ?_).symm,hF.same⟩;omega;refine Ca (Pt) (Ka (v:=J (((m1).length:Nat))) (Y4 underlying96 O (hF.heap (i:=0) O)) (Ca (Zb M2 O) (Rc (Tf isAgg30 O hF.F 2 O O) (Ca (Mf gX O) (Ca (Dz O O) (Ca (Ae O O) (Ea ?_)))))));refine Nc O O (λhc0=>?_) (λhc0=>?_);refine Ha (Ca (Ic O) (Ea ?_));refine Pd (v:=.bool false) O O ⟨congrArg Value.bool (ID ?_).symm,hF.same⟩;omega;refine Wa (Ia (Ja (Ha (Ca (Zb M2 O) (Rc (Tf isAgg30 O hF.F 2 O O) (Ca (Mf gX O) (Ca (Qb O) (Ea (Za ?_)))))))));have hlp:L.length=pick.length:=by omega
 have hll:(Vg t).eraseDups.length=L.length:=by omega
 refine Ad (λμ σ w=>∃(j:Nat),μ=L.length-j/\(j<=L.length)/\((List.range j).all (λi=>decide ((Vg t).count (Oi i)=1)&&(ZA (L.getD i noC)&&(Xk (L.getD i noC) (pick.getD i 0)).2))=true)/\AllEq σ [(2,V b1),(5,.map (some b3)),(30,.slice LA L.length lc),(31,J ((L.length:Nat))),(32,J ((j:Int)))]/\FR w0 [] [(b3,Zf (m1)),(b2,.cells (x.cells).toArray 25),(b1,.cells #[.slice LA L.length lc,.slice PA pick.length pc] 72)] w) _ ⟨0,O,(Nat.zero_le _),(O),Xv,hF⟩ ?_;rintro μ σ w ⟨j,rfl,hj,ha,hs,hF⟩;refine Cg.slots hs ?_;clear hs;intro σ;refine Ha (Ca (An O O) (Ea (Ja ?_)));refine Nc O O (λhc1=>?_) (λhc1=>?_);refine Wa (Ia (Ja (Za (Ja ?_))));have hjL:j<L.length:=by omega
 have hjP:j<pick.length:=by omega
 obtain⟨ad0,cq0,hAd0,hcq0,hcf⟩:=hL.cf_elem hjL;refine Ga (Ca (Qb O) (Ka (v:=.pointer (some (ad0.add (j*17)))) (Ta (i:=(j:Int)) M8 O hAd0 O sX sX) (Ka (v:=.agg #[.slice cq0.A cq0.n cq0.c,J (cq0.k),.bool (cq0.x.h),J (cq0.x.v.k),I (cq0.x.v.t),.slice cq0.x.v.A cq0.x.v.n cq0.x.v.c,.slice cq0.x.v.B cq0.x.v.m cq0.x.v.e,.bool (cq0.y.h),J (cq0.y.v.k),I (cq0.y.v.t),.slice cq0.y.v.A cq0.y.v.n cq0.y.v.c,.slice cq0.y.v.B cq0.y.v.m cq0.y.v.e,.bool (cq0.z.h),J (cq0.z.v.k),I (cq0.z.v.t),.slice cq0.z.v.A cq0.z.v.n cq0.z.v.c,.slice cq0.z.v.B cq0.z.v.m cq0.z.v.e]) (Va (l:=cq0.cells) isAgg41 sizeOf41 O O (hF.cells0 hcq0)) ?_)));refine Md (cs:=#[aQ,J 0,.bool false,J 0,I [],aQ,aQ,.bool false,J 0,I [],aQ,aQ,.bool false,J 0,I [],aQ,aQ]) hF zeroValue41 O ?_;rintro b4 w hb4 hF -;refine Ca (Uc O) (If hF sizeOf41 O O Ih ?_);rintro w hF -;refine Ea (Ja (Ha (Ca (Pt) (Ca (Qb O) ?_))));refine Hb hF (CR (j:Int) sX sX _ (hG.ext hF.same)) (Ra en_43 O O) ?_;intro w hF;refine Hb hF (JO (CE (j:Int)) (by have:=Bs (Lib.itoa (j:Int));exact fQ this Oa) _ (hG.ext hF.same)) (Ra ZW O O) ?_;intro w hF;refine Ka (v:=J ((((Vg t).count (Ro (CE (j:Int))):Nat):Int))) (Cu underlying96 kX nX O O (hF.heap (i:=1) O) (hC1.val _)) (Ca (Dz O O) (Ca (Fe O) ?_));refine Jd (d:=43) O (λhg1=>?_) (λhg1=>?_);refine Qa (Qa (Qa (Ca (Dd O O) (Ea (Le O (Ha (Ca (Ic O) (Ea ?_))))))));refine Pd (v:=.bool false) O O ⟨congrArg Value.bool ?_,hF.same⟩;exact (Tx hjL hjP (λ⟨a,b,c⟩=>by simp_all[Oi])).symm;refine Rc (Rf isAgg41 sizeOf41 O hF.F 0 O O) (Hb hF (fits_c L[j] cq0 _ _ (hcf.ext hF.same) (hLk _ (eQ _)) (hG.ext hF.same)) (Ra en_72 O O) ?_);intro w hF;refine Ca (Jm O) (Ca (Ae O O) (Ea ?_));refine Ng O O (λhc2=>?_) (λhc2=>?_);refine Ha (Ca (Ic O) (Ea ?_));refine Pd (v:=.bool false) O O ⟨congrArg Value.bool ?_,hF.same⟩;exact (Tx hjL hjP (λ⟨a,b,c⟩=>by simp_all[Oi])).symm
 refine Wa (Ia (Ja ?_));refine Ig (zs:=.of []) (bQ [0,1,2,3,4,5] (.alt 6 (bQ [7,8,9] (.act 10 (.act 11 (.free 12 .nil)))) (.act 10 (.act 6 (bQ [7,8,9] (.act 11 (.free 12 .nil))))))) hF ?_;intro w hF;refine Vi O (Rf isAgg41 sizeOf41 O C0 0 O O) (Cb O (Zb TF O) (Vi O (Tf dZ O C0 3 O O) (Cb O (Qb O) ?_)));obtain⟨ad2,hA2,hk2,hx2⟩:=hP.int_elem (i:=j) (hjP);refine Pa O (v:=.pointer (some (ad2.add (j*1)))) (λw hC=>Ta (i:=(j:Int)) Yg O hA2 O sX sX) (Pa O (v:=J (pick[j])) (λw hC=>Ob aZ O (hC.cell0 hk2)) ?_);refine Xe ?_ ?_;refine Jb O (Jv L[j] cq0 pick[j] _ _ (hcf.ext hF.same) (hLk _ (eQ _)) (hG.ext hF.same)) (Ya TP O O O) ?_;rintro _ w ⟨y,rfl,hRt,hE⟩;have hF:=hF.ext hE;clear hE hRt;refine⟨hF,?_⟩;refine Cb O (Bo O) (Cb O (Py O O) (Cb O (Ar O O) ?_));refine Me O (v:=λb=>V b) (o:=.cells #[.bool false,J 0,I [],aQ,aQ] 39) hF (De oX) ?_;rintro b5 w hb5 hF -;refine⟨hF.drop 1,?_⟩;refine Up O hF qZ O O Ih ?_;rintro w hF -;refine⟨hF.drop 1,?_⟩;refine Cb O (Ic O) (Fc (Ia (Ha (Ca (Fe O) (Ca (Jm O) (Ea ?_))))));refine Ng O O (λhc3=>?_) (λhc3=>?_);refine Ha (Ca (Ic O) (Ea ?_));refine Pd (v:=.bool false) O O ⟨congrArg Value.bool ?_,hF.same⟩;exact (Tx hjL hjP (λ⟨a,b,c⟩=>by simp_all[Oi])).symm;refine Wa (Eb (Ia (Ga (Ca (Yl (((j+1:Nat):Int)) O O) (Ca (Qb O) (Gb ?_))))));refine Dc ⟨_,?_,j+1,O,sX,(O8 ha (by simp_all[Oi];omega) hjL hjP (by simp_all) (by simp_all)),Xv,hF.drop 2⟩;omega;refine Me O (v:=λb=>V b) (o:=.cells #[.bool false,J 0,I [],aQ,aQ] 39) hF (De oX) ?_;rintro b6 w hb6 hF -;refine⟨hF.drop 1,?_⟩;refine Jb O (Jv L[j] cq0 pick[j] _ _ (hcf.ext hF.same) (hLk _ (eQ _)) (hG.ext hF.same)) (Ya TP O O O) ?_;rintro _ w ⟨y,rfl,hRt,hE⟩;have hF:=hF.ext hE;clear hE hRt;refine⟨hF.drop 1,?_⟩;refine Cb O (Bo O) (Cb O (Py O O) (Cb O (Ar O O) ?_));refine Up O hF qZ O O Ih ?_
 rintro w hF -;refine⟨hF.drop 1,?_⟩;refine Cb O (Ic O) (Fc (Ia (Ha (Ca (Fe O) (Ca (Jm O) (Ea ?_))))));refine Ng O O (λhc3=>?_) (λhc3=>?_);refine Ha (Ca (Ic O) (Ea ?_));refine Pd (v:=.bool false) O O ⟨congrArg Value.bool ?_,hF.same⟩;exact (Tx hjL hjP (λ⟨a,b,c⟩=>by simp_all[Oi])).symm;refine Wa (Eb (Ia (Ga (Ca (Yl (((j+1:Nat):Int)) O O) (Ca (Qb O) (Gb ?_))))));refine Dc ⟨_,?_,j+1,O,sX,(O8 ha (by simp_all[Oi];omega) hjL hjP (by simp_all) (by simp_all)),Xv,hF.drop 2⟩;omega;refine Pc (Oc O ?_);refine Ia (Ha (Ca (Ic O) (Ea ?_)));refine Pd (v:=.bool true) O O ?_;obtain rfl:j=L.length:=by omega
 exact⟨congrArg Value.bool (GU hlp hll ha).symm,hF.same⟩
end Go.Scarf
