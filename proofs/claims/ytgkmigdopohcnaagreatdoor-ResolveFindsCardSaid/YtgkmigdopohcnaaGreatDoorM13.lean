/- A part of the proof. -/
import Derived.Test.YtgkmigdopohcnaaGreatDoorSp
set_option linter.all false
set_option maxHeartbeats 8000000
set_option maxRecDepth 10000
namespace Go.Scarf
open Go.RowKit Go.Proofs Go.Proofs.Tryz
structure Cv where
  A:Option Addr
  n:Nat
  c:Nat
  k:Int
  x:Sv
  y:Sv
  z:Sv
abbrev Cv.cells(q:Cv):List Value:=[.slice q.A q.n q.c,J q.k]++th q.x q.y q.z
structure CvOf (S:Nat->Prop) (w:World) (c:Cf) (q:Cv):Prop where
  n:q.n=c.path.length
  k:q.k=c.cls
  p:Rep S w (Lh c.path) [.slice q.A q.n q.c]
  x:Rep S w (Od c.b) q.x.cells
  y:Rep S w (Od c.l) q.y.cells
  z:Rep S w (Od c.r) q.z.cells
theorem W8{S:Nat->Prop}{w:World}{c:Cf}{cs:List Value}(h:Rep S w (D5 c) cs):∃q:Cv,cs=q.cells/\CvOf S w c q:=by
  unfold D5 at h;rw[Rep]at h;obtain⟨c1,d1,rfl,h1,h⟩:=RepL.cons_inv h;obtain⟨c2,d2,rfl,h2,h⟩:=RepL.cons_inv h;obtain⟨c3,d3,rfl,h3,h⟩:=RepL.cons_inv h;obtain⟨c4,d4,rfl,h4,h⟩:=RepL.cons_inv h;obtain⟨c5,d5,rfl,h5,h⟩:=RepL.cons_inv h;obtain rfl:=RepL.nil_inv h;obtain⟨A,n,rfl⟩:∃A e,c1=[.slice A c.path.length e]:=by
    have h1':=h1;unfold Lh at h1';rw[Rep]at h1';obtain⟨A,c,rfl,-⟩:=h1';exact⟨A,c,by rw[rQ]⟩
  obtain rfl:c2=[J c.cls]:=by
    unfold Kh at h2;rw[Rep]at h2;exact h2.1
  obtain⟨x,rfl,-⟩:=Ct h3;obtain⟨y,rfl,-⟩:=Ct h4;obtain⟨z,rfl,-⟩:=Ct h5;exact⟨⟨A,c.path.length,n,c.cls,x,y,z⟩,by simp,⟨O,O,h1,h3,h4,h5⟩⟩
theorem CvOf.ext{S:Nat->Prop}{w w':World}{c:Cf}{q:Cv}(h:CvOf S w c q)(hs:Same [] w w'):CvOf S w' c q:=⟨h.n,h.k,h.p.ext hs,h.x.ext hs,h.y.ext hs,h.z.ext hs⟩
theorem Rep.cf_elem{S:Nat->Prop}{w:World}{l:List Cf}{A:Option Addr}{len c:Nat}(h:Rep S w (.slice (l.map D5)) [.slice A len c]){i:Nat}(hi:i<l.length) :
    ∃(ad:Addr)(q:Cv),A=some ad/\(∀j (hj:j<q.cells.length),w.cell? ((ad.add (i*17)).add j)=some q.cells[j])/\CvOf S w l[i] q:=by
  obtain⟨ad,cs,hA,hl,hc,hr⟩:=Rep.elem (sz:=17) h (λd hd=>by obtain⟨k,_,rfl⟩:=nQ.1 hd;exact HU k) (i:=i) (by simpa using hi);rw[List.getElem_map]at hr;obtain⟨q,rfl,hq⟩:=W8 hr;exact⟨ad,q,hA,hc,hq⟩
theorem Rep.sd_elem{S:Nat->Prop}{w:World}{l:List Sd}{A:Option Addr}{len c:Nat}(h:Rep S w (.slice (l.map Od)) [.slice A len c]){i:Nat}(hi:i<l.length) :
    ∃(ad:Addr)(q:Sv),A=some ad/\(∀j (hj:j<q.cells.length),w.cell? ((ad.add (i*5)).add j)=some q.cells[j])/\Rep S w (Od l[i]) q.cells:=by
  obtain⟨ad,cs,hA,hl,hc,hr⟩:=Rep.elem (sz:=5) h (λd hd=>by obtain⟨k,_,rfl⟩:=nQ.1 hd;exact Yu k) (i:=i) (by simpa using hi);rw[List.getElem_map]at hr;obtain⟨q,rfl,hq⟩:=Ct hr;exact⟨ad,q,hA,hc,hr⟩
structure CfOk (c:Cf):Prop where
  b:SdOk c.b
  l:SdOk c.l
  r:SdOk c.r
theorem CfOk.all{c:Cf}(h:CfOk c):∀s∈[c.b,c.l,c.r],SdOk s:=by
  intro s hs;simp only[oQ,List.not_mem_nil,or_false]at hs;rcases hs with rfl|rfl|rfl
  ·exact h.b
  ·exact h.l
  exact h.r
theorem M3(c:Cf):C5 c=[c.b,c.l,c.r].all λs=>Tx s c.cls:=by simp[C5]
def Sp(k:Int)(s:Str):Int:=if k≠7 then -1 else if (Oc s).2≠0 then -1 else (B4 (Oc s).1).1
theorem Ft(v:Tree):Zh v=Sp v.kind v.text:=rfl
theorem Mq(c:Cf)(q:Cv)(pk:Int)(S:Nat->Prop)(w0:World)(hq:CvOf S w0 c q)(hk:CfOk c)(hG:Gl w0):Calls prog 115 #[.agg q.cells.toArray,J pk] w0 (Pc λv w'=>∃y:Sv,v=.tuple #[.agg y.cells.toArray,.bool (Pi c pk).2]/\Rep (Btw w0 w') w' (Od (Pi c pk).1) y.cells/\Same [] w0 w'):=by
 refine Ea func115 O ntmps115 Db (Lc _ _) ?_;have hF:=FR.start w0 [];refine Da (Le hF O ?_);rintro b1 w hb1 hF -;refine Jc (cs:=#[.bool false,J 0,I [],aQ,aQ]) hF lX O ?_;rintro b2 w hb2 hF -;refine Aa (Jb O) (Ca (Fa (Da (Aa (Gb O) (Ca (Va (Da (Aa (Yh O O) (Aa (Jb O) ?_)))))))));refine Ca (Pb O O (λhc0=>?_) (λhc0=>?_));refine Da (Aa (Ob Fv O) (Ja (v:=.agg (q.x.cells).toArray) (Xa (l:=q.x.cells) bZ nZ O O (hF.part 1 2 O O)) ?_));refine Ya (H4 c.b q.x S _ (hF.rep hq.x) hk.b (hG.ext hF.same)) (Ma ZH O O) ?_;rintro _ w ⟨y,rfl,hRt,hE⟩;have hY:=RX.made (ids:=[b2,b1]) hF.same.size (λx hx=>hF.lt_ids (by simpa using hx)) hRt;have hF:=hF.ext hE;clear hE hRt;refine Xd hF nZ O O Qg ?_;intro w hF hE;have hY:=hY.store hE (by grind);refine Aa (Jb O) (Ca ?_);refine Ab (Za (Ka (Ic O (l:=y.cells) O bZ nZ O (hF.cellsAll 0 O) (v:=.bool true) O) ?_));have e:Pi c pk=(Th c.b,true):=by unfold Pi;rw[if_pos hc0]
 rw[e]
 ·exact⟨y,O,hY.done,hF.same⟩
 refine Da (Aa (Yh O O) (Aa (Jb O) (Ca ?_)));refine Pb O O (λhc1=>?_) (λhc1=>?_);refine Da (Aa (Ob Qw O) (Ja (v:=.agg (q.y.cells).toArray) (Xa (l:=q.y.cells) bZ nZ O O (hF.part 1 7 O O)) ?_));refine Ya (H4 c.l q.y S _ (hF.rep hq.y) hk.l (hG.ext hF.same)) (Ma ZH O O) ?_;rintro _ w ⟨y,rfl,hRt,hE⟩;have hY:=RX.made (ids:=[b2,b1]) hF.same.size (λx hx=>hF.lt_ids (by simpa using hx)) hRt;have hF:=hF.ext hE;clear hE hRt;refine Xd hF nZ O O Qg ?_;intro w hF hE;have hY:=hY.store hE (by grind);refine Aa (Jb O) (Ca ?_);refine Ab (Za (Ka (Ic O (l:=y.cells) O bZ nZ O (hF.cellsAll 0 O) (v:=.bool true) O) ?_));have e:Pi c pk=(Th c.l,true):=by unfold Pi;rw[if_neg hc0,if_pos hc1]
 rw[e]
 ·exact⟨y,O,hY.done,hF.same⟩
 refine Da (Aa (Yh O O) (Aa (Jb O) (Ca ?_)));refine Pb O O (λhc2=>?_) (λhc2=>?_);refine Da (Aa (Ob Kv O) (Ja (v:=.agg (q.z.cells).toArray) (Xa (l:=q.z.cells) bZ nZ O O (hF.part 1 12 O O)) ?_));refine Ya (H4 c.r q.z S _ (hF.rep hq.z) hk.r (hG.ext hF.same)) (Ma ZH O O) ?_;rintro _ w ⟨y,rfl,hRt,hE⟩;have hY:=RX.made (ids:=[b2,b1]) hF.same.size (λx hx=>hF.lt_ids (by simpa using hx)) hRt;have hF:=hF.ext hE;clear hE hRt;refine Xd hF nZ O O Qg ?_;intro w hF hE;have hY:=hY.store hE (by grind);refine Aa (Jb O) (Ca ?_);refine Ab (Za (Ka (Ic O (l:=y.cells) O bZ nZ O (hF.cellsAll 0 O) (v:=.bool true) O) ?_));have e:Pi c pk=(Th c.r,true):=by unfold Pi;rw[if_neg hc0,if_neg hc1,if_pos hc2]
 rw[e]
 ·exact⟨y,O,hY.done,hF.same⟩
 refine Na (Cb (Ga (Da ?_)));refine Ja (w':=w) (v:=.agg #[.bool false,J 0,I [],aQ,aQ]) Ib (Xd hF nZ O O Qg ?_);rintro w hF -;refine Aa (Jb O) (Ca ?_);refine Ab (Za (Ka (Ic O (l:=[.bool false,J 0,I [],aQ,aQ]) O bZ nZ O (hF.cellsAll 0 O) (v:=.bool false) O) ?_));have e:Pi c pk=(noS,false):=by unfold Pi;rw[if_neg hc0,if_neg hc1,if_neg hc2]
 rw[e];exact⟨⟨false,O5⟩,O,Tm,hF.same⟩
theorem fits_c(c:Cf)(q:Cv)(S:Nat->Prop)(w0:World)(hq:CvOf S w0 c q)(hk:CfOk c)(hG:Gl w0):Calls prog 114 #[.agg q.cells.toArray] w0 (Pc λv w'=>v=.bool (C5 c)/\Same [] w0 w'):=by
 refine Ea func114 O ntmps114 Db (Rb _) ?_;have hF:=FR.start w0 [];refine Da (Le hF O ?_);rintro b1 w hb1 hF -;refine Aa (Jb O) (Ca (Fa (Da (Aa (Ob Fv O) (Ja (v:=.agg (q.x.cells).toArray) (Xa (l:=q.x.cells) bZ nZ O O (hF.part 0 2 O O)) (Aa (Ob Qw O) (Ja (v:=.agg (q.y.cells).toArray) (Xa (l:=q.y.cells) bZ nZ O O (hF.part 0 7 O O)) (Aa (Ob Kv O) (Ja (v:=.agg (q.z.cells).toArray) (Xa (l:=q.z.cells) bZ nZ O O (hF.part 0 12 O O)) ?_)))))))));refine Ek 3 hF (Eb (cs:=((th q.x q.y q.z)).toArray) underlying92 nZ lX Ta Ta Ib) ?_;rintro b2 w hb2 hF -;have hrow:Rep (λx=>S x\/x=b2) _ (.slice ([c.b,c.l,c.r].map Od)) _:=hF.rowS 0 rfl (n:=3) (RepL.cons_mk (hF.rep hq.x) (RepL.cons_mk (hF.rep hq.y) (RepL.cons_mk (c2:=[]) (hF.rep hq.z) RepL.nil_mk))) rfl Ba;refine Aa (Ug underlying92 O) (Aa (Gb O) (Ca (Va ?_)));refine Tc (λμ σ w=>∃(j:Nat),μ=3-j/\(j<=3)/\(Rep (λx=>S x\/x=b2) w (.slice ([c.b,c.l,c.r].map Od)) [W b2 3 3])/\(([c.b,c.l,c.r].take j).all (λs=>Tx s c.cls)=true)/\AllEq σ [(1,V b1),(11,W b2 3 3),(12,J 3),(13,J ((j:Int)))]/\FR w0 [] [(b2,.cells ((th q.x q.y q.z)).toArray 27),(b1,.cells #[.slice q.A q.n q.c,J (q.k),.bool (q.x.h),J (q.x.v.k),I (q.x.v.t),.slice q.x.v.A q.x.v.n q.x.v.c,.slice q.x.v.B q.x.v.m q.x.v.e,.bool (q.y.h),J (q.y.v.k),I (q.y.v.t),.slice q.y.v.A q.y.v.n q.y.v.c,.slice q.y.v.B q.y.v.m q.y.v.e,.bool (q.z.h),J (q.z.v.k),I (q.z.v.t),.slice q.z.v.A q.z.v.n q.z.v.c,.slice q.z.v.B q.z.v.m q.z.v.e] 29)] w) _ ⟨0,O,Ba,(hrow),(O),Nr,hF⟩ ?_;rintro μ σ w ⟨j,rfl,hj,hrow,ha,hs,hF⟩;refine Cg.slots hs ?_;clear hs;intro σ;refine Da (Aa (Sl O O) (Ca (Fa ?_)));refine Pb O O (λhc0=>?_) (λhc0=>?_);refine Na (Ga (Fa (Va (Fa ?_))));have hj3:j<[c.b,c.l,c.r].length:=by simp only[kQ,List.length_nil];omega
 obtain⟨ad,s,hAs,hks,hes⟩:=hrow.sd_elem (i:=j) hj3;obtain⟨sd,hsd⟩:∃sd,sd=[c.b,c.l,c.r][j]:=⟨_,rfl⟩;rw[<-hsd]at hes;have hsok:SdOk sd:=hsd▸hk.all _ (eQ _);have hse:=Dd hes;have hqk:=hq.k;refine Ha (Ja (v:=.pointer (some (ad.add (j*5)))) (Sa (i:=(j:Int)) WZ O hAs O Ba Ba) (Ja (v:=.agg (s.cells).toArray) (Xa (l:=s.cells) bZ nZ O O hks) ?_));refine Ye hF lX nZ O ?_;intro b3 w hb3 hF hE;have hrow:=hrow.ext hE;have hes:=hes.ext hE;have hse:=Dd hes;refine Qb (Aa (Ob Ni O) (Tb (D6 eZ O hF.F 0 O O) (Aa (Dc O) ?_)));refine Rc (d:=19) O (λhg0=>?_) (λhg0=>?_);refine Aa (Ob Xe O) (Ja (v:=.agg (s.v.cells).toArray) (Xa (l:=s.v.cells) aZ mZ O O (hF.part 0 1 O O)) ?_);refine Ya (B0 sd.val hsok.sz _ _ s.v.cells hse.2.2.2.2 hsok.ok (hG.ext hF.same)) (Ma ZI O O) ?_;rintro _ w ⟨rfl,hE⟩;have hF:=hF.ext hE;have hrow:=hrow.ext hE;have hes:=hes.ext hE;have hse:=Dd hes;refine Aa (Oh O) (Aa (Dc O) ?_);refine Rc (d:=24) O (λhg1=>?_) (λhg1=>?_);refine Ia (Ia (Ia (Ia (Ia (Ia (Ia (Ia (Ia (Aa (Yb O O) (Aa (Yb O O) (Ca (Fd O ?_))))))))))));refine Da (Aa (Jb O) (Ca ?_));refine Hc (v:=.bool false) O O ⟨congrArg Value.bool ?_,hF.same⟩;symm;rw[M3,List.all_eq_false];refine⟨sd,hsd▸eQ _,?_⟩;unfold Tx;simp_all;refine Aa (Ob Tl O) (Tb (Yi dZ O hF.F 2 O O) (Aa (Yh O O) (Aa (Dc O) ?_)));refine Wb (d:=28) O (λhg2=>?_) (λhg2=>?_);refine Aa (Ob Xe O) (Aa (Ob Se O) (Tb (Yi dZ O hF.F 0 O O) (Aa (Om O O) (Aa (Yb O O) (Aa (Bc O O) (Aa (Yb O O) (Ca ?_)))))));refine Pb O O (λhc1=>?_) (λhc1=>?_);refine Da (Aa (Jb O) (Ca ?_));refine Hc (v:=.bool false) O O ⟨congrArg Value.bool ?_,hF.same⟩;symm;rw[M3,List.all_eq_false];refine⟨sd,hsd▸eQ _,?_⟩;unfold Tx;simp_all;refine Na (Cb (Ga (Ha (Aa (Bo (((j+1:Nat):Int)) O O) (Aa (Gb O) (Ua ?_))))));have hgood:Tx sd c.cls=true:=by unfold Tx;simp_all
 refine Xb ⟨_,?_,j+1,O,Ba,(hrow),(by rw[iQ hj3,List.all_append,ha,<-hsd];simp[hgood]),Nr,hF.drop 1⟩;omega;refine Ia (Ia (Ia (Ia (Aa (Bc O O) (Aa (Bc O O) (Aa (Yb O O) (Ca (We O (Na (Cb (Ga (Ha ?_))))))))))));refine Aa (Bo (((j+1:Nat):Int)) O O) (Aa (Gb O) (Ua ?_));have hgood:Tx sd c.cls=true:=by unfold Tx;simp_all
 refine Xb ⟨_,?_,j+1,O,Ba,(hrow),(by rw[iQ hj3,List.all_append,ha,<-hsd];simp[hgood]),Nr,hF.drop 1⟩;omega;refine Ia (Ia (Ia (Ia (Ia (Ia (Ia (Ia (Ia (Ia (Ia (Ia (Ia (Ia ?_)))))))))))));refine Ia (Aa (Bc O O) (Ca (We O (Na (Cb (Ga (Ha (Aa (Bo (((j+1:Nat):Int)) O O) (Aa (Gb O) (Ua ?_))))))))));have hgood:Tx sd c.cls=true:=by unfold Tx;simp_all
 refine Xb ⟨_,?_,j+1,O,Ba,(hrow),(by rw[iQ hj3,List.all_append,ha,<-hsd];simp[hgood]),Nr,hF.drop 1⟩;omega;refine Kc (Ec O ?_);refine Ga (Da (Aa (Jb O) (Ca ?_)));refine Hc (v:=.bool true) O O ⟨congrArg Value.bool ?_,hF.same⟩;obtain rfl:j=3:=by omega
 rw[M3];exact ha.symm
theorem GK(x:Tv)(hl:x.t.length<=140737488355328)(w0:World)(hG:Gl w0):Calls prog 116 #[.agg (x.cells).toArray] w0 (Pc λv w'=>v=J (Sp x.k x.t)/\Same [] w0 w'):=by
 refine Ea func116 O ntmps116 Db (Rb _) ?_;have hF:=FR.start w0 [];refine Da (Le hF O ?_);rintro b1 w hb1 hF -;refine Aa (Lb O) (Ca (Fa (Da (Aa (Ob Se O) (Tb (Yi dZ O hF.F 0 O O) (Aa (Om O O) (Ca ?_)))))));refine Pb O O (λhc0=>?_) (λhc0=>?_);refine Da (Aa (Lb O) (Ca ?_));refine Hc (v:=J ((-1))) O O ?_;exact⟨congrArg (Value.int .i64) (by simp_all[Sp]),hF.same⟩;refine Na (Ga (Da (Aa (Ob Re O) (Tb (Rm iZ O hF.F 0 O O) ?_))));refine Oa hF (Zv x.t hl _) (Ma IA O O) ?_;intro w hF;refine Aa (Ri O) (Aa (Dq O O) (Aa (Gj O O) ?_));refine Ye hF pX qZ O ?_;rintro b2 w hb2 hF -;refine Aa (Lb O) (Ca (Fa (Da (Aa (Gb O) (Aa (Om O O) (Ca ?_))))));refine Pb O O (λhc1=>?_) (λhc1=>?_);refine Da (Aa (Lb O) (Ca ?_));refine Hc (v:=J ((-1))) O O ?_;exact⟨congrArg (Value.int .i64) (by simp_all[Sp]),hF.same⟩;refine Na (Ga (Da (Tb (He gZ qZ O hF.F 0 O O) ?_)));refine Oa hF (XC (Oc x.t).1 (by have:=Wi x.t;omega) _ (hG.ext hF.same)) (Ma FV O O) ?_;intro w hF;refine Aa (Ri O) (Aa (Gj O O) (Aa (Jl O O) (Aa (Lb O) (Aa (Jb O) (Qb (Aa (Gb O) (Aa (Lb O) (Ca ?_))))))));refine Hc (v:=J ((B4 (Oc x.t).1).1)) O O ?_;exact⟨congrArg (Value.int .i64) (by simp_all[Sp]),hF.same⟩
theorem CV(v:Value)(k:Str):∀m:MapL,(H0 m k v).length=m.length+if Yf m k=none then 1 else 0:=λm=>by
  have h:=Pt m k;unfold H0;cases hf:m.findIdx? (λx=>decide (x.1=k))with
  | none=>rw[hf]at h;rw[<-h];simp
  | some i =>
    obtain⟨hi,-⟩:=D2 hf;rw[hf]at h;rw[<-h];simp[hi]
structure CntM (m:MapL) (l:List Str):Prop where
  get:∀t,Yf m t=if t∈l then some (J (l.count t:Int)) else none
  len:m.length=l.eraseDups.length
theorem CntM.nil:CntM [] []:=⟨λt=>by simp[Yf],rfl⟩
theorem CntM.val{m:MapL}{l:List Str}(h:CntM m l)(t:Str):(Yf m t).getD (J 0)=J ((l.count t:Nat):Int):=by
  rw[h.get];by_cases ht:t∈l
  ·rw[if_pos ht];rfl
  rw[if_neg ht,List.count_eq_zero.2 ht];rfl
theorem CntM.add{m:MapL}{l:List Str}(h:CntM m l)(t:Str):CntM (H0 m t (J (((l.count t+1:Nat)):Int))) (l++[t]):=by
  refine⟨λk=>?_,?_⟩
  ·rw[W6]
   by_cases e:t=k
   ·subst e
    rw[if_pos rfl,if_pos La];simp
   rw[if_neg e, h.get, List.count_append, List.count_singleton];have e':(t==k)=false:=by simpa using e
   rw[e'];simp[Ne.symm e]
  rw[CV, h.len, h.get, List.eraseDups_append, dQ];by_cases ht:t∈l
  ·rw[if_pos ht]
   have:[t].removeAll l=[]:=by simp[List.removeAll,ht]
   rw[this];simp
  rw[if_neg ht];have:[t].removeAll l=[t]:=by simp[List.removeAll,ht]
  rw[this];rfl
theorem O8{xs:List Tree}{j:Nat}(hj:j<xs.length):Gh (xs.take (j+1))=Gh (xs.take j)++Pf xs[j]:=by
  rw[Jm,Jm,iQ hj,List.flatMap_append];simp
theorem I3(x:Tree):(Pf x).length<=Mb x:=Tree.ind (Q:=λx=>(Pf x).length<=Mb x) (λk t ks xs ih=>by
  have hs:∀ys:List Tree,(∀y∈ys,(Pf y).length<=Mb y)->(Gh ys).length<=Vb ys:=λys=>by
    induction ys with
    | nil=>intro _;simp[Gh]
    | cons y ys ihy =>
      intro h;have h1:=h y La;have h2:=ihy λz hz=>h z (by simp[hz]);rw[Gh,Vb,dQ];omega
  have:=hs xs ih;rw[Pf,Mb,dQ];split <;> simp <;> omega) x
def YG(x:Tree):Prop:=∀(S:Nat->Prop)(w0:World)(mb:Nat)(m:MapL)(l:List Str)(cs:List Value),Rep S w0 (Hb x) cs->(∀b,S b->b<w0.heap.size/\b∉[mb])->w0.heap[mb]? = some (Xg m)->CntM m l->l.length+Mb x<=1000000000 ->
  Calls prog 113 #[.agg cs.toArray,.map (some mb)] w0 (Pc λv w'=>∃m',v=.tuple #[]/\w'.heap[mb]? = some (Xg m')/\CntM m' (l++Pf x)/\Same [mb] w0 w')
theorem TD(ys:List Tree):(Gh ys).length<=Vb ys:=by
  have:=I3 (.node 0 [] [] ys);rw[Pf,Mb,if_neg Ta,List.nil_append]at this;have h2:∀zs:List Tree,(Gh zs).length<=Vb zs:=λzs=>by
    induction zs with
    | nil=>simp[Gh]
    | cons z zs ih=>have:=I3 z;rw[Gh,Vb,dQ];omega
  exact h2 ys
theorem N9(xs:List Tree)(j:Nat)(hj:j<xs.length):Vb (xs.take j)+Mb xs[j]<=Vb xs:=by
  have h:xs=xs.take j++xs[j]::xs.drop (j+1):=by rw[<-List.drop_eq_getElem_cons hj,List.take_append_drop]
  have h2:=congrArg Vb h;rw[Ij,Vb]at h2;omega
theorem MG(k:Int)(t:Str)(ks:List Str)(xs:List Tree)(ih:∀x,x∈xs->YG x):YG (.node k t ks xs):=by
 intro S w0 mb m l cs hR hS hmb hCm hsz;obtain⟨A,c,B,e,rfl,-,-,-,hX⟩:=hR.tree_inv;have hXl:=hX.slice_len;rw[Mb]at hsz;refine Ea func113 O ntmps113 Db (Lc _ _) ?_;have hF:FR w0 [mb] [(mb,Xg (m))] w0:=FR.open_ (by simp[hmb]) La;refine Da (Le hF O ?_);rintro b1 w hb1 hF -;refine Ca (Fa ?_);refine Dn (λσ w=>∃(m1:MapL),∃(l1:List Str),(l1=l++(if k=7 then [t] else []))/\(CntM m1 l1)/\AllEq σ [(1,.map (some mb)),(2,V b1)]/\FR w0 [mb] [(b1,.cells #[J k,I t,.slice A ks.length c,.slice B xs.length e] 25),(mb,Xg (m1))] w) ?_ ?_;refine Da (Aa (Ob Se O) (Tb (Yi dZ O hF.F 0 O O) (Aa (Yh O O) (Ca ?_))));refine Pb O O (λhc0=>?_) (λhc0=>?_);refine Ha (Aa (Pr) (Aa (Ob Re O) (Tb (Rm iZ O hF.F 0 O O) (Ja (v:=J (((l.count t:Nat):Int))) (Ot underlying167 iX mX O O (hF.heap (i:=1) O) (hCm.val _)) ?_))));have hlc:=List.count_le_length (a:=t) (l:=l);refine Aa (Bo (((l.count t+1:Nat):Int)) O O) (TM 1 (v:=J (((l.count t+1:Nat):Int))) hF underlying167 iX O O O O ?_);rintro w hF -;have hF:FR w0 [mb] [(b1,.cells #[J k,I t,.slice A ks.length c,.slice B xs.length e] 25),(mb,Xg (H0 (m) (t) (J (((l.count t+1:Nat):Int)))))] w:=hF;refine Ua ?_;exact Xb ⟨(H0 m t (J ((l.count t+1:Nat):Int))),(l++[t]),(by rw[if_pos hc0]),(hCm.add t),UB,hF⟩;refine Na ?_;exact Xb ⟨(m),(l),(by rw[if_neg hc0,qQ]),(hCm),UB,hF⟩;rintro σ w ⟨m1,l1,hl1,hC1,hs,hF⟩;refine Eg.slots hs ?_;clear hs;intro σ;refine Ga (Da (Aa (Ob Ub O) (Tb (Ff zQ O hF.F 0 O O) (Aa (Ug yZ O) (Aa (Gb O) (Ca (Va ?_)))))));refine Tc (λμ σ w=>∃(j:Nat),∃(m2:MapL),μ=xs.length-j/\(j<=xs.length)/\(CntM m2 (l1++Gh (xs.take j)))/\AllEq σ [(1,.map (some mb)),(15,.slice B xs.length e),(16,J ((xs.length:Nat))),(17,J ((j:Int)))]/\FR w0 [mb] [(b1,.cells #[J k,I t,.slice A ks.length c,.slice B xs.length e] 25),(mb,Xg (m2))] w) _ ⟨0,m1,O,(Nat.zero_le _),(by simpa[Gh]using hC1),Nr,hF⟩ ?_
 rintro μ σ w ⟨j,m2,rfl,hj,hC2,hs,hF⟩;refine Cg.slots hs ?_;clear hs;intro σ;have hll:l1.length<=l.length+1:=by rw[hl1,dQ];split <;> simp
 refine Da (Aa (Sl O O) (Ca (Fa ?_)));refine Pb O O (λhc1=>?_) (λhc1=>?_);refine Na (Ga (Fa (Va (Da ?_))));obtain⟨ad0,cs0,hA0,hl0,hk0,hx0⟩:=(hF.repE hS hX).tree_elem (i:=j) Ba;have ho0:=hx0.one_;have hxj:=hx0;refine Ja (v:=.pointer (some (ad0.add (j*4)))) (Sa (i:=(j:Int)) Mg O hA0 O Ba Ba) (Ja (v:=.agg (List.toArray cs0)) (Xa (l:=cs0) aZ mZ O hl0 hk0) ?_);refine My (l:=cs0) hF kX (by rw[hl0];exact mZ) (by rw[hl0];rfl) (v:=.agg (List.toArray cs0)) O O (ho0) O ?_;intro b2 w hb2 hF hE;have hxj:=hxj.ext hE;refine Ca (Ha (Ja (v:=.agg (List.toArray cs0)) (Xa (l:=cs0) aZ mZ O hl0 (hF.cellsAll 0 O)) (Aa (Pr) ?_)));refine Ya (ih _ (eQ _) S _ mb m2 (l1++Gh (xs.take j)) cs0 hxj (λb hb=>⟨Nat.lt_of_lt_of_le (hS b hb).1 hF.same.size,(hS b hb).2⟩) (hF.heap (i:=2) O) hC2 (by have:=TD (xs.take j);have:=N9 xs j Ba;rw[dQ];omega)) (Ra WU O O O) ?_;rintro _ w ⟨m3,rfl,hm3,hC3,hE⟩;have hF:=hF.change 2 rfl hE hm3;have hF:FR w0 [mb] [(b2,.cells (List.toArray cs0) 25),(b1,.cells #[J k,I t,.slice A ks.length c,.slice B xs.length e] 25),(mb,Xg (m3))] w:=hF;clear hE hm3;refine Ua (Cb (Ga (Ha (Aa (Bo (((j+1:Nat):Int)) O O) (Aa (Gb O) (Ua ?_))))));refine Xb ⟨_,?_,j+1,m3,O,Ba,(by rw[O8 Ba,<-sQ];exact hC3),Nr,hF.drop 1⟩;omega;refine Kc (Ec O ?_);refine Fg (Ce (Xi O) ?_);obtain rfl:j=xs.length:=by omega
 refine⟨m2,O,hF.heap (i:=1) O,?_,hF.same⟩;rw[List.take_length]at hC2;rw[Pf,<-sQ,<-hl1];exact hC2
theorem YX(x:Tree):YG x:=Tree.ind MG x
theorem O1{v:Tree}{L:List Cf}{pick:List Int}{j:Nat}(h:(List.range j).all (λi=>decide ((Pf v).count (En i)=1)&&(C5 (L.getD i noC)&&(Pi (L.getD i noC) (pick.getD i 0)).2))=true)(h1:(Pf v).count (En j)=1)(hj:j<L.length)(hp:j<pick.length)(h2:C5 L[j]=true)(h3:(Pi L[j] pick[j]).2=true) :
    (List.range (j+1)).all (λi=>decide ((Pf v).count (En i)=1)&&(C5 (L.getD i noC)&&(Pi (L.getD i noC) (pick.getD i 0)).2))=true:=by
  have e1:L.getD j noC=L[j]:=by simp[List.getD,hj]
  have e2:pick.getD j 0=pick[j]:=by simp[List.getD,hp]
  rw[List.range_succ,List.all_append,h,List.all_cons,List.all_nil,e1,e2,h2,h3,decide_eq_true h1];rfl
theorem Zs{v:Tree}{L:List Cf}{pick:List Int}{j:Nat}(hj:j<L.length)(hp:j<pick.length)(h:¬((Pf v).count (En j)=1/\C5 L[j]=true/\(Pi L[j] pick[j]).2=true)):Vp v L pick=false:=by
  have e1:L.getD j noC=L[j]:=by simp[List.getD,hj]
  have e2:pick.getD j 0=pick[j]:=by simp[List.getD,hp]
  rw[Bool.eq_false_iff];intro hg;unfold Vp at hg;rw[Bool.and_eq_true,Bool.and_eq_true,List.all_eq_true]at hg;have:=hg.2.2 j (List.mem_range.2 hj);rw[e1,e2,Bool.and_eq_true,Bool.and_eq_true,decide_eq_true_eq]at this;exact h this
theorem K7{v:Tree}{L:List Cf}{pick:List Int}(h:¬(L.length=pick.length/\(Pf v).eraseDups.length=L.length)):Vp v L pick=false:=by
  rw[Bool.eq_false_iff];intro hg;unfold Vp at hg;rw[Bool.and_eq_true,Bool.and_eq_true,decide_eq_true_eq,decide_eq_true_eq]at hg;exact h ⟨hg.1,hg.2.1⟩
theorem PO{v:Tree}{L:List Cf}{pick:List Int}(h1:L.length=pick.length)(h2:(Pf v).eraseDups.length=L.length)(h:(List.range L.length).all (λi=>decide ((Pf v).count (En i)=1)&&(C5 (L.getD i noC)&&(Pi (L.getD i noC) (pick.getD i 0)).2))=true):Vp v L pick=true:=by
  unfold Vp;rw[decide_eq_true h1,decide_eq_true h2,h];rfl
theorem FY(L:List Cf)(pick:List Int)(LA PA:Option Addr)(lc pc:Nat)(SL SP:Nat->Prop)(t:Tree)(x:Tv)(SX:Nat->Prop)(w0:World)(hL:Rep SL w0 (.slice (L.map D5)) [.slice LA L.length lc])(hP:Rep SP w0 (.slice (pick.map Kh)) [.slice PA pick.length pc])(hLk:∀c∈L,CfOk c)(hX1:Rep SX w0 (Hb t) x.cells)(hsz:Mb t<=1000000000)(hG:Gl w0):Calls prog 72 #[.agg #[.slice LA L.length lc,.slice PA pick.length pc],.agg (x.cells).toArray] w0 (Pc λv w'=>v=.bool (Vp t L pick)/\Same [] w0 w'):=by
 have hX:=hX1.low;have hLl:=hL.slice_len;have hPl:=hP.slice_len;simp only[rQ]at hLl hPl;refine Ea func72 O ntmps72 Db (Lc _ _) ?_;have hF:=FR.start w0 [];refine Da (Le hF O ?_);rintro b1 w hb1 hF -;refine Le hF O ?_;rintro b2 w hb2 hF -;refine Aa (Jb O) (Qb ?_);refine Ax (v:=λb=>.map (some b)) hF (VF underlying167) ?_;rintro b3 w hb3 hF -;refine Aa (Px) (Qb (Tb (He aZ mZ O hF.F 1 O O) (Aa (Pr) ?_)));refine Ya (YX t _ _ b3 [] [] x.cells (hF.rep hX) (λb hb=>⟨Nat.lt_of_lt_of_le hb hF.same.size,λhm=>by have h8:=hF.ge (i:=0) O;rw[pQ]at hm;omega⟩) (hF.heap (i:=0) O) CntM.nil (by simp only[List.length_nil];omega)) (Ra WU O O O) ?_;rintro _ w ⟨m1,rfl,hm1,hC1,hE⟩;rw[List.nil_append]at hC1;have hF:=hF.change 0 rfl hE hm1;have hF:FR w0 [] [(b3,Xg (m1)),(b2,.cells (x.cells).toArray 25),(b1,.cells #[.slice LA L.length lc,.slice PA pick.length pc] 111)] w:=hF;clear hE hm1;have hC1l:=hC1.len;refine Ca (Fa (Da (Aa (Ob Ws O) (Tb (Ff isAgg58 O hF.F 2 O O) (Aa (Ug gX O) (Aa (Ob J3 O) (Tb (Ff isAgg54 O hF.F 2 O O) (Aa (Ug fX O) (Aa (Om O O) (Aa (Dc O) ?_))))))))));refine Wb (d:=21) O (λhg0=>?_) (λhg0=>?_);refine Ia (Ia (Ia (Ia (Ia (Ia (Aa (Yb O O) (Ca (Fd O (Da (Aa (Jb O) (Ua ?_)))))))))));refine Ga (Hc (v:=.bool false) O O ?_);refine⟨congrArg Value.bool (K7 ?_).symm,hF.same⟩;omega;refine Aa (Pr) (Ja (v:=J (((m1).length:Nat))) (LL underlying167 O (hF.heap (i:=0) O)) (Aa (Ob Ws O) (Tb (Ff isAgg58 O hF.F 2 O O) (Aa (Ug gX O) (Aa (Om O O) (Aa (Bc O O) (Ca ?_)))))));refine Pb O O (λhc0=>?_) (λhc0=>?_);refine Da (Aa (Jb O) (Ca ?_));refine Hc (v:=.bool false) O O ⟨congrArg Value.bool (K7 ?_).symm,hF.same⟩;omega;refine Na (Ga (Fa (Da (Aa (Ob Ws O) (Tb (Ff isAgg58 O hF.F 2 O O) (Aa (Ug gX O) (Aa (Gb O) (Ca (Va ?_)))))))));have hlp:L.length=pick.length:=by omega
 have hll:(Pf t).eraseDups.length=L.length:=by omega
 refine Tc (λμ σ w=>∃(j:Nat),μ=L.length-j/\(j<=L.length)/\((List.range j).all (λi=>decide ((Pf t).count (En i)=1)&&(C5 (L.getD i noC)&&(Pi (L.getD i noC) (pick.getD i 0)).2))=true)/\AllEq σ [(2,V b1),(5,.map (some b3)),(30,.slice LA L.length lc),(31,J ((L.length:Nat))),(32,J ((j:Int)))]/\FR w0 [] [(b3,Xg (m1)),(b2,.cells (x.cells).toArray 25),(b1,.cells #[.slice LA L.length lc,.slice PA pick.length pc] 111)] w) _ ⟨0,O,(Nat.zero_le _),(O),T8,hF⟩ ?_;rintro μ σ w ⟨j,rfl,hj,ha,hs,hF⟩;refine Cg.slots hs ?_;clear hs;intro σ;refine Da (Aa (Sl O O) (Ca (Fa ?_)));refine Pb O O (λhc1=>?_) (λhc1=>?_);refine Na (Ga (Fa (Va (Fa ?_))));have hjL:j<L.length:=by omega
 have hjP:j<pick.length:=by omega
 obtain⟨ad0,cq0,hAd0,hcq0,hcf⟩:=hL.cf_elem hjL;refine Ha (Aa (Gb O) (Ja (v:=.pointer (some (ad0.add (j*17)))) (Sa (i:=(j:Int)) Gx O hAd0 O Ba Ba) (Ja (v:=.agg #[.slice cq0.A cq0.n cq0.c,J (cq0.k),.bool (cq0.x.h),J (cq0.x.v.k),I (cq0.x.v.t),.slice cq0.x.v.A cq0.x.v.n cq0.x.v.c,.slice cq0.x.v.B cq0.x.v.m cq0.x.v.e,.bool (cq0.y.h),J (cq0.y.v.k),I (cq0.y.v.t),.slice cq0.y.v.A cq0.y.v.n cq0.y.v.c,.slice cq0.y.v.B cq0.y.v.m cq0.y.v.e,.bool (cq0.z.h),J (cq0.z.v.k),I (cq0.z.v.t),.slice cq0.z.v.A cq0.z.v.n cq0.z.v.c,.slice cq0.z.v.B cq0.z.v.m cq0.z.v.e]) (Xa (l:=cq0.cells) cZ oZ O O (hF.cells0 hcq0)) ?_)));refine Jc (cs:=#[aQ,J 0,.bool false,J 0,I [],aQ,aQ,.bool false,J 0,I [],aQ,aQ,.bool false,J 0,I [],aQ,aQ]) hF zeroValue29 O ?_;rintro b4 w hb4 hF -;refine Aa (Lb O) (Xd hF oZ O O Qg ?_);rintro w hF -;refine Ca (Fa (Da (Aa (Pr) (Aa (Gb O) ?_))));refine Oa hF (KI (j:Int) Ba Ba _ (hG.ext hF.same)) (Ma NZ O O) ?_;intro w hF;refine Oa hF (Y8 (M4 (j:Int)) (by have:=Wi (Lib.itoa (j:Int));exact fQ this Ta) _ (hG.ext hF.same)) (Ma OK O O) ?_;intro w hF;refine Ja (v:=J ((((Pf t).count (Qh (M4 (j:Int))):Nat):Int))) (Ot underlying167 iX mX O O (hF.heap (i:=1) O) (hC1.val _)) (Aa (Om O O) (Aa (Dc O) ?_));refine Wb (d:=43) O (λhg1=>?_) (λhg1=>?_);refine Ia (Ia (Ia (Aa (Yb O O) (Ca (Fd O (Da (Aa (Jb O) (Ca ?_))))))));refine Hc (v:=.bool false) O O ⟨congrArg Value.bool ?_,hF.same⟩;exact (Zs hjL hjP (λ⟨a,b,c⟩=>by simp_all[En])).symm;refine Tb (He cZ oZ O hF.F 0 O O) (Oa hF (fits_c L[j] cq0 _ _ (hcf.ext hF.same) (hLk _ (eQ _)) (hG.ext hF.same)) (Ma en_114 O O) ?_);intro w hF;refine Aa (Oh O) (Aa (Bc O O) (Ca ?_));refine Fe O O (λhc2=>?_) (λhc2=>?_);refine Da (Aa (Jb O) (Ca ?_));refine Hc (v:=.bool false) O O ⟨congrArg Value.bool ?_,hF.same⟩;exact (Zs hjL hjP (λ⟨a,b,c⟩=>by simp_all[En])).symm
 refine Na (Ga (Fa ?_));refine Zc (zs:=.of []) (bQ [0,1,2,3,4,5] (.alt 6 (bQ [7,8,9] (.act 10 (.act 11 (.free 12 .nil)))) (.act 10 (.act 6 (bQ [7,8,9] (.act 11 (.free 12 .nil))))))) hF ?_;intro w hF;refine Sf O (He cZ oZ O C0 0 O O) (Fb O (Ob J3 O) (Sf O (Ff isAgg54 O C0 3 O O) (Fb O (Gb O) ?_)));obtain⟨ad2,hA2,hk2,hx2⟩:=hP.int_elem (i:=j) (hjP);refine Bb O (v:=.pointer (some (ad2.add (j*1)))) (λw hC=>Sa (i:=(j:Int)) R7 O hA2 O Ba Ba) (Bb O (v:=J (pick[j])) (λw hC=>Ad dZ O (hC.cell0 hk2)) ?_);refine Yv ?_ ?_;refine Uc O (Mq L[j] cq0 pick[j] _ _ (hcf.ext hF.same) (hLk _ (eQ _)) (hG.ext hF.same)) (Ra Z8 O O O) ?_;rintro _ w ⟨y,rfl,hRt,hE⟩;have hF:=hF.ext hE;clear hE hRt;refine⟨hF,?_⟩;refine Fb O (Ri O) (Fb O (Dq O O) (Fb O (Jl O O) ?_));refine Fr O (v:=λb=>V b) (o:=.cells #[.bool false,J 0,I [],aQ,aQ] 27) hF (Nh lX) ?_;rintro b5 w hb5 hF -;refine⟨hF.drop 1,?_⟩;refine Wm O hF nZ O O Qg ?_;rintro w hF -;refine⟨hF.drop 1,?_⟩;refine Fb O (Jb O) (Ac (Ga (Da (Aa (Dc O) (Aa (Oh O) (Ca ?_))))));refine Fe O O (λhc3=>?_) (λhc3=>?_);refine Da (Aa (Jb O) (Ca ?_));refine Hc (v:=.bool false) O O ⟨congrArg Value.bool ?_,hF.same⟩;exact (Zs hjL hjP (λ⟨a,b,c⟩=>by simp_all[En])).symm;refine Na (Cb (Ga (Ha (Aa (Bo (((j+1:Nat):Int)) O O) (Aa (Gb O) (Ua ?_))))));refine Xb ⟨_,?_,j+1,O,Ba,(O1 ha (by simp_all[En];omega) hjL hjP (by simp_all) (by simp_all)),T8,hF.drop 2⟩;omega;refine Fr O (v:=λb=>V b) (o:=.cells #[.bool false,J 0,I [],aQ,aQ] 27) hF (Nh lX) ?_;rintro b6 w hb6 hF -;refine⟨hF.drop 1,?_⟩;refine Uc O (Mq L[j] cq0 pick[j] _ _ (hcf.ext hF.same) (hLk _ (eQ _)) (hG.ext hF.same)) (Ra Z8 O O O) ?_;rintro _ w ⟨y,rfl,hRt,hE⟩;have hF:=hF.ext hE;clear hE hRt;refine⟨hF.drop 1,?_⟩;refine Fb O (Ri O) (Fb O (Dq O O) (Fb O (Jl O O) ?_));refine Wm O hF nZ O O Qg ?_
 rintro w hF -;refine⟨hF.drop 1,?_⟩;refine Fb O (Jb O) (Ac (Ga (Da (Aa (Dc O) (Aa (Oh O) (Ca ?_))))));refine Fe O O (λhc3=>?_) (λhc3=>?_);refine Da (Aa (Jb O) (Ca ?_));refine Hc (v:=.bool false) O O ⟨congrArg Value.bool ?_,hF.same⟩;exact (Zs hjL hjP (λ⟨a,b,c⟩=>by simp_all[En])).symm;refine Na (Cb (Ga (Ha (Aa (Bo (((j+1:Nat):Int)) O O) (Aa (Gb O) (Ua ?_))))));refine Xb ⟨_,?_,j+1,O,Ba,(O1 ha (by simp_all[En];omega) hjL hjP (by simp_all) (by simp_all)),T8,hF.drop 2⟩;omega;refine Kc (Ec O ?_);refine Ga (Da (Aa (Jb O) (Ca ?_)));refine Hc (v:=.bool true) O O ?_;obtain rfl:j=L.length:=by omega
 exact⟨congrArg Value.bool (PO hlp hll ha).symm,hF.same⟩
end Go.Scarf
