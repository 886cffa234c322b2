/- A part of the proof. -/
import Derived.Test.YtgkmigdopohcnaaGreatDoorE9
set_option linter.all false
set_option maxHeartbeats 8000000
set_option maxRecDepth 10000
namespace Go.Scarf
open Go.RowKit Go.Proofs Go.Proofs.Tryz
structure Cv where
  A:Option Addr
  n:Nat
  c:Nat
  k:Int
  x:Sv
  y:Sv
  z:Sv
abbrev Cv.cells(q:Cv):List Value:=[.slice q.A q.n q.c,J q.k]++th q.x q.y q.z
structure CvOf (S:Nat->Prop) (w:World) (c:Cf) (q:Cv):Prop where
  n:q.n=c.path.length
  k:q.k=c.cls
  p:Rep S w (Ni c.path) [.slice q.A q.n q.c]
  x:Rep S w (Ve c.b) q.x.cells
  y:Rep S w (Ve c.l) q.y.cells
  z:Rep S w (Ve c.r) q.z.cells
theorem TA{S:Nat->Prop}{w:World}{c:Cf}{cs:List Value}(h:Rep S w (L8 c) cs):∃q:Cv,cs=q.cells/\CvOf S w c q:=by
  unfold L8 at h;rw[Rep]at h;obtain⟨c1,d1,rfl,h1,h⟩:=RepL.cons_inv h;obtain⟨c2,d2,rfl,h2,h⟩:=RepL.cons_inv h;obtain⟨c3,d3,rfl,h3,h⟩:=RepL.cons_inv h;obtain⟨c4,d4,rfl,h4,h⟩:=RepL.cons_inv h;obtain⟨c5,d5,rfl,h5,h⟩:=RepL.cons_inv h;obtain rfl:=RepL.nil_inv h;obtain⟨A,n,rfl⟩:∃A e,c1=[.slice A c.path.length e]:=by
    have h1':=h1;unfold Ni at h1';rw[Rep]at h1';obtain⟨A,c,rfl,-⟩:=h1';exact⟨A,c,by rw[rQ]⟩
  obtain rfl:c2=[J c.cls]:=by
    unfold Mi at h2;rw[Rep]at h2;exact h2.1
  obtain⟨x,rfl,-⟩:=Sz h3;obtain⟨y,rfl,-⟩:=Sz h4;obtain⟨z,rfl,-⟩:=Sz h5;exact⟨⟨A,c.path.length,n,c.cls,x,y,z⟩,by simp,⟨O,O,h1,h3,h4,h5⟩⟩
theorem CvOf.ext{S:Nat->Prop}{w w':World}{c:Cf}{q:Cv}(h:CvOf S w c q)(hs:Same [] w w'):CvOf S w' c q:=⟨h.n,h.k,h.p.ext hs,h.x.ext hs,h.y.ext hs,h.z.ext hs⟩
theorem Rep.cf_elem{S:Nat->Prop}{w:World}{l:List Cf}{A:Option Addr}{len c:Nat}(h:Rep S w (.slice (l.map L8)) [.slice A len c]){i:Nat}(hi:i<l.length) :
    ∃(ad:Addr)(q:Cv),A=some ad/\(∀j (hj:j<q.cells.length),w.cell? ((ad.add (i*17)).add j)=some q.cells[j])/\CvOf S w l[i] q:=by
  obtain⟨ad,cs,hA,hl,hc,hr⟩:=Rep.elem (sz:=17) h (λd hd=>by obtain⟨k,_,rfl⟩:=nQ.1 hd;exact GZ k) (i:=i) (by simpa using hi);rw[List.getElem_map]at hr;obtain⟨q,rfl,hq⟩:=TA hr;exact⟨ad,q,hA,hc,hq⟩
theorem Rep.sd_elem{S:Nat->Prop}{w:World}{l:List Sd}{A:Option Addr}{len c:Nat}(h:Rep S w (.slice (l.map Ve)) [.slice A len c]){i:Nat}(hi:i<l.length) :
    ∃(ad:Addr)(q:Sv),A=some ad/\(∀j (hj:j<q.cells.length),w.cell? ((ad.add (i*5)).add j)=some q.cells[j])/\Rep S w (Ve l[i]) q.cells:=by
  obtain⟨ad,cs,hA,hl,hc,hr⟩:=Rep.elem (sz:=5) h (λd hd=>by obtain⟨k,_,rfl⟩:=nQ.1 hd;exact Dx k) (i:=i) (by simpa using hi);rw[List.getElem_map]at hr;obtain⟨q,rfl,hq⟩:=Sz hr;exact⟨ad,q,hA,hc,hr⟩
structure CfOk (c:Cf):Prop where
  b:SdOk c.b
  l:SdOk c.l
  r:SdOk c.r
theorem CfOk.all{c:Cf}(h:CfOk c):∀s∈[c.b,c.l,c.r],SdOk s:=by
  intro s hs;simp only[oQ,List.not_mem_nil,or_false]at hs;rcases hs with rfl|rfl|rfl
  ·exact h.b
  ·exact h.l
  exact h.r
theorem H5(c:Cf):T8 c=[c.b,c.l,c.r].all λs=>O1 s c.cls:=by simp[T8]
def Ir(k:Int)(s:Str):Int:=if k≠7 then -1 else if (Fc s).2≠0 then -1 else (Er (Fc s).1).1
theorem Bw(v:Tree):Aj v=Ir v.kind v.text:=rfl
theorem Ws(c:Cf)(q:Cv)(pk:Int)(S:Nat->Prop)(w0:World)(hq:CvOf S w0 c q)(hk:CfOk c)(hG:Gl w0):Calls prog 115 #[.agg q.cells.toArray,J pk] w0 (Dd λv w'=>∃y:Sv,v=.tuple #[.agg y.cells.toArray,.bool (Qj c pk).2]/\Rep (Btw w0 w') w' (Ve (Qj c pk).1) y.cells/\Same [] w0 w'):=by
 refine Ia func115 O ntmps115 Eb (Pc _ _) ?_;have hF:=FR.start w0 [];refine Ea (Oe hF O ?_);rintro b1 w hb1 hF -;refine Wc (cs:=#[.bool false,J 0,I [],aQ,aQ]) hF mX O ?_;rintro b2 w hb2 hF -;refine Ba (Db O) (Da (Ga (Ea (Ba (Za O) (Da (Qa (Ea (Ba (Qf O O) (Ba (Db O) ?_)))))))));refine Da (Ib O O (λhc0=>?_) (λhc0=>?_));refine Ea (Ba (Ob Dq O) (Ka (v:=.agg (q.x.cells).toArray) (Wa (l:=q.x.cells) cZ oZ O O (hF.part 1 2 O O)) ?_));refine Lb (E5 c.b q.x S _ (hF.rep hq.x) hk.b (hG.ext hF.same)) (Na GM O O) ?_;rintro _ w ⟨y,rfl,hRt,hE⟩;have hY:=RX.made (ids:=[b2,b1]) hF.same.size (λx hx=>hF.lt_ids (by simpa using hx)) hRt;have hF:=hF.ext hE;clear hE hRt;refine Ie hF oZ O O Zg ?_;intro w hF hE;have hY:=hY.store hE (by grind);refine Ba (Db O) (Da ?_);refine Va (Ua (Ja (Nc O (l:=y.cells) O cZ oZ O (hF.cellsAll 0 O) (v:=.bool true) O) ?_));have e:Qj c pk=(Mk c.b,true):=by unfold Qj;rw[if_pos hc0]
 rw[e]
 ·exact⟨y,O,hY.done,hF.same⟩
 refine Ea (Ba (Qf O O) (Ba (Db O) (Da ?_)));refine Ib O O (λhc1=>?_) (λhc1=>?_);refine Ea (Ba (Ob Kn O) (Ka (v:=.agg (q.y.cells).toArray) (Wa (l:=q.y.cells) cZ oZ O O (hF.part 1 7 O O)) ?_));refine Lb (E5 c.l q.y S _ (hF.rep hq.y) hk.l (hG.ext hF.same)) (Na GM O O) ?_;rintro _ w ⟨y,rfl,hRt,hE⟩;have hY:=RX.made (ids:=[b2,b1]) hF.same.size (λx hx=>hF.lt_ids (by simpa using hx)) hRt;have hF:=hF.ext hE;clear hE hRt;refine Ie hF oZ O O Zg ?_;intro w hF hE;have hY:=hY.store hE (by grind);refine Ba (Db O) (Da ?_);refine Va (Ua (Ja (Nc O (l:=y.cells) O cZ oZ O (hF.cellsAll 0 O) (v:=.bool true) O) ?_));have e:Qj c pk=(Mk c.l,true):=by unfold Qj;rw[if_neg hc0,if_pos hc1]
 rw[e]
 ·exact⟨y,O,hY.done,hF.same⟩
 refine Ea (Ba (Qf O O) (Ba (Db O) (Da ?_)));refine Ib O O (λhc2=>?_) (λhc2=>?_);refine Ea (Ba (Ob Hn O) (Ka (v:=.agg (q.z.cells).toArray) (Wa (l:=q.z.cells) cZ oZ O O (hF.part 1 12 O O)) ?_));refine Lb (E5 c.r q.z S _ (hF.rep hq.z) hk.r (hG.ext hF.same)) (Na GM O O) ?_;rintro _ w ⟨y,rfl,hRt,hE⟩;have hY:=RX.made (ids:=[b2,b1]) hF.same.size (λx hx=>hF.lt_ids (by simpa using hx)) hRt;have hF:=hF.ext hE;clear hE hRt;refine Ie hF oZ O O Zg ?_;intro w hF hE;have hY:=hY.store hE (by grind);refine Ba (Db O) (Da ?_);refine Va (Ua (Ja (Nc O (l:=y.cells) O cZ oZ O (hF.cellsAll 0 O) (v:=.bool true) O) ?_));have e:Qj c pk=(Mk c.r,true):=by unfold Qj;rw[if_neg hc0,if_neg hc1,if_pos hc2]
 rw[e]
 ·exact⟨y,O,hY.done,hF.same⟩
 refine La (Bb (Fa (Ea ?_)));refine Ka (w':=w) (v:=.agg #[.bool false,J 0,I [],aQ,aQ]) Ub (Ie hF oZ O O Zg ?_);rintro w hF -;refine Ba (Db O) (Da ?_);refine Va (Ua (Ja (Nc O (l:=[.bool false,J 0,I [],aQ,aQ]) O cZ oZ O (hF.cellsAll 0 O) (v:=.bool false) O) ?_));have e:Qj c pk=(noS,false):=by unfold Qj;rw[if_neg hc0,if_neg hc1,if_neg hc2]
 rw[e];exact⟨⟨false,V9⟩,O,Jo,hF.same⟩
theorem fits_c(c:Cf)(q:Cv)(S:Nat->Prop)(w0:World)(hq:CvOf S w0 c q)(hk:CfOk c)(hG:Gl w0):Calls prog 114 #[.agg q.cells.toArray] w0 (Dd λv w'=>v=.bool (T8 c)/\Same [] w0 w'):=by
 refine Ia func114 O ntmps114 Eb (Yb _) ?_;have hF:=FR.start w0 [];refine Ea (Oe hF O ?_);rintro b1 w hb1 hF -;refine Ba (Db O) (Da (Ga (Ea (Ba (Ob Dq O) (Ka (v:=.agg (q.x.cells).toArray) (Wa (l:=q.x.cells) cZ oZ O O (hF.part 0 2 O O)) (Ba (Ob Kn O) (Ka (v:=.agg (q.y.cells).toArray) (Wa (l:=q.y.cells) cZ oZ O O (hF.part 0 7 O O)) (Ba (Ob Hn O) (Ka (v:=.agg (q.z.cells).toArray) (Wa (l:=q.z.cells) cZ oZ O O (hF.part 0 12 O O)) ?_)))))))));refine Rl 3 hF (Nb (cs:=((th q.x q.y q.z)).toArray) underlying92 oZ mX Ab Ab Ub) ?_;rintro b2 w hb2 hF -;have hrow:Rep (λx=>S x\/x=b2) _ (.slice ([c.b,c.l,c.r].map Ve)) _:=hF.rowS 0 rfl (n:=3) (RepL.cons_mk (hF.rep hq.x) (RepL.cons_mk (hF.rep hq.y) (RepL.cons_mk (c2:=[]) (hF.rep hq.z) RepL.nil_mk))) rfl Aa;refine Ba (Ch underlying92 O) (Ba (Za O) (Da (Qa ?_)));refine Jc (λμ σ w=>∃(j:Nat),μ=3-j/\(j<=3)/\(Rep (λx=>S x\/x=b2) w (.slice ([c.b,c.l,c.r].map Ve)) [W b2 3 3])/\(([c.b,c.l,c.r].take j).all (λs=>O1 s c.cls)=true)/\AllEq σ [(1,V b1),(11,W b2 3 3),(12,J 3),(13,J ((j:Int)))]/\FR w0 [] [(b2,.cells ((th q.x q.y q.z)).toArray 27),(b1,.cells #[.slice q.A q.n q.c,J (q.k),.bool (q.x.h),J (q.x.v.k),I (q.x.v.t),.slice q.x.v.A q.x.v.n q.x.v.c,.slice q.x.v.B q.x.v.m q.x.v.e,.bool (q.y.h),J (q.y.v.k),I (q.y.v.t),.slice q.y.v.A q.y.v.n q.y.v.c,.slice q.y.v.B q.y.v.m q.y.v.e,.bool (q.z.h),J (q.z.v.k),I (q.z.v.t),.slice q.z.v.A q.z.v.n q.z.v.c,.slice q.z.v.B q.z.v.m q.z.v.e] 29)] w) _ ⟨0,O,Aa,(hrow),(O),Om,hF⟩ ?_;rintro μ σ w ⟨j,rfl,hj,hrow,ha,hs,hF⟩;refine Cg.slots hs ?_;clear hs;intro σ;refine Ea (Ba (Di O O) (Da (Ga ?_)));refine Ib O O (λhc0=>?_) (λhc0=>?_);refine La (Fa (Ga (Qa (Ga ?_))));have hj3:j<[c.b,c.l,c.r].length:=by simp only[kQ,List.length_nil];omega
 obtain⟨ad,s,hAs,hks,hes⟩:=hrow.sd_elem (i:=j) hj3;obtain⟨sd,hsd⟩:∃sd,sd=[c.b,c.l,c.r][j]:=⟨_,rfl⟩;rw[<-hsd]at hes;have hsok:SdOk sd:=hsd▸hk.all _ (eQ _);have hse:=Se hes;have hqk:=hq.k;refine Ha (Ka (v:=.pointer (some (ad.add (j*5)))) (Sa (i:=(j:Int)) sl_92 O hAs O Aa Aa) (Ka (v:=.agg (s.cells).toArray) (Wa (l:=s.cells) cZ oZ O O hks) ?_));refine Gg hF mX oZ O ?_;intro b3 w hb3 hF hE;have hrow:=hrow.ext hE;have hes:=hes.ext hE;have hse:=Se hes;refine Rb (Ba (Ob Qh O) (Zb (N3 fZ O hF.F 0 O O) (Ba (Vb O) ?_)));refine Lc (d:=19) O (λhg0=>?_) (λhg0=>?_);refine Ba (Ob Ag O) (Ka (v:=.agg (s.v.cells).toArray) (Wa (l:=s.v.cells) aZ nZ O O (hF.part 0 1 O O)) ?_);refine Lb (O4 sd.val hsok.sz _ _ s.v.cells hse.2.2.2.2 hsok.ok (hG.ext hF.same)) (Na XM O O) ?_;rintro _ w ⟨rfl,hE⟩;have hF:=hF.ext hE;have hrow:=hrow.ext hE;have hes:=hes.ext hE;have hse:=Se hes;refine Ba (Si O) (Ba (Vb O) ?_);refine Lc (d:=24) O (λhg1=>?_) (λhg1=>?_);refine Ca (Ca (Ca (Ca (Ca (Ca (Ca (Ca (Ca (Ba (Tb O O) (Ba (Tb O O) (Da (Ad O ?_))))))))))));refine Ea (Ba (Db O) (Da ?_));refine Gc (v:=.bool false) O O ⟨congrArg Value.bool ?_,hF.same⟩;symm;rw[H5,List.all_eq_false];refine⟨sd,hsd▸eQ _,?_⟩;unfold O1;simp_all;refine Ba (Ob Lk O) (Zb (Th eZ O hF.F 2 O O) (Ba (Qf O O) (Ba (Vb O) ?_)));refine Ya (d:=28) O (λhg2=>?_) (λhg2=>?_);refine Ba (Ob Ag O) (Ba (Ob Xd O) (Zb (Th eZ O hF.F 0 O O) (Ba (Vk O O) (Ba (Tb O O) (Ba (Kb O O) (Ba (Tb O O) (Da ?_)))))));refine Ib O O (λhc1=>?_) (λhc1=>?_);refine Ea (Ba (Db O) (Da ?_));refine Gc (v:=.bool false) O O ⟨congrArg Value.bool ?_,hF.same⟩;symm;rw[H5,List.all_eq_false];refine⟨sd,hsd▸eQ _,?_⟩;unfold O1;simp_all;refine La (Bb (Fa (Ha (Ba (Ek (((j+1:Nat):Int)) O O) (Ba (Za O) (Ta ?_))))));have hgood:O1 sd c.cls=true:=by unfold O1;simp_all
 refine Hb ⟨_,?_,j+1,O,Aa,(hrow),(by rw[iQ hj3,List.all_append,ha,<-hsd];simp[hgood]),Om,hF.drop 1⟩;omega;refine Ca (Ca (Ca (Ca (Ba (Kb O O) (Ba (Kb O O) (Ba (Tb O O) (Da (De O (La (Bb (Fa (Ha ?_))))))))))));refine Ba (Ek (((j+1:Nat):Int)) O O) (Ba (Za O) (Ta ?_));have hgood:O1 sd c.cls=true:=by unfold O1;simp_all
 refine Hb ⟨_,?_,j+1,O,Aa,(hrow),(by rw[iQ hj3,List.all_append,ha,<-hsd];simp[hgood]),Om,hF.drop 1⟩;omega;refine Ca (Ca (Ca (Ca (Ca (Ca (Ca (Ca (Ca (Ca (Ca (Ca (Ca (Ca ?_)))))))))))));refine Ca (Ba (Kb O O) (Da (De O (La (Bb (Fa (Ha (Ba (Ek (((j+1:Nat):Int)) O O) (Ba (Za O) (Ta ?_))))))))));have hgood:O1 sd c.cls=true:=by unfold O1;simp_all
 refine Hb ⟨_,?_,j+1,O,Aa,(hrow),(by rw[iQ hj3,List.all_append,ha,<-hsd];simp[hgood]),Om,hF.drop 1⟩;omega;refine Ec (Ac O ?_);refine Fa (Ea (Ba (Db O) (Da ?_)));refine Gc (v:=.bool true) O O ⟨congrArg Value.bool ?_,hF.same⟩;obtain rfl:j=3:=by omega
 rw[H5];exact ha.symm
theorem JP(x:Tv)(hl:x.t.length<=140737488355328)(w0:World)(hG:Gl w0):Calls prog 116 #[.agg (x.cells).toArray] w0 (Dd λv w'=>v=J (Ir x.k x.t)/\Same [] w0 w'):=by
 refine Ia func116 O ntmps116 Eb (Yb _) ?_;have hF:=FR.start w0 [];refine Ea (Oe hF O ?_);rintro b1 w hb1 hF -;refine Ba (Gb O) (Da (Ga (Ea (Ba (Ob Xd O) (Zb (Th eZ O hF.F 0 O O) (Ba (Vk O O) (Da ?_)))))));refine Ib O O (λhc0=>?_) (λhc0=>?_);refine Ea (Ba (Gb O) (Da ?_));refine Gc (v:=J ((-1))) O O ?_;exact⟨congrArg (Value.int .i64) (by simp_all[Ir]),hF.same⟩;refine La (Fa (Ea (Ba (Ob Wd O) (Zb (Pk jZ O hF.F 0 O O) ?_))));refine Oa hF (Ly x.t hl _) (Na WD O O) ?_;intro w hF;refine Ba (Qk O) (Ba (Iw O O) (Ba (Tj O O) ?_));refine Gg hF pX rZ O ?_;rintro b2 w hb2 hF -;refine Ba (Gb O) (Da (Ga (Ea (Ba (Za O) (Ba (Vk O O) (Da ?_))))));refine Ib O O (λhc1=>?_) (λhc1=>?_);refine Ea (Ba (Gb O) (Da ?_));refine Gc (v:=J ((-1))) O O ?_;exact⟨congrArg (Value.int .i64) (by simp_all[Ir]),hF.same⟩;refine La (Fa (Ea (Zb (Of iZ rZ O hF.F 0 O O) ?_)));refine Oa hF (TH (Fc x.t).1 (by have:=Ki x.t;omega) _ (hG.ext hF.same)) (Na ZX O O) ?_;intro w hF;refine Ba (Qk O) (Ba (Tj O O) (Ba (Ao O O) (Ba (Gb O) (Ba (Db O) (Rb (Ba (Za O) (Ba (Gb O) (Da ?_))))))));refine Gc (v:=J ((Er (Fc x.t).1).1)) O O ?_;exact⟨congrArg (Value.int .i64) (by simp_all[Ir]),hF.same⟩
theorem HX(v:Value)(k:Str):∀m:MapL,(L6 m k v).length=m.length+if Ah m k=none then 1 else 0:=λm=>by
  have h:=Qv m k;unfold L6;cases hf:m.findIdx? (λx=>decide (x.1=k))with
  | none=>rw[hf]at h;rw[<-h];simp
  | some i =>
    obtain⟨hi,-⟩:=R5 hf;rw[hf]at h;rw[<-h];simp[hi]
structure CntM (m:MapL) (l:List Str):Prop where
  get:∀t,Ah m t=if t∈l then some (J (l.count t:Int)) else none
  len:m.length=l.eraseDups.length
theorem CntM.nil:CntM [] []:=⟨λt=>by simp[Ah],rfl⟩
theorem CntM.val{m:MapL}{l:List Str}(h:CntM m l)(t:Str):(Ah m t).getD (J 0)=J ((l.count t:Nat):Int):=by
  rw[h.get];by_cases ht:t∈l
  ·rw[if_pos ht];rfl
  rw[if_neg ht,List.count_eq_zero.2 ht];rfl
theorem CntM.add{m:MapL}{l:List Str}(h:CntM m l)(t:Str):CntM (L6 m t (J (((l.count t+1:Nat)):Int))) (l++[t]):=by
  refine⟨λk=>?_,?_⟩
  ·rw[J9]
   by_cases e:t=k
   ·subst e
    rw[if_pos rfl,if_pos Ma];simp
   rw[if_neg e, h.get, List.count_append, List.count_singleton];have e':(t==k)=false:=by simpa using e
   rw[e'];simp[Ne.symm e]
  rw[HX, h.len, h.get, List.eraseDups_append, dQ];by_cases ht:t∈l
  ·rw[if_pos ht]
   have:[t].removeAll l=[]:=by simp[List.removeAll,ht]
   rw[this];simp
  rw[if_neg ht];have:[t].removeAll l=[t]:=by simp[List.removeAll,ht]
  rw[this];rfl
theorem YB{xs:List Tree}{j:Nat}(hj:j<xs.length):Bi (xs.take (j+1))=Bi (xs.take j)++Ng xs[j]:=by
  rw[Ko,Ko,iQ hj,List.flatMap_append];simp
theorem Q6(x:Tree):(Ng x).length<=Qb x:=Tree.ind (Q:=λx=>(Ng x).length<=Qb x) (λk t ks xs ih=>by
  have hs:∀ys:List Tree,(∀y∈ys,(Ng y).length<=Qb y)->(Bi ys).length<=Dc ys:=λys=>by
    induction ys with
    | nil=>intro _;simp[Bi]
    | cons y ys ihy =>
      intro h;have h1:=h y Ma;have h2:=ihy λz hz=>h z (by simp[hz]);rw[Bi,Dc,dQ];omega
  have:=hs xs ih;rw[Ng,Qb,dQ];split <;> simp <;> omega) x
def IK(x:Tree):Prop:=∀(S:Nat->Prop)(w0:World)(mb:Nat)(m:MapL)(l:List Str)(cs:List Value),Rep S w0 (Pb x) cs->(∀b,S b->b<w0.heap.size/\b∉[mb])->w0.heap[mb]? = some (Vh m)->CntM m l->l.length+Qb x<=1000000000 ->
  Calls prog 113 #[.agg cs.toArray,.map (some mb)] w0 (Dd λv w'=>∃m',v=.tuple #[]/\w'.heap[mb]? = some (Vh m')/\CntM m' (l++Ng x)/\Same [mb] w0 w')
theorem DE(ys:List Tree):(Bi ys).length<=Dc ys:=by
  have:=Q6 (.node 0 [] [] ys);rw[Ng,Qb,if_neg Ab,List.nil_append]at this;have h2:∀zs:List Tree,(Bi zs).length<=Dc zs:=λzs=>by
    induction zs with
    | nil=>simp[Bi]
    | cons z zs ih=>have:=Q6 z;rw[Bi,Dc,dQ];omega
  exact h2 ys
theorem PC(xs:List Tree)(j:Nat)(hj:j<xs.length):Dc (xs.take j)+Qb xs[j]<=Dc xs:=by
  have h:xs=xs.take j++xs[j]::xs.drop (j+1):=by rw[<-List.drop_eq_getElem_cons hj,List.take_append_drop]
  have h2:=congrArg Dc h;rw[Al,Dc]at h2;omega
theorem ZK(k:Int)(t:Str)(ks:List Str)(xs:List Tree)(ih:∀x,x∈xs->IK x):IK (.node k t ks xs):=by
 intro S w0 mb m l cs hR hS hmb hCm hsz;obtain⟨A,c,B,e,rfl,-,-,-,hX⟩:=hR.tree_inv;have hXl:=hX.slice_len;rw[Qb]at hsz;refine Ia func113 O ntmps113 Eb (Pc _ _) ?_;have hF:FR w0 [mb] [(mb,Vh (m))] w0:=FR.open_ (by simp[hmb]) Ma;refine Ea (Oe hF O ?_);rintro b1 w hb1 hF -;refine Da (Ga ?_);refine Bf (λσ w=>∃(m1:MapL),∃(l1:List Str),(l1=l++(if k=7 then [t] else []))/\(CntM m1 l1)/\AllEq σ [(1,.map (some mb)),(2,V b1)]/\FR w0 [mb] [(b1,.cells #[J k,I t,.slice A ks.length c,.slice B xs.length e] 25),(mb,Vh (m1))] w) ?_ ?_;refine Ea (Ba (Ob Xd O) (Zb (Th eZ O hF.F 0 O O) (Ba (Qf O O) (Da ?_))));refine Ib O O (λhc0=>?_) (λhc0=>?_);refine Ha (Ba (Nt) (Ba (Ob Wd O) (Zb (Pk jZ O hF.F 0 O O) (Ka (v:=J (((l.count t:Nat):Int))) (Uv underlying167 jX oX O O (hF.heap (i:=1) O) (hCm.val _)) ?_))));have hlc:=List.count_le_length (a:=t) (l:=l);refine Ba (Ek (((l.count t+1:Nat):Int)) O O) (TS 1 (v:=J (((l.count t+1:Nat):Int))) hF underlying167 jX O O O O ?_);rintro w hF -;have hF:FR w0 [mb] [(b1,.cells #[J k,I t,.slice A ks.length c,.slice B xs.length e] 25),(mb,Vh (L6 (m) (t) (J (((l.count t+1:Nat):Int)))))] w:=hF;refine Ta ?_;exact Hb ⟨(L6 m t (J ((l.count t+1:Nat):Int))),(l++[t]),(by rw[if_pos hc0]),(hCm.add t),J4,hF⟩;refine La ?_;exact Hb ⟨(m),(l),(by rw[if_neg hc0,qQ]),(hCm),J4,hF⟩;rintro σ w ⟨m1,l1,hl1,hC1,hs,hF⟩;refine Eg.slots hs ?_;clear hs;intro σ;refine Fa (Ea (Ba (Ob Xb O) (Zb (Xe zQ O hF.F 0 O O) (Ba (Ch zZ O) (Ba (Za O) (Da (Qa ?_)))))));refine Jc (λμ σ w=>∃(j:Nat),∃(m2:MapL),μ=xs.length-j/\(j<=xs.length)/\(CntM m2 (l1++Bi (xs.take j)))/\AllEq σ [(1,.map (some mb)),(15,.slice B xs.length e),(16,J ((xs.length:Nat))),(17,J ((j:Int)))]/\FR w0 [mb] [(b1,.cells #[J k,I t,.slice A ks.length c,.slice B xs.length e] 25),(mb,Vh (m2))] w) _ ⟨0,m1,O,(Nat.zero_le _),(by simpa[Bi]using hC1),Om,hF⟩ ?_
 rintro μ σ w ⟨j,m2,rfl,hj,hC2,hs,hF⟩;refine Cg.slots hs ?_;clear hs;intro σ;have hll:l1.length<=l.length+1:=by rw[hl1,dQ];split <;> simp
 refine Ea (Ba (Di O O) (Da (Ga ?_)));refine Ib O O (λhc1=>?_) (λhc1=>?_);refine La (Fa (Ga (Qa (Ea ?_))));obtain⟨ad0,cs0,hA0,hl0,hk0,hx0⟩:=(hF.repE hS hX).tree_elem (i:=j) Aa;have ho0:=hx0.one_;have hxj:=hx0;refine Ka (v:=.pointer (some (ad0.add (j*4)))) (Sa (i:=(j:Int)) Hg O hA0 O Aa Aa) (Ka (v:=.agg (List.toArray cs0)) (Wa (l:=cs0) aZ nZ O hl0 hk0) ?_);refine W2 (l:=cs0) hF lX (by rw[hl0];exact nZ) (by rw[hl0];rfl) (v:=.agg (List.toArray cs0)) O O (ho0) O ?_;intro b2 w hb2 hF hE;have hxj:=hxj.ext hE;refine Da (Ha (Ka (v:=.agg (List.toArray cs0)) (Wa (l:=cs0) aZ nZ O hl0 (hF.cellsAll 0 O)) (Ba (Nt) ?_)));refine Lb (ih _ (eQ _) S _ mb m2 (l1++Bi (xs.take j)) cs0 hxj (λb hb=>⟨Nat.lt_of_lt_of_le (hS b hb).1 hF.same.size,(hS b hb).2⟩) (hF.heap (i:=2) O) hC2 (by have:=DE (xs.take j);have:=PC xs j Aa;rw[dQ];omega)) (Xa JY O O O) ?_;rintro _ w ⟨m3,rfl,hm3,hC3,hE⟩;have hF:=hF.change 2 rfl hE hm3;have hF:FR w0 [mb] [(b2,.cells (List.toArray cs0) 25),(b1,.cells #[J k,I t,.slice A ks.length c,.slice B xs.length e] 25),(mb,Vh (m3))] w:=hF;clear hE hm3;refine Ta (Bb (Fa (Ha (Ba (Ek (((j+1:Nat):Int)) O O) (Ba (Za O) (Ta ?_))))));refine Hb ⟨_,?_,j+1,m3,O,Aa,(by rw[YB Aa,<-sQ];exact hC3),Om,hF.drop 1⟩;omega;refine Ec (Ac O ?_);refine Dh (Ze (Bk O) ?_);obtain rfl:j=xs.length:=by omega
 refine⟨m2,O,hF.heap (i:=1) O,?_,hF.same⟩;rw[List.take_length]at hC2;rw[Ng,<-sQ,<-hl1];exact hC2
theorem holes_c(x:Tree):IK x:=Tree.ind ZK x
theorem T4{v:Tree}{L:List Cf}{pick:List Int}{j:Nat}(h:(List.range j).all (λi=>decide ((Ng v).count (Sp i)=1)&&(T8 (L.getD i noC)&&(Qj (L.getD i noC) (pick.getD i 0)).2))=true)(h1:(Ng v).count (Sp j)=1)(hj:j<L.length)(hp:j<pick.length)(h2:T8 L[j]=true)(h3:(Qj L[j] pick[j]).2=true) :
    (List.range (j+1)).all (λi=>decide ((Ng v).count (Sp i)=1)&&(T8 (L.getD i noC)&&(Qj (L.getD i noC) (pick.getD i 0)).2))=true:=by
  have e1:L.getD j noC=L[j]:=by simp[List.getD,hj]
  have e2:pick.getD j 0=pick[j]:=by simp[List.getD,hp]
  rw[List.range_succ,List.all_append,h,List.all_cons,List.all_nil,e1,e2,h2,h3,decide_eq_true h1];rfl
theorem Nv{v:Tree}{L:List Cf}{pick:List Int}{j:Nat}(hj:j<L.length)(hp:j<pick.length)(h:¬((Ng v).count (Sp j)=1/\T8 L[j]=true/\(Qj L[j] pick[j]).2=true)):Wr v L pick=false:=by
  have e1:L.getD j noC=L[j]:=by simp[List.getD,hj]
  have e2:pick.getD j 0=pick[j]:=by simp[List.getD,hp]
  rw[Bool.eq_false_iff];intro hg;unfold Wr at hg;rw[Bool.and_eq_true,Bool.and_eq_true,List.all_eq_true]at hg;have:=hg.2.2 j (List.mem_range.2 hj);rw[e1,e2,Bool.and_eq_true,Bool.and_eq_true,decide_eq_true_eq]at this;exact h this
theorem N_{v:Tree}{L:List Cf}{pick:List Int}(h:¬(L.length=pick.length/\(Ng v).eraseDups.length=L.length)):Wr v L pick=false:=by
  rw[Bool.eq_false_iff];intro hg;unfold Wr at hg;rw[Bool.and_eq_true,Bool.and_eq_true,decide_eq_true_eq,decide_eq_true_eq]at hg;exact h ⟨hg.1,hg.2.1⟩
theorem MT{v:Tree}{L:List Cf}{pick:List Int}(h1:L.length=pick.length)(h2:(Ng v).eraseDups.length=L.length)(h:(List.range L.length).all (λi=>decide ((Ng v).count (Sp i)=1)&&(T8 (L.getD i noC)&&(Qj (L.getD i noC) (pick.getD i 0)).2))=true):Wr v L pick=true:=by
  unfold Wr;rw[decide_eq_true h1,decide_eq_true h2,h];rfl
theorem goodC_c(L:List Cf)(pick:List Int)(LA PA:Option Addr)(lc pc:Nat)(SL SP:Nat->Prop)(t:Tree)(x:Tv)(SX:Nat->Prop)(w0:World)(hL:Rep SL w0 (.slice (L.map L8)) [.slice LA L.length lc])(hP:Rep SP w0 (.slice (pick.map Mi)) [.slice PA pick.length pc])(hLk:∀c∈L,CfOk c)(hX1:Rep SX w0 (Pb t) x.cells)(hsz:Qb t<=1000000000)(hG:Gl w0):Calls prog 72 #[.agg #[.slice LA L.length lc,.slice PA pick.length pc],.agg (x.cells).toArray] w0 (Dd λv w'=>v=.bool (Wr t L pick)/\Same [] w0 w'):=by
 have hX:=hX1.low;have hLl:=hL.slice_len;have hPl:=hP.slice_len;simp only[rQ]at hLl hPl;refine Ia func72 O ntmps72 Eb (Pc _ _) ?_;have hF:=FR.start w0 [];refine Ea (Oe hF O ?_);rintro b1 w hb1 hF -;refine Oe hF O ?_;rintro b2 w hb2 hF -;refine Ba (Db O) (Rb ?_);refine My (v:=λb=>.map (some b)) hF (DM underlying167) ?_;rintro b3 w hb3 hF -;refine Ba (T0) (Rb (Zb (Of aZ nZ O hF.F 1 O O) (Ba (Nt) ?_)));refine Lb (holes_c t _ _ b3 [] [] x.cells (hF.rep hX) (λb hb=>⟨Nat.lt_of_lt_of_le hb hF.same.size,λhm=>by have h8:=hF.ge (i:=0) O;rw[pQ]at hm;omega⟩) (hF.heap (i:=0) O) CntM.nil (by simp only[List.length_nil];omega)) (Xa JY O O O) ?_;rintro _ w ⟨m1,rfl,hm1,hC1,hE⟩;rw[List.nil_append]at hC1;have hF:=hF.change 0 rfl hE hm1;have hF:FR w0 [] [(b3,Vh (m1)),(b2,.cells (x.cells).toArray 25),(b1,.cells #[.slice LA L.length lc,.slice PA pick.length pc] 111)] w:=hF;clear hE hm1;have hC1l:=hC1.len;refine Da (Ga (Ea (Ba (Ob Bv O) (Zb (Xe isAgg58 O hF.F 2 O O) (Ba (Ch iX O) (Ba (Ob R4 O) (Zb (Xe isAgg54 O hF.F 2 O O) (Ba (Ch gX O) (Ba (Vk O O) (Ba (Vb O) ?_))))))))));refine Ya (d:=21) O (λhg0=>?_) (λhg0=>?_);refine Ca (Ca (Ca (Ca (Ca (Ca (Ba (Tb O O) (Da (Ad O (Ea (Ba (Db O) (Ta ?_)))))))))));refine Fa (Gc (v:=.bool false) O O ?_);refine⟨congrArg Value.bool (N_ ?_).symm,hF.same⟩;omega;refine Ba (Nt) (Ka (v:=J (((m1).length:Nat))) (OT underlying167 O (hF.heap (i:=0) O)) (Ba (Ob Bv O) (Zb (Xe isAgg58 O hF.F 2 O O) (Ba (Ch iX O) (Ba (Vk O O) (Ba (Kb O O) (Da ?_)))))));refine Ib O O (λhc0=>?_) (λhc0=>?_);refine Ea (Ba (Db O) (Da ?_));refine Gc (v:=.bool false) O O ⟨congrArg Value.bool (N_ ?_).symm,hF.same⟩;omega;refine La (Fa (Ga (Ea (Ba (Ob Bv O) (Zb (Xe isAgg58 O hF.F 2 O O) (Ba (Ch iX O) (Ba (Za O) (Da (Qa ?_)))))))));have hlp:L.length=pick.length:=by omega
 have hll:(Ng t).eraseDups.length=L.length:=by omega
 refine Jc (λμ σ w=>∃(j:Nat),μ=L.length-j/\(j<=L.length)/\((List.range j).all (λi=>decide ((Ng t).count (Sp i)=1)&&(T8 (L.getD i noC)&&(Qj (L.getD i noC) (pick.getD i 0)).2))=true)/\AllEq σ [(2,V b1),(5,.map (some b3)),(30,.slice LA L.length lc),(31,J ((L.length:Nat))),(32,J ((j:Int)))]/\FR w0 [] [(b3,Vh (m1)),(b2,.cells (x.cells).toArray 25),(b1,.cells #[.slice LA L.length lc,.slice PA pick.length pc] 111)] w) _ ⟨0,O,(Nat.zero_le _),(O),Bp,hF⟩ ?_;rintro μ σ w ⟨j,rfl,hj,ha,hs,hF⟩;refine Cg.slots hs ?_;clear hs;intro σ;refine Ea (Ba (Di O O) (Da (Ga ?_)));refine Ib O O (λhc1=>?_) (λhc1=>?_);refine La (Fa (Ga (Qa (Ga ?_))));have hjL:j<L.length:=by omega
 have hjP:j<pick.length:=by omega
 obtain⟨ad0,cq0,hAd0,hcq0,hcf⟩:=hL.cf_elem hjL;refine Ha (Ba (Za O) (Ka (v:=.pointer (some (ad0.add (j*17)))) (Sa (i:=(j:Int)) Kz O hAd0 O Aa Aa) (Ka (v:=.agg #[.slice cq0.A cq0.n cq0.c,J (cq0.k),.bool (cq0.x.h),J (cq0.x.v.k),I (cq0.x.v.t),.slice cq0.x.v.A cq0.x.v.n cq0.x.v.c,.slice cq0.x.v.B cq0.x.v.m cq0.x.v.e,.bool (cq0.y.h),J (cq0.y.v.k),I (cq0.y.v.t),.slice cq0.y.v.A cq0.y.v.n cq0.y.v.c,.slice cq0.y.v.B cq0.y.v.m cq0.y.v.e,.bool (cq0.z.h),J (cq0.z.v.k),I (cq0.z.v.t),.slice cq0.z.v.A cq0.z.v.n cq0.z.v.c,.slice cq0.z.v.B cq0.z.v.m cq0.z.v.e]) (Wa (l:=cq0.cells) dZ pZ O O (hF.cells0 hcq0)) ?_)));refine Wc (cs:=#[aQ,J 0,.bool false,J 0,I [],aQ,aQ,.bool false,J 0,I [],aQ,aQ,.bool false,J 0,I [],aQ,aQ]) hF zeroValue29 O ?_;rintro b4 w hb4 hF -;refine Ba (Gb O) (Ie hF pZ O O Zg ?_);rintro w hF -;refine Da (Ga (Ea (Ba (Nt) (Ba (Za O) ?_))));refine Oa hF (QN (j:Int) Aa Aa _ (hG.ext hF.same)) (Na en_47 O O) ?_;intro w hF;refine Oa hF (MB (I2 (j:Int)) (by have:=Ki (Lib.itoa (j:Int));exact fQ this Ab) _ (hG.ext hF.same)) (Na PM O O) ?_;intro w hF;refine Ka (v:=J ((((Ng t).count (Tf (I2 (j:Int))):Nat):Int))) (Uv underlying167 jX oX O O (hF.heap (i:=1) O) (hC1.val _)) (Ba (Vk O O) (Ba (Vb O) ?_));refine Ya (d:=43) O (λhg1=>?_) (λhg1=>?_);refine Ca (Ca (Ca (Ba (Tb O O) (Da (Ad O (Ea (Ba (Db O) (Da ?_))))))));refine Gc (v:=.bool false) O O ⟨congrArg Value.bool ?_,hF.same⟩;exact (Nv hjL hjP (λ⟨a,b,c⟩=>by simp_all[Sp])).symm;refine Zb (Of dZ pZ O hF.F 0 O O) (Oa hF (fits_c L[j] cq0 _ _ (hcf.ext hF.same) (hLk _ (eQ _)) (hG.ext hF.same)) (Na en_114 O O) ?_);intro w hF;refine Ba (Si O) (Ba (Kb O O) (Da ?_));refine Le O O (λhc2=>?_) (λhc2=>?_);refine Ea (Ba (Db O) (Da ?_));refine Gc (v:=.bool false) O O ⟨congrArg Value.bool ?_,hF.same⟩;exact (Nv hjL hjP (λ⟨a,b,c⟩=>by simp_all[Sp])).symm
 refine La (Fa (Ga ?_));refine Md (zs:=.of []) (bQ [0,1,2,3,4,5] (.alt 6 (bQ [7,8,9] (.act 10 (.act 11 (.free 12 .nil)))) (.act 10 (.act 6 (bQ [7,8,9] (.act 11 (.free 12 .nil))))))) hF ?_;intro w hF;refine Fg O (Of dZ pZ O C0 0 O O) (Jb O (Ob R4 O) (Fg O (Xe isAgg54 O C0 3 O O) (Jb O (Za O) ?_)));obtain⟨ad2,hA2,hk2,hx2⟩:=hP.int_elem (i:=j) (hjP);refine Cb O (v:=.pointer (some (ad2.add (j*1)))) (λw hC=>Sa (i:=(j:Int)) CA O hA2 O Aa Aa) (Cb O (v:=J (pick[j])) (λw hC=>Qd eZ O (hC.cell0 hk2)) ?_);refine Ky ?_ ?_;refine Pd O (Ws L[j] cq0 pick[j] _ _ (hcf.ext hF.same) (hLk _ (eQ _)) (hG.ext hF.same)) (Xa PB O O O) ?_;rintro _ w ⟨y,rfl,hRt,hE⟩;have hF:=hF.ext hE;clear hE hRt;refine⟨hF,?_⟩;refine Jb O (Qk O) (Jb O (Iw O O) (Jb O (Ao O O) ?_));refine It O (v:=λb=>V b) (o:=.cells #[.bool false,J 0,I [],aQ,aQ] 27) hF (Qi mX) ?_;rintro b5 w hb5 hF -;refine⟨hF.drop 1,?_⟩;refine On O hF oZ O O Zg ?_;rintro w hF -;refine⟨hF.drop 1,?_⟩;refine Jb O (Db O) (Hc (Fa (Ea (Ba (Vb O) (Ba (Si O) (Da ?_))))));refine Le O O (λhc3=>?_) (λhc3=>?_);refine Ea (Ba (Db O) (Da ?_));refine Gc (v:=.bool false) O O ⟨congrArg Value.bool ?_,hF.same⟩;exact (Nv hjL hjP (λ⟨a,b,c⟩=>by simp_all[Sp])).symm;refine La (Bb (Fa (Ha (Ba (Ek (((j+1:Nat):Int)) O O) (Ba (Za O) (Ta ?_))))));refine Hb ⟨_,?_,j+1,O,Aa,(T4 ha (by simp_all[Sp];omega) hjL hjP (by simp_all) (by simp_all)),Bp,hF.drop 2⟩;omega;refine It O (v:=λb=>V b) (o:=.cells #[.bool false,J 0,I [],aQ,aQ] 27) hF (Qi mX) ?_;rintro b6 w hb6 hF -;refine⟨hF.drop 1,?_⟩;refine Pd O (Ws L[j] cq0 pick[j] _ _ (hcf.ext hF.same) (hLk _ (eQ _)) (hG.ext hF.same)) (Xa PB O O O) ?_;rintro _ w ⟨y,rfl,hRt,hE⟩;have hF:=hF.ext hE;clear hE hRt;refine⟨hF.drop 1,?_⟩;refine Jb O (Qk O) (Jb O (Iw O O) (Jb O (Ao O O) ?_));refine On O hF oZ O O Zg ?_
 rintro w hF -;refine⟨hF.drop 1,?_⟩;refine Jb O (Db O) (Hc (Fa (Ea (Ba (Vb O) (Ba (Si O) (Da ?_))))));refine Le O O (λhc3=>?_) (λhc3=>?_);refine Ea (Ba (Db O) (Da ?_));refine Gc (v:=.bool false) O O ⟨congrArg Value.bool ?_,hF.same⟩;exact (Nv hjL hjP (λ⟨a,b,c⟩=>by simp_all[Sp])).symm;refine La (Bb (Fa (Ha (Ba (Ek (((j+1:Nat):Int)) O O) (Ba (Za O) (Ta ?_))))));refine Hb ⟨_,?_,j+1,O,Aa,(T4 ha (by simp_all[Sp];omega) hjL hjP (by simp_all) (by simp_all)),Bp,hF.drop 2⟩;omega;refine Ec (Ac O ?_);refine Fa (Ea (Ba (Db O) (Da ?_)));refine Gc (v:=.bool true) O O ?_;obtain rfl:j=L.length:=by omega
 exact⟨congrArg Value.bool (MT hlp hll ha).symm,hF.same⟩
end Go.Scarf
