/- A part of the proof. -/
import Derived.Test.YtidlkjpohhbbcaaGreatDoorM13
set_option linter.all false
set_option maxHeartbeats 8000000
set_option maxRecDepth 10000
namespace Go.Scarf
open Go.RowKit Go.Proofs Go.Proofs.Tryz
def M5(m:Mm):D:=.agg [Zm m.pr,Se m.sd]
theorem FI(m:Mm):Md (M5 m)=6:=by simp only[M5,Md,Md.sizeL,Ex,Zm]
def Tf(t:List Mm):D:=.slice (t.map M5)
abbrev Cr(p:Str)(x:Sv):List Value:=[I p,.bool x.h,J x.v.k,I x.v.t,.slice x.v.A x.v.n x.v.c,.slice x.v.B x.v.m x.v.e]
section
variable {S:Nat->Prop}{w:World}
theorem H3{m:Mm}{cs:List Value}(h:Rep S w (M5 m) cs):∃x:Sv,cs=Cr m.pr x/\Rep S w (Se m.sd) x.cells/\m.pr.length<=9223372036854775807:=by
  unfold M5 at h;rw[Rep]at h;obtain⟨c1,d1,rfl,h1,h⟩:=RepL.cons_inv h;obtain⟨c2,d2,rfl,h2,h⟩:=RepL.cons_inv h;obtain rfl:=RepL.nil_inv h;unfold Zm at h1;rw[Rep]at h1;obtain⟨rfl,hl⟩:=h1;obtain⟨x,rfl,-⟩:=Sy h2;exact⟨x,by simp[Cr],h2,hl⟩
theorem PH{m:Mm}{x:Sv}(h:Rep S w (Se m.sd) x.cells)(hl:m.pr.length<=9223372036854775807):Rep S w (M5 m) (Cr m.pr x):=by
  unfold M5;rw[Rep];have h1:Rep S w (Zm m.pr) [I m.pr]:=Rep.lit_mk (v:=I m.pr) hl;exact RepL.cons_mk h1 (RepL.cons_mk (c2:=[]) h RepL.nil_mk)
theorem Rep.mm_elem{l:List Mm}{A:Option Addr}{len c:Nat}(h:Rep S w (Tf l) [.slice A len c]){i:Nat}(hi:i<l.length) :
    ∃(ad:Addr)(x:Sv),A=some ad/\(∀j (hj:j<(Cr l[i].pr x).length),w.cell? ((ad.add (i*6)).add j)=some (Cr l[i].pr x)[j])/\Rep S w (Se l[i].sd) x.cells/\l[i].pr.length<=9223372036854775807:=by
  obtain⟨ad,cs,hA,hl,hc,hr⟩:=Rep.elem (sz:=6) h (λd hd=>by obtain⟨k,_,rfl⟩:=nQ.1 hd;exact FI k) (i:=i) (by simpa using hi);rw[List.getElem_map]at hr;obtain⟨x,rfl,hx,hp⟩:=H3 hr;exact⟨ad,x,hA,hc,hx,hp⟩
end
theorem Ap{s:Sd}(h:SdOk s):Wp (Xe s)/\Db (Xe s)<=1+Db s.val:=by
  unfold Xe;split
  ·refine⟨?_, by simp only[Db, Nb];omega⟩
   have:=h.ok;simp[Wp,X5,this]
  exact⟨by simp[Wp,X5],by simp only[Db,Nb];omega⟩
theorem JJ(A:Option Addr)(n c:Nat)(w0:World):Calls prog 35 #[.slice A n c] w0 (Oc λv w'=>v=.agg #[J 5,I [],aQ,.slice A n c]/\Same [] w0 w'):=by
 refine Ea func35 O ntmps35 Bb (Tb _) ?_;have hF:=FR.start w0 [];refine Da (Gc (cs:=#[J 0,I [],aQ,aQ]) hF sX O ?_);rintro b1 w hb1 hF -;refine Ob (Ba (Qe O) ?_);refine Ia (w':=w) (v:=.agg #[J 5,I [],aQ,.slice A n c]) Ib (Ke hF oZ O O Oi ?_);rintro w hF -;refine Ca (Xa (Va (Ka (Ni O (l:=[J 5,I [],aQ,.slice A n c]) O aZ oZ O (hF.cellsAll 0 O)) ?_)));exact⟨O,hF.same⟩
theorem Qv(s:Sd)(x:Sv)(S:Nat->Prop)(w0:World)(hX:Rep S w0 (Se s) x.cells):Calls prog 37 #[.agg x.cells.toArray] w0 (Oc λv w'=>∃ct:List Value,v=.agg ct.toArray/\Rep (λb=>S b\/Btw w0 w' b) w' (Jb (Xe s)) ct/\Same [] w0 w'):=by
 have hx:=Ze hX;refine Ea func37 O ntmps37 Bb (Tb _) ?_;have hF:=FR.start w0 [];refine Da (Df hF O ?_);rintro b1 w hb1 hF -;refine Gc (cs:=#[J 0,I [],aQ,aQ]) hF sX O ?_;rintro b2 w hb2 hF -;refine Ca (Fa (Da (Ba (Rb Sk O) (Yb (OE cZ O hF.F 1 O O) (Ba (Wi O) (Ca ?_))))));refine He O O (λhc0=>?_) (λhc0=>?_);have h0:s.has=false:=by rw[<-hx.1];simpa using hc0
 refine Da (Qa hF (JJ none 0 0 _) (Ma LH O O) ?_);intro w hF;refine Ke hF oZ O O Oi ?_;rintro w hF -;refine Ca (Xa (Va (Ka (Ni O (l:=[J 5,I [],aQ,aQ]) O aZ oZ O (hF.cellsAll 0 O)) ?_)));have e:Xe s=.node 5 [] [] []:=by unfold Xe;rw[if_neg (by rw[h0];decide)]
 rw[e];exact⟨_,O,Rep.tree_mk (ks:=[]) (xs:=[]) ⟨by decide,by decide⟩ La (Rep.nil_slice 0 Aa none) (Rep.nil_slice 0 Aa none),hF.same⟩;have h0:s.has=true:=by rw[<-hx.1];simpa using hc0
 refine Na (Ga (Da (Ba (Rb Ih O) (Ia (v:=.agg (x.v.cells).toArray) (Za (l:=x.v.cells) aZ oZ O O (hF.part 1 1 O O)) ?_))));refine Ck 1 hF (Fb (cs:=(x.v.cells).toArray) jX oZ sX Oa Oa Ib) ?_;rintro b3 w hb3 hF -;refine Qa hF (JJ (some ⟨b3,0,none⟩) 1 1 _) (Ma LH O O) ?_;intro w hF;refine Ke hF oZ O O Tr ?_;rintro w hF -;refine Ca (Xa (Va (Ka (Ni O (l:=[J 5,I [],aQ,W b3 1 1]) O aZ oZ O (hF.cellsAll 1 O)) ?_)));have e:Xe s=.node 5 [] [] [s.val]:=by unfold Xe;rw[if_pos h0]
 rw[e];exact⟨_,O,Rep.tree_mk (ks:=[]) (xs:=[s.val]) ⟨by decide,by decide⟩ La (Rep.nil_slice 0 Aa none) ((hF.rowS 0 O (n:=1) (RepL.cons_mk (c2:=[]) (hF.rep hx.2.2.2.2) RepL.nil_mk) O Aa).weaken λb hb hl=>hb.elim .inl λe=>.inr (by rw[e];exact⟨hF.ge (i:=0) O,hF.lt (i:=0) O,_,_,hF.heap (i:=0) O⟩)),hF.same⟩
theorem OL(s:Sd)(x:Sv)(k:Int)(S:Nat->Prop)(w0:World)(hX:Rep S w0 (Se s) x.cells)(hs:SdOk s)(hG:Gl w0):Calls prog 55 #[.agg x.cells.toArray,J k] w0 (Oc λv w'=>v=.bool (Gt s k)/\Same [] w0 w'):=by
 have hx:=Ze hX;refine Ea func55 O ntmps55 Bb (Nc _ _) ?_;have hF:=FR.start w0 [];refine Da (Df hF O ?_);rintro b1 w hb1 hF -;refine Ba (Kb O) (Ob (Ba (Rb Sk O) (Yb (OE cZ O hF.F 0 O O) (Ba (Wi O) (Ba (Sc O) ?_)))));refine Je (d:=8) O (λhg0=>?_) (λhg0=>?_);refine Ha (Ha (Ha (Ha (Ha (Ha (Ha (Ha (Ha (Ha (Ha (Ha (Ha (Ba (Fc O O) ?_)))))))))))));refine Ba (Kb O) (Ca ?_);refine Lc (v:=.bool true) O O ⟨congrArg Value.bool ?_,hF.same⟩;have h1:=hx.1;have h2:=hx.2.1;unfold Gt;simp_all;refine Ba (Rb Ih O) (Ia (v:=.agg (x.v.cells).toArray) (Za (l:=x.v.cells) aZ oZ O O (hF.part 0 1 O O)) ?_);refine Qa hF (N3 s.val hs.sz _ _ x.v.cells (hF.rep hx.2.2.2.2) hs.ok (hG.ext hF.same)) (Ma BQ O O) ?_;intro w hF;refine Ba (Sc O) (Je (d:=12) O (λhg1=>?_) (λhg1=>?_));refine Ba (Cb O) (Ba (Sn O O) (Ba (Sc O) ?_));refine Wb (d:=15) O (λhg2=>?_) (λhg2=>?_);refine Ha (Ha (Ha (Ha (Ba (Fc O O) (Ba (Fc O O) (Ba (Pc O O) (Ba (Kb O) (Ca ?_))))))));refine Lc (v:=.bool true) O O ⟨congrArg Value.bool ?_,hF.same⟩;have h1:=hx.1;have h2:=hx.2.1;unfold Gt;simp_all;refine Ba (Rb Ih O) (Ba (Rb Ve O) (Yb (Pi xQ O hF.F 0 O O) (Ba (Xh O O) (Ba (Pc O O) (Ba (Fc O O) (Ba (Pc O O) (Ba (Kb O) (Ca ?_))))))));refine Lc (v:=.bool _) O O ⟨congrArg Value.bool ?_,hF.same⟩;have h1:=hx.1;have h2:=hx.2.1;unfold Gt;simp_all;refine Ha (Ha (Ha (Ha (Ha (Ha (Ha (Ha (Ba (Pc O O) (Ba (Pc O O) (Ba (Kb O) (Ca ?_)))))))))));refine Lc (v:=.bool false) O O ⟨congrArg Value.bool ?_,hF.same⟩;have h1:=hx.1;have h2:=hx.2.1;unfold Gt;simp_all
theorem rightC_c(c:Cf)(q:Cv)(S:Nat->Prop)(w0:World)(hq:CvOf S w0 c q)(hk:CfOk c)(hG:Gl w0):Calls prog 49 #[.agg q.cells.toArray] w0 (Oc λv w'=>v=.bool (Fu c)/\Same [] w0 w'):=by
 refine Ea func49 O ntmps49 Bb (Tb _) ?_;have hF:=FR.start w0 [];refine Da (Df hF O ?_);rintro b1 w hb1 hF -;refine Ba (Kb O) (Ca (Fa (Da (Ba (Rb R3 O) (Ia (v:=.agg (q.x.cells).toArray) (Za (l:=q.x.cells) bZ pZ O O (hF.part 0 2 O O)) (Ba (Rb E3 O) (Ia (v:=.agg (q.y.cells).toArray) (Za (l:=q.y.cells) bZ pZ O O (hF.part 0 7 O O)) (Ba (Rb L3 O) (Ia (v:=.agg (q.z.cells).toArray) (Za (l:=q.z.cells) bZ pZ O O (hF.part 0 12 O O)) ?_)))))))));refine Ck 3 hF (Fb (cs:=((th q.x q.y q.z)).toArray) underlying104 pZ tX Oa Oa Ib) ?_;rintro b2 w hb2 hF -;have hrow:Rep (λx=>S x\/x=b2) _ (.slice ([c.b,c.l,c.r].map Se)) _:=hF.rowS 0 rfl (n:=3) (RepL.cons_mk (hF.rep hq.x) (RepL.cons_mk (hF.rep hq.y) (RepL.cons_mk (c2:=[]) (hF.rep hq.z) RepL.nil_mk))) rfl Aa;refine Ba (Qg underlying104 O) (Ba (Cb O) (Ca (Sa ?_)));refine Rc (λμ σ w=>∃(j:Nat),μ=3-j/\(j<=3)/\(Rep (λx=>S x\/x=b2) w (.slice ([c.b,c.l,c.r].map Se)) [W b2 3 3])/\(([c.b,c.l,c.r].take j).all (λs=>Gt s c.cls)=true)/\AllEq σ [(1,V b1),(11,W b2 3 3),(12,J 3),(13,J ((j:Int)))]/\FR w0 [] [(b2,.cells ((th q.x q.y q.z)).toArray 38),(b1,.cells (q.cells).toArray 40)] w) _ ⟨0,O,Aa,(hrow),(O),Ur,hF⟩ ?_;rintro μ σ w ⟨j,rfl,hj,hrow,ha,hs,hF⟩;refine Cg.slots hs ?_;clear hs;intro σ;refine Da (Ba (Dl O O) (Ca (Fa ?_)));refine Lb O O (λhc0=>?_) (λhc0=>?_);refine Na (Ga (Fa (Sa (Fa ?_))));have hj3:j<[c.b,c.l,c.r].length:=by simp only[kQ,List.length_nil];omega
 obtain⟨ad,s,hAs,hks,hes⟩:=hrow.sd_elem (i:=j) hj3;obtain⟨sd,hsd⟩:∃sd,sd=[c.b,c.l,c.r][j]:=⟨_,rfl⟩;rw[<-hsd]at hes;have hsok:SdOk sd:=hsd▸hk.all _ (eQ _);have hqk:=hq.k;refine Ja (Ia (v:=.pointer (some (ad.add (j*5)))) (Ra (i:=(j:Int)) KY O hAs O Aa Aa) (Ia (v:=.agg (s.cells).toArray) (Za (l:=s.cells) bZ pZ O O hks) ?_));refine Hf hF tX pZ O ?_;intro b3 w hb3 hF hE;have hrow:=hrow.ext hE;have hes:=hes.ext hE;refine Ob (Yb (Ig bZ pZ O hF.F 0 O O) (Ba (Rb Rm O) (Yb (Pi xQ O hF.F 2 O O) ?_)));refine Ta (OL sd s q.k _ _ hes hsok (hG.ext hF.same)) (Ua TW O O O) ?_;rintro _ w ⟨rfl,hE⟩;have hF:=hF.ext hE;have hrow:=hrow.ext hE;have hes:=hes.ext hE;refine Ba (Wi O) (Ca ?_);refine He O O (λhc1=>?_) (λhc1=>?_);refine Da (Ba (Kb O) (Ca ?_));refine Lc (v:=.bool false) O O ⟨congrArg Value.bool ?_,hF.same⟩;have hbad:Gt sd c.cls=false:=by rw[<-hqk];simpa using hc1
 have hm:sd∈[c.b,c.l,c.r]:=hsd▸eQ _;unfold Fu;simp only[oQ,List.not_mem_nil,or_false]at hm;rcases hm with e|e|e <;> (rw[e]at hbad;simp[hbad])
 refine Na (Wa (Ga (Ja (Ba (Un (((j+1:Nat):Int)) O O) (Ba (Cb O) (Eb ?_))))));have hgood:Gt sd c.cls=true:=by rw[<-hqk];simpa using hc1
 refine Qb ⟨_,?_,j+1,O,Aa,(hrow),(by rw[iQ hj3,List.all_append,ha,<-hsd];simp[hgood]),Ur,hF.drop 1⟩;omega;refine Ic (Ec O ?_);refine Ga (Fa ?_);obtain rfl:j=3:=by omega
 have hqk:=hq.k;have ea:Fu c=(decide (1<=c.cls)&&decide (c.cls<=6)):=by simp only[List.take,List.all_cons,List.all_nil,Bool.and_true,Bool.and_eq_true]at ha;unfold Fu;rw[ha.1,ha.2.1,ha.2.2];simp
 refine Ja (Ba (Rb Rm O) (Yb (Pi xQ O hF.F 1 O O) (Ba (V2 O O) (Ba (Sc O) ?_))));refine Wb (d:=26) O (λhg0=>?_) (λhg0=>?_);refine Ba (Rb Rm O) (Yb (Pi xQ O hF.F 1 O O) (Ba (NM O O) (Ba (Fc O O) (Ba (Kb O) (Ca ?_)))));refine Lc (v:=.bool _) O O ⟨congrArg Value.bool ?_,hF.same⟩;rw[ea,<-hqk]
 ·first|(simp_all;done)|(simp_all;omega)
 refine Ha (Ha (Ha (Ba (Pc O O) (Ba (Kb O) (Ca ?_)))));refine Lc (v:=.bool false) O O ⟨congrArg Value.bool ?_,hF.same⟩;rw[ea,<-hqk]
 ·first|(simp_all;done)|(simp_all;omega)
theorem zeroB_c(y:Tree)(x:Tv)(S:Nat->Prop)(w0:World)(hX:Rep S w0 (Jb y) x.cells)(hn:x.n+x.m<=1000000000000):Calls prog 79 #[.agg x.cells.toArray] w0 (Oc λv w'=>v=.bool (P2 y)/\Same [] w0 w'):=by
 refine Ea func79 O ntmps79 Bb (Tb _) ?_;have hF:=FR.start w0 [];refine Da (Df hF O ?_);rintro b1 w hb1 hF -;refine Ba (Kb O) (Ob (Ba (Rb Ve O) (Yb (Pi xQ O hF.F 0 O O) (Ba (Xh O O) (Ba (Sc O) ?_)))));refine Wb (d:=6) O (λhg0=>?_) (λhg0=>?_)
 ·
  refine Ba (Rb Bf O) (Yb (Tn fZ O hF.F 0 O O) (Ba (yes O O) (Ba (Fc O O) (Ba (Sc O) ?_))));refine Wb (d:=11) O (λhg1=>?_) (λhg1=>?_)
  ·
   refine Ba (Rb Oe O) (Yb (Ff yQ O hF.F 0 O O) (Ba (Qg iX O) (Ba (Rb Xb O) (Yb (Ff zQ O hF.F 0 O O) (Ba (Qg jX O) (Ba (Fm O O) (Ba (Xh O O) (Ba (Fc O O) (Ba (Kb O) (Ca ?_))))))))));refine Lc (v:=.bool _) O O ⟨congrArg Value.bool ?_,hF.same⟩;unfold P2;obtain⟨h1,h2,h3,h4,-,-⟩:=Fi hX;have e1:(y.keys=[])↔x.n=0:=by rw[h3];exact List.length_eq_zero_iff.symm
   have e2:(y.items=[])↔x.m=0:=by rw[h4];exact List.length_eq_zero_iff.symm
   simp_all
   all_goals first|done|(rw[Bool.eq_iff_iff];simp only[Bool.and_eq_true,decide_eq_true_eq,<-List.length_eq_zero_iff];omega)
  refine Ha (Ha (Ha (Ha (Ha (Ha (Ha (Ha (Ba (Pc O O) (Ba (Kb O) (Ca ?_))))))))));refine Lc (v:=.bool false) O O ⟨congrArg Value.bool ?_,hF.same⟩;unfold P2;obtain⟨h1,h2,h3,h4,-,-⟩:=Fi hX;have e1:(y.keys=[])↔x.n=0:=by rw[h3];exact List.length_eq_zero_iff.symm
  have e2:(y.items=[])↔x.m=0:=by rw[h4];exact List.length_eq_zero_iff.symm
  simp_all
  all_goals first|done|(rw[Bool.eq_iff_iff];simp only[Bool.and_eq_true,decide_eq_true_eq,<-List.length_eq_zero_iff];omega)
 refine Ha (Ha (Ha (Ba (Pc O O) (Ba (Sc O) (Ha (Ha (Ha (Ha (Ha (Ha (Ha (Ha (Ba (Pc O O) ?_)))))))))))));refine Ba (Kb O) (Ca ?_);refine Lc (v:=.bool false) O O ⟨congrArg Value.bool ?_,hF.same⟩;unfold P2;obtain⟨h1,h2,h3,h4,-,-⟩:=Fi hX;have e1:(y.keys=[])↔x.n=0:=by rw[h3];exact List.length_eq_zero_iff.symm
 have e2:(y.items=[])↔x.m=0:=by rw[h4];exact List.length_eq_zero_iff.symm
 simp_all
 all_goals first|done|(rw[Bool.eq_iff_iff];simp only[Bool.and_eq_true,decide_eq_true_eq,<-List.length_eq_zero_iff];omega)
end Go.Scarf
