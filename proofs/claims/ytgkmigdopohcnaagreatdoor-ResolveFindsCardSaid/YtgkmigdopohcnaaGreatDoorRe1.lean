/- A part of the proof. -/
import Derived.Test.YtgkmigdopohcnaaGreatDoorM13
set_option linter.all false
set_option maxHeartbeats 8000000
set_option maxRecDepth 10000
namespace Go.Scarf
open Go.RowKit Go.Proofs Go.Proofs.Tryz
def W4(m:Mm):D:=.agg [Hl m.pr,Od m.sd]
theorem UD(m:Mm):Xc (W4 m)=6:=by simp only[W4,Xc,Xc.sizeL,Yu,Hl]
def If(t:List Mm):D:=.slice (t.map W4)
abbrev Gr(p:Str)(x:Sv):List Value:=[I p,.bool x.h,J x.v.k,I x.v.t,.slice x.v.A x.v.n x.v.c,.slice x.v.B x.v.m x.v.e]
section
variable {S:Nat->Prop}{w:World}
theorem Wz{m:Mm}{cs:List Value}(h:Rep S w (W4 m) cs):∃x:Sv,cs=Gr m.pr x/\Rep S w (Od m.sd) x.cells/\m.pr.length<=9223372036854775807:=by
  unfold W4 at h;rw[Rep]at h;obtain⟨c1,d1,rfl,h1,h⟩:=RepL.cons_inv h;obtain⟨c2,d2,rfl,h2,h⟩:=RepL.cons_inv h;obtain rfl:=RepL.nil_inv h;unfold Hl at h1;rw[Rep]at h1;obtain⟨rfl,hl⟩:=h1;obtain⟨x,rfl,-⟩:=Ct h2;exact⟨x,by simp[Gr],h2,hl⟩
theorem QJ{m:Mm}{x:Sv}(h:Rep S w (Od m.sd) x.cells)(hl:m.pr.length<=9223372036854775807):Rep S w (W4 m) (Gr m.pr x):=by
  unfold W4;rw[Rep];have h1:Rep S w (Hl m.pr) [I m.pr]:=Rep.lit_mk (v:=I m.pr) hl;exact RepL.cons_mk h1 (RepL.cons_mk (c2:=[]) h RepL.nil_mk)
theorem Rep.mm_elem{l:List Mm}{A:Option Addr}{len c:Nat}(h:Rep S w (If l) [.slice A len c]){i:Nat}(hi:i<l.length) :
    ∃(ad:Addr)(x:Sv),A=some ad/\(∀j (hj:j<(Gr l[i].pr x).length),w.cell? ((ad.add (i*6)).add j)=some (Gr l[i].pr x)[j])/\Rep S w (Od l[i].sd) x.cells/\l[i].pr.length<=9223372036854775807:=by
  obtain⟨ad,cs,hA,hl,hc,hr⟩:=Rep.elem (sz:=6) h (λd hd=>by obtain⟨k,_,rfl⟩:=nQ.1 hd;exact UD k) (i:=i) (by simpa using hi);rw[List.getElem_map]at hr;obtain⟨x,rfl,hx,hp⟩:=Wz hr;exact⟨ad,x,hA,hc,hx,hp⟩
end
theorem An{s:Sd}(h:SdOk s):Co (Qe s)/\Mb (Qe s)<=1+Mb s.val:=by
  unfold Qe;split
  ·refine⟨?_, by simp only[Mb, Vb];omega⟩
   have:=h.ok;simp[Co,Iz,this]
  exact⟨by simp[Co,Iz],by simp only[Mb,Vb];omega⟩
theorem RD(A:Option Addr)(n c:Nat)(w0:World):Calls prog 31 #[.slice A n c] w0 (Pc λv w'=>v=.agg #[J 5,I [],aQ,.slice A n c]/\Same [] w0 w'):=by
 refine Ea func31 O ntmps31 Db (Rb _) ?_;have hF:=FR.start w0 [];refine Da (Jc (cs:=#[J 0,I [],aQ,aQ]) hF kX O ?_);rintro b1 w hb1 hF -;refine Qb (Aa (Wd O) ?_);refine Ja (w':=w) (v:=.agg #[J 5,I [],aQ,.slice A n c]) Ib (Xd hF mZ O O Qg ?_);rintro w hF -;refine Ca (Ab (Za (Ka (Uh O (l:=[J 5,I [],aQ,.slice A n c]) O aZ mZ O (hF.cellsAll 0 O)) ?_)));exact⟨O,hF.same⟩
theorem Rt(s:Sd)(x:Sv)(S:Nat->Prop)(w0:World)(hX:Rep S w0 (Od s) x.cells):Calls prog 27 #[.agg x.cells.toArray] w0 (Pc λv w'=>∃ct:List Value,v=.agg ct.toArray/\Rep (λb=>S b\/Btw w0 w' b) w' (Hb (Qe s)) ct/\Same [] w0 w'):=by
 have hx:=Dd hX;refine Ea func27 O ntmps27 Db (Rb _) ?_;have hF:=FR.start w0 [];refine Da (Le hF O ?_);rintro b1 w hb1 hF -;refine Jc (cs:=#[J 0,I [],aQ,aQ]) hF kX O ?_;rintro b2 w hb2 hF -;refine Ca (Fa (Da (Aa (Ob Ni O) (Tb (D6 eZ O hF.F 1 O O) (Aa (Oh O) (Ca ?_))))));refine Fe O O (λhc0=>?_) (λhc0=>?_);have h0:s.has=false:=by rw[<-hx.1];simpa using hc0
 refine Da (Oa hF (RD none 0 0 _) (Ma XB O O) ?_);intro w hF;refine Xd hF mZ O O Qg ?_;rintro w hF -;refine Ca (Ab (Za (Ka (Uh O (l:=[J 5,I [],aQ,aQ]) O aZ mZ O (hF.cellsAll 0 O)) ?_)));have e:Qe s=.node 5 [] [] []:=by unfold Qe;rw[if_neg (by rw[h0];decide)]
 rw[e];exact⟨_,O,Rep.tree_mk (ks:=[]) (xs:=[]) ⟨by decide,by decide⟩ La (Rep.nil_slice 0 Ba none) (Rep.nil_slice 0 Ba none),hF.same⟩;have h0:s.has=true:=by rw[<-hx.1];simpa using hc0
 refine Na (Ga (Da (Aa (Ob Xe O) (Ja (v:=.agg (x.v.cells).toArray) (Xa (l:=x.v.cells) aZ mZ O O (hF.part 1 1 O O)) ?_))));refine Ek 1 hF (Eb (cs:=(x.v.cells).toArray) yZ mZ kX Ta Ta Ib) ?_;rintro b3 w hb3 hF -;refine Oa hF (RD (some ⟨b3,0,none⟩) 1 1 _) (Ma XB O O) ?_;intro w hF;refine Xd hF mZ O O Mr ?_;rintro w hF -;refine Ca (Ab (Za (Ka (Uh O (l:=[J 5,I [],aQ,W b3 1 1]) O aZ mZ O (hF.cellsAll 1 O)) ?_)));have e:Qe s=.node 5 [] [] [s.val]:=by unfold Qe;rw[if_pos h0]
 rw[e];exact⟨_,O,Rep.tree_mk (ks:=[]) (xs:=[s.val]) ⟨by decide,by decide⟩ La (Rep.nil_slice 0 Ba none) ((hF.rowS 0 O (n:=1) (RepL.cons_mk (c2:=[]) (hF.rep hx.2.2.2.2) RepL.nil_mk) O Ba).weaken λb hb hl=>hb.elim .inl λe=>.inr (by rw[e];exact⟨hF.ge (i:=0) O,hF.lt (i:=0) O,_,_,hF.heap (i:=0) O⟩)),hF.same⟩
theorem EG(s:Sd)(x:Sv)(k:Int)(S:Nat->Prop)(w0:World)(hX:Rep S w0 (Od s) x.cells)(hs:SdOk s)(hG:Gl w0):Calls prog 39 #[.agg x.cells.toArray,J k] w0 (Pc λv w'=>v=.bool (Im s k)/\Same [] w0 w'):=by
 have hx:=Dd hX;refine Ea func39 O ntmps39 Db (Lc _ _) ?_;have hF:=FR.start w0 [];refine Da (Le hF O ?_);rintro b1 w hb1 hF -;refine Aa (Jb O) (Qb (Aa (Ob Ni O) (Tb (D6 eZ O hF.F 0 O O) (Aa (Oh O) (Aa (Dc O) ?_)))));refine Rc (d:=8) O (λhg0=>?_) (λhg0=>?_);refine Ia (Ia (Ia (Ia (Ia (Ia (Ia (Ia (Ia (Ia (Ia (Ia (Ia (Aa (Yb O O) ?_)))))))))))));refine Aa (Jb O) (Ca ?_);refine Hc (v:=.bool true) O O ⟨congrArg Value.bool ?_,hF.same⟩;have h1:=hx.1;have h2:=hx.2.1;unfold Im;simp_all;refine Aa (Ob Xe O) (Ja (v:=.agg (x.v.cells).toArray) (Xa (l:=x.v.cells) aZ mZ O O (hF.part 0 1 O O)) ?_);refine Oa hF (B0 s.val hs.sz _ _ x.v.cells (hF.rep hx.2.2.2.2) hs.ok (hG.ext hF.same)) (Ma ZI O O) ?_;intro w hF;refine Aa (Dc O) (Rc (d:=12) O (λhg1=>?_) (λhg1=>?_));refine Aa (Gb O) (Aa (Om O O) (Aa (Dc O) ?_));refine Wb (d:=15) O (λhg2=>?_) (λhg2=>?_);refine Ia (Ia (Ia (Ia (Aa (Yb O O) (Aa (Yb O O) (Aa (Bc O O) (Aa (Jb O) (Ca ?_))))))));refine Hc (v:=.bool true) O O ⟨congrArg Value.bool ?_,hF.same⟩;have h1:=hx.1;have h2:=hx.2.1;unfold Im;simp_all;refine Aa (Ob Xe O) (Aa (Ob Se O) (Tb (Yi dZ O hF.F 0 O O) (Aa (Yh O O) (Aa (Bc O O) (Aa (Yb O O) (Aa (Bc O O) (Aa (Jb O) (Ca ?_))))))));refine Hc (v:=.bool _) O O ⟨congrArg Value.bool ?_,hF.same⟩;have h1:=hx.1;have h2:=hx.2.1;unfold Im;simp_all;refine Ia (Ia (Ia (Ia (Ia (Ia (Ia (Ia (Aa (Bc O O) (Aa (Bc O O) (Aa (Jb O) (Ca ?_)))))))))));refine Hc (v:=.bool false) O O ⟨congrArg Value.bool ?_,hF.same⟩;have h1:=hx.1;have h2:=hx.2.1;unfold Im;simp_all
theorem BS(c:Cf)(q:Cv)(S:Nat->Prop)(w0:World)(hq:CvOf S w0 c q)(hk:CfOk c)(hG:Gl w0):Calls prog 26 #[.agg q.cells.toArray] w0 (Pc λv w'=>v=.bool (Kq c)/\Same [] w0 w'):=by
 refine Ea func26 O ntmps26 Db (Rb _) ?_;have hF:=FR.start w0 [];refine Da (Le hF O ?_);rintro b1 w hb1 hF -;refine Aa (Jb O) (Ca (Fa (Da (Aa (Ob Fv O) (Ja (v:=.agg (q.x.cells).toArray) (Xa (l:=q.x.cells) bZ nZ O O (hF.part 0 2 O O)) (Aa (Ob Qw O) (Ja (v:=.agg (q.y.cells).toArray) (Xa (l:=q.y.cells) bZ nZ O O (hF.part 0 7 O O)) (Aa (Ob Kv O) (Ja (v:=.agg (q.z.cells).toArray) (Xa (l:=q.z.cells) bZ nZ O O (hF.part 0 12 O O)) ?_)))))))));refine Ek 3 hF (Eb (cs:=((th q.x q.y q.z)).toArray) underlying92 nZ lX Ta Ta Ib) ?_;rintro b2 w hb2 hF -;have hrow:Rep (λx=>S x\/x=b2) _ (.slice ([c.b,c.l,c.r].map Od)) _:=hF.rowS 0 rfl (n:=3) (RepL.cons_mk (hF.rep hq.x) (RepL.cons_mk (hF.rep hq.y) (RepL.cons_mk (c2:=[]) (hF.rep hq.z) RepL.nil_mk))) rfl Ba;refine Aa (Ug underlying92 O) (Aa (Gb O) (Ca (Va ?_)));refine Tc (λμ σ w=>∃(j:Nat),μ=3-j/\(j<=3)/\(Rep (λx=>S x\/x=b2) w (.slice ([c.b,c.l,c.r].map Od)) [W b2 3 3])/\(([c.b,c.l,c.r].take j).all (λs=>Im s c.cls)=true)/\AllEq σ [(1,V b1),(11,W b2 3 3),(12,J 3),(13,J ((j:Int)))]/\FR w0 [] [(b2,.cells ((th q.x q.y q.z)).toArray 27),(b1,.cells #[.slice q.A q.n q.c,J (q.k),.bool (q.x.h),J (q.x.v.k),I (q.x.v.t),.slice q.x.v.A q.x.v.n q.x.v.c,.slice q.x.v.B q.x.v.m q.x.v.e,.bool (q.y.h),J (q.y.v.k),I (q.y.v.t),.slice q.y.v.A q.y.v.n q.y.v.c,.slice q.y.v.B q.y.v.m q.y.v.e,.bool (q.z.h),J (q.z.v.k),I (q.z.v.t),.slice q.z.v.A q.z.v.n q.z.v.c,.slice q.z.v.B q.z.v.m q.z.v.e] 29)] w) _ ⟨0,O,Ba,(hrow),(O),Nr,hF⟩ ?_;rintro μ σ w ⟨j,rfl,hj,hrow,ha,hs,hF⟩;refine Cg.slots hs ?_;clear hs;intro σ;refine Da (Aa (Sl O O) (Ca (Fa ?_)));refine Pb O O (λhc0=>?_) (λhc0=>?_);refine Na (Ga (Fa (Va (Fa ?_))));have hj3:j<[c.b,c.l,c.r].length:=by simp only[kQ,List.length_nil];omega
 obtain⟨ad,s,hAs,hks,hes⟩:=hrow.sd_elem (i:=j) hj3;obtain⟨sd,hsd⟩:∃sd,sd=[c.b,c.l,c.r][j]:=⟨_,rfl⟩;rw[<-hsd]at hes;have hsok:SdOk sd:=hsd▸hk.all _ (eQ _);have hqk:=hq.k;refine Ha (Ja (v:=.pointer (some (ad.add (j*5)))) (Sa (i:=(j:Int)) WZ O hAs O Ba Ba) (Ja (v:=.agg (s.cells).toArray) (Xa (l:=s.cells) bZ nZ O O hks) ?_));refine Ye hF lX nZ O ?_;intro b3 w hb3 hF hE;have hrow:=hrow.ext hE;have hes:=hes.ext hE;refine Qb (Tb (He bZ nZ O hF.F 0 O O) (Aa (Ob Tl O) (Tb (Yi dZ O hF.F 2 O O) ?_)));refine Ya (EG sd s q.k _ _ hes hsok (hG.ext hF.same)) (Ra GV O O O) ?_;rintro _ w ⟨rfl,hE⟩;have hF:=hF.ext hE;have hrow:=hrow.ext hE;have hes:=hes.ext hE;refine Aa (Oh O) (Ca ?_);refine Fe O O (λhc1=>?_) (λhc1=>?_);refine Da (Aa (Jb O) (Ca ?_));refine Hc (v:=.bool false) O O ⟨congrArg Value.bool ?_,hF.same⟩;have hbad:Im sd c.cls=false:=by rw[<-hqk];simpa using hc1
 have hm:sd∈[c.b,c.l,c.r]:=hsd▸eQ _;unfold Kq;simp only[oQ,List.not_mem_nil,or_false]at hm;rcases hm with e|e|e <;> (rw[e]at hbad;simp[hbad])
 refine Na (Cb (Ga (Ha (Aa (Bo (((j+1:Nat):Int)) O O) (Aa (Gb O) (Ua ?_))))));have hgood:Im sd c.cls=true:=by rw[<-hqk];simpa using hc1
 refine Xb ⟨_,?_,j+1,O,Ba,(hrow),(by rw[iQ hj3,List.all_append,ha,<-hsd];simp[hgood]),Nr,hF.drop 1⟩;omega;refine Kc (Ec O ?_);refine Ga (Fa ?_);obtain rfl:j=3:=by omega
 have hqk:=hq.k;have ea:Kq c=(decide (1<=c.cls)&&decide (c.cls<=6)):=by simp only[List.take,List.all_cons,List.all_nil,Bool.and_true,Bool.and_eq_true]at ha;unfold Kq;rw[ha.1,ha.2.1,ha.2.2];simp
 refine Ha (Aa (Ob Tl O) (Tb (Yi dZ O hF.F 1 O O) (Aa (T6 O O) (Aa (Dc O) ?_))));refine Wb (d:=26) O (λhg0=>?_) (λhg0=>?_);refine Aa (Ob Tl O) (Tb (Yi dZ O hF.F 1 O O) (Aa (OV O O) (Aa (Yb O O) (Aa (Jb O) (Ca ?_)))));refine Hc (v:=.bool _) O O ⟨congrArg Value.bool ?_,hF.same⟩;rw[ea,<-hqk]
 ·first|(simp_all;done)|(simp_all;omega)
 refine Ia (Ia (Ia (Aa (Bc O O) (Aa (Jb O) (Ca ?_)))));refine Hc (v:=.bool false) O O ⟨congrArg Value.bool ?_,hF.same⟩;rw[ea,<-hqk]
 ·first|(simp_all;done)|(simp_all;omega)
theorem MX(y:Tree)(x:Tv)(S:Nat->Prop)(w0:World)(hX:Rep S w0 (Hb y) x.cells)(hn:x.n+x.m<=1000000000000):Calls prog 61 #[.agg x.cells.toArray] w0 (Pc λv w'=>v=.bool (Hx y)/\Same [] w0 w'):=by
 refine Ea func61 O ntmps61 Db (Rb _) ?_;have hF:=FR.start w0 [];refine Da (Le hF O ?_);rintro b1 w hb1 hF -;refine Aa (Jb O) (Qb (Aa (Ob Se O) (Tb (Yi dZ O hF.F 0 O O) (Aa (Yh O O) (Aa (Dc O) ?_)))));refine Wb (d:=6) O (λhg0=>?_) (λhg0=>?_)
 ·
  refine Aa (Ob Re O) (Tb (Rm iZ O hF.F 0 O O) (Aa (L4 O O) (Aa (Yb O O) (Aa (Dc O) ?_))));refine Wb (d:=11) O (λhg1=>?_) (λhg1=>?_)
  ·
   refine Aa (Ob Zd O) (Tb (Ff yQ O hF.F 0 O O) (Aa (Ug xZ O) (Aa (Ob Ub O) (Tb (Ff zQ O hF.F 0 O O) (Aa (Ug yZ O) (Aa (Il O O) (Aa (Yh O O) (Aa (Yb O O) (Aa (Jb O) (Ca ?_))))))))));refine Hc (v:=.bool _) O O ⟨congrArg Value.bool ?_,hF.same⟩;unfold Hx;obtain⟨h1,h2,h3,h4,-,-⟩:=Ti hX;have e1:(y.keys=[])↔x.n=0:=by rw[h3];exact List.length_eq_zero_iff.symm
   have e2:(y.items=[])↔x.m=0:=by rw[h4];exact List.length_eq_zero_iff.symm
   simp_all
   all_goals first|done|(rw[Bool.eq_iff_iff];simp only[Bool.and_eq_true,decide_eq_true_eq,<-List.length_eq_zero_iff];omega)
  refine Ia (Ia (Ia (Ia (Ia (Ia (Ia (Ia (Aa (Bc O O) (Aa (Jb O) (Ca ?_))))))))));refine Hc (v:=.bool false) O O ⟨congrArg Value.bool ?_,hF.same⟩;unfold Hx;obtain⟨h1,h2,h3,h4,-,-⟩:=Ti hX;have e1:(y.keys=[])↔x.n=0:=by rw[h3];exact List.length_eq_zero_iff.symm
  have e2:(y.items=[])↔x.m=0:=by rw[h4];exact List.length_eq_zero_iff.symm
  simp_all
  all_goals first|done|(rw[Bool.eq_iff_iff];simp only[Bool.and_eq_true,decide_eq_true_eq,<-List.length_eq_zero_iff];omega)
 refine Ia (Ia (Ia (Aa (Bc O O) (Aa (Dc O) (Ia (Ia (Ia (Ia (Ia (Ia (Ia (Ia (Aa (Bc O O) ?_)))))))))))));refine Aa (Jb O) (Ca ?_);refine Hc (v:=.bool false) O O ⟨congrArg Value.bool ?_,hF.same⟩;unfold Hx;obtain⟨h1,h2,h3,h4,-,-⟩:=Ti hX;have e1:(y.keys=[])↔x.n=0:=by rw[h3];exact List.length_eq_zero_iff.symm
 have e2:(y.items=[])↔x.m=0:=by rw[h4];exact List.length_eq_zero_iff.symm
 simp_all
 all_goals first|done|(rw[Bool.eq_iff_iff];simp only[Bool.and_eq_true,decide_eq_true_eq,<-List.length_eq_zero_iff];omega)
end Go.Scarf
