/- A part of the proof. -/
import Derived.Test.YtgkmigdopohcnaaGreatDoorM13
set_option linter.all false
set_option maxHeartbeats 8000000
set_option maxRecDepth 10000
namespace Go.Scarf
open Go.RowKit Go.Proofs Go.Proofs.Tryz
def S4(m:Mm):D:=.agg [Ol m.pr,Od m.sd]
theorem ZB(m:Mm):Wc (S4 m)=6:=by simp only[S4,Wc,Wc.sizeL,Wu,Ol]
def Hf(t:List Mm):D:=.slice (t.map S4)
abbrev Er(p:Str)(x:Sv):List Value:=[I p,.bool x.h,J x.v.k,I x.v.t,.slice x.v.A x.v.n x.v.c,.slice x.v.B x.v.m x.v.e]
section
variable {S:Nat->Prop}{w:World}
theorem B0{m:Mm}{cs:List Value}(h:Rep S w (S4 m) cs):∃x:Sv,cs=Er m.pr x/\Rep S w (Od m.sd) x.cells/\m.pr.length<=9223372036854775807:=by
  unfold S4 at h;rw[Rep]at h;obtain⟨c1,d1,rfl,h1,h⟩:=RepL.cons_inv h;obtain⟨c2,d2,rfl,h2,h⟩:=RepL.cons_inv h;obtain rfl:=RepL.nil_inv h;unfold Ol at h1;rw[Rep]at h1;obtain⟨rfl,hl⟩:=h1;obtain⟨x,rfl,-⟩:=Dt h2;exact⟨x,by simp[Er],h2,hl⟩
theorem TJ{m:Mm}{x:Sv}(h:Rep S w (Od m.sd) x.cells)(hl:m.pr.length<=9223372036854775807):Rep S w (S4 m) (Er m.pr x):=by
  unfold S4;rw[Rep];have h1:Rep S w (Ol m.pr) [I m.pr]:=Rep.lit_mk (v:=I m.pr) hl;exact RepL.cons_mk h1 (RepL.cons_mk (c2:=[]) h RepL.nil_mk)
theorem Rep.mm_elem{l:List Mm}{A:Option Addr}{len c:Nat}(h:Rep S w (Hf l) [.slice A len c]){i:Nat}(hi:i<l.length) :
    ∃(ad:Addr)(x:Sv),A=some ad/\(∀j (hj:j<(Er l[i].pr x).length),w.cell? ((ad.add (i*6)).add j)=some (Er l[i].pr x)[j])/\Rep S w (Od l[i].sd) x.cells/\l[i].pr.length<=9223372036854775807:=by
  obtain⟨ad,cs,hA,hl,hc,hr⟩:=Rep.elem (sz:=6) h (λd hd=>by obtain⟨k,_,rfl⟩:=nQ.1 hd;exact ZB k) (i:=i) (by simpa using hi);rw[List.getElem_map]at hr;obtain⟨x,rfl,hx,hp⟩:=B0 hr;exact⟨ad,x,hA,hc,hx,hp⟩
end
theorem An{s:Sd}(h:SdOk s):Co (Te s)/\Mb (Te s)<=1+Mb s.val:=by
  unfold Te;split
  ·refine⟨?_, by simp only[Mb, Vb];omega⟩
   have:=h.ok;simp[Co,Oz,this]
  exact⟨by simp[Co,Oz],by simp only[Mb,Vb];omega⟩
theorem ZD(A:Option Addr)(n c:Nat)(w0:World):Calls prog 31 #[.slice A n c] w0 (Pc λv w'=>v=.agg #[J 5,I [],aQ,.slice A n c]/\Same [] w0 w'):=by
 refine Ea func31 O ntmps31 Db (Rb _) ?_;have hF:=FR.start w0 [];refine Da (Jc (cs:=#[J 0,I [],aQ,aQ]) hF kX O ?_);rintro b1 w hb1 hF -;refine Qb (Aa (Xd O) ?_);refine Ja (w':=w) (v:=.agg #[J 5,I [],aQ,.slice A n c]) Ib (Wd hF mZ O O Pg ?_);rintro w hF -;refine Ca (Ab (Za (Ka (Sh O (l:=[J 5,I [],aQ,.slice A n c]) O aZ mZ O (hF.cellsAll 0 O)) ?_)));exact⟨O,hF.same⟩
theorem Et(s:Sd)(x:Sv)(S:Nat->Prop)(w0:World)(hX:Rep S w0 (Od s) x.cells):Calls prog 27 #[.agg x.cells.toArray] w0 (Pc λv w'=>∃ct:List Value,v=.agg ct.toArray/\Rep (λb=>S b\/Btw w0 w' b) w' (Hb (Te s)) ct/\Same [] w0 w'):=by
 have hx:=Cd hX;refine Ea func27 O ntmps27 Db (Rb _) ?_;have hF:=FR.start w0 [];refine Da (Je hF O ?_);rintro b1 w hb1 hF -;refine Jc (cs:=#[J 0,I [],aQ,aQ]) hF kX O ?_;rintro b2 w hb2 hF -;refine Ca (Fa (Da (Aa (Ob Mi O) (Tb (O6 eZ O hF.F 1 O O) (Aa (Nh O) (Ca ?_))))));refine Ge O O (λhc0=>?_) (λhc0=>?_);have h0:s.has=false:=by rw[<-hx.1];simpa using hc0
 refine Da (Oa hF (ZD none 0 0 _) (Ma OB O O) ?_);intro w hF;refine Wd hF mZ O O Pg ?_;rintro w hF -;refine Ca (Ab (Za (Ka (Sh O (l:=[J 5,I [],aQ,aQ]) O aZ mZ O (hF.cellsAll 0 O)) ?_)));have e:Te s=.node 5 [] [] []:=by unfold Te;rw[if_neg (by rw[h0];decide)]
 rw[e];exact⟨_,O,Rep.tree_mk (ks:=[]) (xs:=[]) ⟨by decide,by decide⟩ La (Rep.nil_slice 0 Ba none) (Rep.nil_slice 0 Ba none),hF.same⟩;have h0:s.has=true:=by rw[<-hx.1];simpa using hc0
 refine Na (Ga (Da (Aa (Ob Xe O) (Ja (v:=.agg (x.v.cells).toArray) (Xa (l:=x.v.cells) aZ mZ O O (hF.part 1 1 O O)) ?_))));refine Ak 1 hF (Eb (cs:=(x.v.cells).toArray) yZ mZ kX Ta Ta Ib) ?_;rintro b3 w hb3 hF -;refine Oa hF (ZD (some ⟨b3,0,none⟩) 1 1 _) (Ma OB O O) ?_;intro w hF;refine Wd hF mZ O O Nr ?_;rintro w hF -;refine Ca (Ab (Za (Ka (Sh O (l:=[J 5,I [],aQ,W b3 1 1]) O aZ mZ O (hF.cellsAll 1 O)) ?_)));have e:Te s=.node 5 [] [] [s.val]:=by unfold Te;rw[if_pos h0]
 rw[e];exact⟨_,O,Rep.tree_mk (ks:=[]) (xs:=[s.val]) ⟨by decide,by decide⟩ La (Rep.nil_slice 0 Ba none) ((hF.rowS 0 O (n:=1) (RepL.cons_mk (c2:=[]) (hF.rep hx.2.2.2.2) RepL.nil_mk) O Ba).weaken λb hb hl=>hb.elim .inl λe=>.inr (by rw[e];exact⟨hF.ge (i:=0) O,hF.lt (i:=0) O,_,_,hF.heap (i:=0) O⟩)),hF.same⟩
theorem FF(s:Sd)(x:Sv)(k:Int)(S:Nat->Prop)(w0:World)(hX:Rep S w0 (Od s) x.cells)(hs:SdOk s)(hG:Gl w0):Calls prog 39 #[.agg x.cells.toArray,J k] w0 (Pc λv w'=>v=.bool (Pm s k)/\Same [] w0 w'):=by
 have hx:=Cd hX;refine Ea func39 O ntmps39 Db (Lc _ _) ?_;have hF:=FR.start w0 [];refine Da (Je hF O ?_);rintro b1 w hb1 hF -;refine Aa (Jb O) (Qb (Aa (Ob Mi O) (Tb (O6 eZ O hF.F 0 O O) (Aa (Nh O) (Aa (Dc O) ?_)))));refine Rc (d:=8) O (λhg0=>?_) (λhg0=>?_);refine Ia (Ia (Ia (Ia (Ia (Ia (Ia (Ia (Ia (Ia (Ia (Ia (Ia (Aa (Yb O O) ?_)))))))))))));refine Aa (Jb O) (Ca ?_);refine Hc (v:=.bool true) O O ⟨congrArg Value.bool ?_,hF.same⟩;have h1:=hx.1;have h2:=hx.2.1;unfold Pm;simp_all;refine Aa (Ob Xe O) (Ja (v:=.agg (x.v.cells).toArray) (Xa (l:=x.v.cells) aZ mZ O O (hF.part 0 1 O O)) ?_);refine Oa hF (E0 s.val hs.sz _ _ x.v.cells (hF.rep hx.2.2.2.2) hs.ok (hG.ext hF.same)) (Ma LJ O O) ?_;intro w hF;refine Aa (Dc O) (Rc (d:=12) O (λhg1=>?_) (λhg1=>?_));refine Aa (Gb O) (Aa (Om O O) (Aa (Dc O) ?_));refine Wb (d:=15) O (λhg2=>?_) (λhg2=>?_);refine Ia (Ia (Ia (Ia (Aa (Yb O O) (Aa (Yb O O) (Aa (Bc O O) (Aa (Jb O) (Ca ?_))))))));refine Hc (v:=.bool true) O O ⟨congrArg Value.bool ?_,hF.same⟩;have h1:=hx.1;have h2:=hx.2.1;unfold Pm;simp_all;refine Aa (Ob Xe O) (Aa (Ob Se O) (Tb (Yi dZ O hF.F 0 O O) (Aa (Yh O O) (Aa (Bc O O) (Aa (Yb O O) (Aa (Bc O O) (Aa (Jb O) (Ca ?_))))))));refine Hc (v:=.bool _) O O ⟨congrArg Value.bool ?_,hF.same⟩;have h1:=hx.1;have h2:=hx.2.1;unfold Pm;simp_all;refine Ia (Ia (Ia (Ia (Ia (Ia (Ia (Ia (Aa (Bc O O) (Aa (Bc O O) (Aa (Jb O) (Ca ?_)))))))))));refine Hc (v:=.bool false) O O ⟨congrArg Value.bool ?_,hF.same⟩;have h1:=hx.1;have h2:=hx.2.1;unfold Pm;simp_all
theorem QT(c:Cf)(q:Cv)(S:Nat->Prop)(w0:World)(hq:CvOf S w0 c q)(hk:CfOk c)(hG:Gl w0):Calls prog 26 #[.agg q.cells.toArray] w0 (Pc λv w'=>v=.bool (Qq c)/\Same [] w0 w'):=by
 refine Ea func26 O ntmps26 Db (Rb _) ?_;have hF:=FR.start w0 [];refine Da (Je hF O ?_);rintro b1 w hb1 hF -;refine Aa (Jb O) (Ca (Fa (Da (Aa (Ob Lw O) (Ja (v:=.agg (q.x.cells).toArray) (Xa (l:=q.x.cells) bZ nZ O O (hF.part 0 2 O O)) (Aa (Ob Hx O) (Ja (v:=.agg (q.y.cells).toArray) (Xa (l:=q.y.cells) bZ nZ O O (hF.part 0 7 O O)) (Aa (Ob Pw O) (Ja (v:=.agg (q.z.cells).toArray) (Xa (l:=q.z.cells) bZ nZ O O (hF.part 0 12 O O)) ?_)))))))));refine Ak 3 hF (Eb (cs:=((th q.x q.y q.z)).toArray) underlying92 nZ lX Ta Ta Ib) ?_;rintro b2 w hb2 hF -;have hrow:Rep (λx=>S x\/x=b2) _ (.slice ([c.b,c.l,c.r].map Od)) _:=hF.rowS 0 rfl (n:=3) (RepL.cons_mk (hF.rep hq.x) (RepL.cons_mk (hF.rep hq.y) (RepL.cons_mk (c2:=[]) (hF.rep hq.z) RepL.nil_mk))) rfl Ba;refine Aa (Ug underlying92 O) (Aa (Gb O) (Ca (Va ?_)));refine Sc (λμ σ w=>∃(j:Nat),μ=3-j/\(j<=3)/\(Rep (λx=>S x\/x=b2) w (.slice ([c.b,c.l,c.r].map Od)) [W b2 3 3])/\(([c.b,c.l,c.r].take j).all (λs=>Pm s c.cls)=true)/\AllEq σ [(1,V b1),(11,W b2 3 3),(12,J 3),(13,J ((j:Int)))]/\FR w0 [] [(b2,.cells ((th q.x q.y q.z)).toArray 27),(b1,.cells #[.slice q.A q.n q.c,J (q.k),.bool (q.x.h),J (q.x.v.k),I (q.x.v.t),.slice q.x.v.A q.x.v.n q.x.v.c,.slice q.x.v.B q.x.v.m q.x.v.e,.bool (q.y.h),J (q.y.v.k),I (q.y.v.t),.slice q.y.v.A q.y.v.n q.y.v.c,.slice q.y.v.B q.y.v.m q.y.v.e,.bool (q.z.h),J (q.z.v.k),I (q.z.v.t),.slice q.z.v.A q.z.v.n q.z.v.c,.slice q.z.v.B q.z.v.m q.z.v.e] 29)] w) _ ⟨0,O,Ba,(hrow),(O),Lr,hF⟩ ?_;rintro μ σ w ⟨j,rfl,hj,hrow,ha,hs,hF⟩;refine Cg.slots hs ?_;clear hs;intro σ;refine Da (Aa (Vl O O) (Ca (Fa ?_)));refine Pb O O (λhc0=>?_) (λhc0=>?_);refine Na (Ga (Fa (Va (Fa ?_))));have hj3:j<[c.b,c.l,c.r].length:=by simp only[kQ,List.length_nil];omega
 obtain⟨ad,s,hAs,hks,hes⟩:=hrow.sd_elem (i:=j) hj3;obtain⟨sd,hsd⟩:∃sd,sd=[c.b,c.l,c.r][j]:=⟨_,rfl⟩;rw[<-hsd]at hes;have hsok:SdOk sd:=hsd▸hk.all _ (eQ _);have hqk:=hq.k;refine Ha (Ja (v:=.pointer (some (ad.add (j*5)))) (Sa (i:=(j:Int)) HZ O hAs O Ba Ba) (Ja (v:=.agg (s.cells).toArray) (Xa (l:=s.cells) bZ nZ O O hks) ?_));refine Ye hF lX nZ O ?_;intro b3 w hb3 hF hE;have hrow:=hrow.ext hE;have hes:=hes.ext hE;refine Qb (Tb (Ie bZ nZ O hF.F 0 O O) (Aa (Ob Sl O) (Tb (Yi dZ O hF.F 2 O O) ?_)));refine Ya (FF sd s q.k _ _ hes hsok (hG.ext hF.same)) (Ra CT O O O) ?_;rintro _ w ⟨rfl,hE⟩;have hF:=hF.ext hE;have hrow:=hrow.ext hE;have hes:=hes.ext hE;refine Aa (Nh O) (Ca ?_);refine Ge O O (λhc1=>?_) (λhc1=>?_);refine Da (Aa (Jb O) (Ca ?_));refine Hc (v:=.bool false) O O ⟨congrArg Value.bool ?_,hF.same⟩;have hbad:Pm sd c.cls=false:=by rw[<-hqk];simpa using hc1
 have hm:sd∈[c.b,c.l,c.r]:=hsd▸eQ _;unfold Qq;simp only[oQ,List.not_mem_nil,or_false]at hm;rcases hm with e|e|e <;> (rw[e]at hbad;simp[hbad])
 refine Na (Cb (Ga (Ha (Aa (Bo (((j+1:Nat):Int)) O O) (Aa (Gb O) (Ua ?_))))));have hgood:Pm sd c.cls=true:=by rw[<-hqk];simpa using hc1
 refine Xb ⟨_,?_,j+1,O,Ba,(hrow),(by rw[iQ hj3,List.all_append,ha,<-hsd];simp[hgood]),Lr,hF.drop 1⟩;omega;refine Kc (Ec O ?_);refine Ga (Fa ?_);obtain rfl:j=3:=by omega
 have hqk:=hq.k;have ea:Qq c=(decide (1<=c.cls)&&decide (c.cls<=6)):=by simp only[List.take,List.all_cons,List.all_nil,Bool.and_true,Bool.and_eq_true]at ha;unfold Qq;rw[ha.1,ha.2.1,ha.2.2];simp
 refine Ha (Aa (Ob Sl O) (Tb (Yi dZ O hF.F 1 O O) (Aa (E6 O O) (Aa (Dc O) ?_))));refine Wb (d:=26) O (λhg0=>?_) (λhg0=>?_);refine Aa (Ob Sl O) (Tb (Yi dZ O hF.F 1 O O) (Aa (QV O O) (Aa (Yb O O) (Aa (Jb O) (Ca ?_)))));refine Hc (v:=.bool _) O O ⟨congrArg Value.bool ?_,hF.same⟩;rw[ea,<-hqk]
 ·first|(simp_all;done)|(simp_all;omega)
 refine Ia (Ia (Ia (Aa (Bc O O) (Aa (Jb O) (Ca ?_)))));refine Hc (v:=.bool false) O O ⟨congrArg Value.bool ?_,hF.same⟩;rw[ea,<-hqk]
 ·first|(simp_all;done)|(simp_all;omega)
theorem ZX(y:Tree)(x:Tv)(S:Nat->Prop)(w0:World)(hX:Rep S w0 (Hb y) x.cells)(hn:x.n+x.m<=1000000000000):Calls prog 61 #[.agg x.cells.toArray] w0 (Pc λv w'=>v=.bool (Lv y)/\Same [] w0 w'):=by
 refine Ea func61 O ntmps61 Db (Rb _) ?_;have hF:=FR.start w0 [];refine Da (Je hF O ?_);rintro b1 w hb1 hF -;refine Aa (Jb O) (Qb (Aa (Ob Se O) (Tb (Yi dZ O hF.F 0 O O) (Aa (Yh O O) (Aa (Dc O) ?_)))));refine Wb (d:=6) O (λhg0=>?_) (λhg0=>?_)
 ·
  refine Aa (Ob Oe O) (Tb (Rm iZ O hF.F 0 O O) (Aa (M4 O O) (Aa (Yb O O) (Aa (Dc O) ?_))));refine Wb (d:=11) O (λhg1=>?_) (λhg1=>?_)
  ·
   refine Aa (Ob Zd O) (Tb (Ef yQ O hF.F 0 O O) (Aa (Ug xZ O) (Aa (Ob Ub O) (Tb (Ef zQ O hF.F 0 O O) (Aa (Ug yZ O) (Aa (Ql O O) (Aa (Yh O O) (Aa (Yb O O) (Aa (Jb O) (Ca ?_))))))))));refine Hc (v:=.bool _) O O ⟨congrArg Value.bool ?_,hF.same⟩;unfold Lv;obtain⟨h1,h2,h3,h4,-,-⟩:=Ui hX;have e1:(y.keys=[])↔x.n=0:=by rw[h3];exact List.length_eq_zero_iff.symm
   have e2:(y.items=[])↔x.m=0:=by rw[h4];exact List.length_eq_zero_iff.symm
   simp_all
   all_goals first|done|(rw[Bool.eq_iff_iff];simp only[Bool.and_eq_true,decide_eq_true_eq,<-List.length_eq_zero_iff];omega)
  refine Ia (Ia (Ia (Ia (Ia (Ia (Ia (Ia (Aa (Bc O O) (Aa (Jb O) (Ca ?_))))))))));refine Hc (v:=.bool false) O O ⟨congrArg Value.bool ?_,hF.same⟩;unfold Lv;obtain⟨h1,h2,h3,h4,-,-⟩:=Ui hX;have e1:(y.keys=[])↔x.n=0:=by rw[h3];exact List.length_eq_zero_iff.symm
  have e2:(y.items=[])↔x.m=0:=by rw[h4];exact List.length_eq_zero_iff.symm
  simp_all
  all_goals first|done|(rw[Bool.eq_iff_iff];simp only[Bool.and_eq_true,decide_eq_true_eq,<-List.length_eq_zero_iff];omega)
 refine Ia (Ia (Ia (Aa (Bc O O) (Aa (Dc O) (Ia (Ia (Ia (Ia (Ia (Ia (Ia (Ia (Aa (Bc O O) ?_)))))))))))));refine Aa (Jb O) (Ca ?_);refine Hc (v:=.bool false) O O ⟨congrArg Value.bool ?_,hF.same⟩;unfold Lv;obtain⟨h1,h2,h3,h4,-,-⟩:=Ui hX;have e1:(y.keys=[])↔x.n=0:=by rw[h3];exact List.length_eq_zero_iff.symm
 have e2:(y.items=[])↔x.m=0:=by rw[h4];exact List.length_eq_zero_iff.symm
 simp_all
 all_goals first|done|(rw[Bool.eq_iff_iff];simp only[Bool.and_eq_true,decide_eq_true_eq,<-List.length_eq_zero_iff];omega)
end Go.Scarf
