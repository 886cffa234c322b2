/- A part of the proof. -/
import Derived.Test.YtgkmigdopohcnaaGreatDoorM13
set_option linter.all false
set_option maxHeartbeats 8000000
set_option maxRecDepth 10000
namespace Go.Scarf
open Go.RowKit Go.Proofs Go.Proofs.Tryz
def LD(m:Mm):D:=.agg [Cn m.pr,Ve m.sd]
theorem EH(m:Mm):Ud (LD m)=6:=by simp only[LD,Ud,Ud.sizeL,Dx,Cn]
def Mh(t:List Mm):D:=.slice (t.map LD)
abbrev Ct(p:Str)(x:Sv):List Value:=[I p,.bool x.h,J x.v.k,I x.v.t,.slice x.v.A x.v.n x.v.c,.slice x.v.B x.v.m x.v.e]
section
variable {S:Nat->Prop}{w:World}
theorem F4{m:Mm}{cs:List Value}(h:Rep S w (LD m) cs):∃x:Sv,cs=Ct m.pr x/\Rep S w (Ve m.sd) x.cells/\m.pr.length<=9223372036854775807:=by
  unfold LD at h;rw[Rep]at h;obtain⟨c1,d1,rfl,h1,h⟩:=RepL.cons_inv h;obtain⟨c2,d2,rfl,h2,h⟩:=RepL.cons_inv h;obtain rfl:=RepL.nil_inv h;unfold Cn at h1;rw[Rep]at h1;obtain⟨rfl,hl⟩:=h1;obtain⟨x,rfl,-⟩:=Sz h2;exact⟨x,by simp[Ct],h2,hl⟩
theorem CN{m:Mm}{x:Sv}(h:Rep S w (Ve m.sd) x.cells)(hl:m.pr.length<=9223372036854775807):Rep S w (LD m) (Ct m.pr x):=by
  unfold LD;rw[Rep];have h1:Rep S w (Cn m.pr) [I m.pr]:=Rep.lit_mk (v:=I m.pr) hl;exact RepL.cons_mk h1 (RepL.cons_mk (c2:=[]) h RepL.nil_mk)
theorem Rep.mm_elem{l:List Mm}{A:Option Addr}{len c:Nat}(h:Rep S w (Mh l) [.slice A len c]){i:Nat}(hi:i<l.length) :
    ∃(ad:Addr)(x:Sv),A=some ad/\(∀j (hj:j<(Ct l[i].pr x).length),w.cell? ((ad.add (i*6)).add j)=some (Ct l[i].pr x)[j])/\Rep S w (Ve l[i].sd) x.cells/\l[i].pr.length<=9223372036854775807:=by
  obtain⟨ad,cs,hA,hl,hc,hr⟩:=Rep.elem (sz:=6) h (λd hd=>by obtain⟨k,_,rfl⟩:=nQ.1 hd;exact EH k) (i:=i) (by simpa using hi);rw[List.getElem_map]at hr;obtain⟨x,rfl,hx,hp⟩:=F4 hr;exact⟨ad,x,hA,hc,hx,hp⟩
end
theorem So{s:Sd}(h:SdOk s):Vp (Gd s)/\Qb (Gd s)<=1+Qb s.val:=by
  unfold Gd;split
  ·refine⟨?_, by simp only[Qb, Dc];omega⟩
   have:=h.ok;simp[Vp,N5,this]
  exact⟨by simp[Vp,N5],by simp only[Qb,Dc];omega⟩
theorem XG(A:Option Addr)(n c:Nat)(w0:World):Calls prog 31 #[.slice A n c] w0 (Dd λv w'=>v=.agg #[J 5,I [],aQ,.slice A n c]/\Same [] w0 w'):=by
 refine Ia func31 O ntmps31 Eb (Yb _) ?_;have hF:=FR.start w0 [];refine Ea (Wc (cs:=#[J 0,I [],aQ,aQ]) hF lX O ?_);rintro b1 w hb1 hF -;refine Rb (Ba (Sf O) ?_);refine Ka (w':=w) (v:=.agg #[J 5,I [],aQ,.slice A n c]) Ub (Ie hF nZ O O Zg ?_);rintro w hF -;refine Da (Va (Ua (Ja (Vi O (l:=[J 5,I [],aQ,.slice A n c]) O aZ nZ O (hF.cellsAll 0 O)) ?_)));exact⟨O,hF.same⟩
theorem Yv(s:Sd)(x:Sv)(S:Nat->Prop)(w0:World)(hX:Rep S w0 (Ve s) x.cells):Calls prog 27 #[.agg x.cells.toArray] w0 (Dd λv w'=>∃ct:List Value,v=.agg ct.toArray/\Rep (λb=>S b\/Btw w0 w' b) w' (Pb (Gd s)) ct/\Same [] w0 w'):=by
 have hx:=Se hX;refine Ia func27 O ntmps27 Eb (Yb _) ?_;have hF:=FR.start w0 [];refine Ea (Oe hF O ?_);rintro b1 w hb1 hF -;refine Wc (cs:=#[J 0,I [],aQ,aQ]) hF lX O ?_;rintro b2 w hb2 hF -;refine Da (Ga (Ea (Ba (Ob Qh O) (Zb (N3 fZ O hF.F 1 O O) (Ba (Si O) (Da ?_))))));refine Le O O (λhc0=>?_) (λhc0=>?_);have h0:s.has=false:=by rw[<-hx.1];simpa using hc0
 refine Ea (Oa hF (XG none 0 0 _) (Na VG O O) ?_);intro w hF;refine Ie hF nZ O O Zg ?_;rintro w hF -;refine Da (Va (Ua (Ja (Vi O (l:=[J 5,I [],aQ,aQ]) O aZ nZ O (hF.cellsAll 0 O)) ?_)));have e:Gd s=.node 5 [] [] []:=by unfold Gd;rw[if_neg (by rw[h0];decide)]
 rw[e];exact⟨_,O,Rep.tree_mk (ks:=[]) (xs:=[]) ⟨by decide,by decide⟩ Ma (Rep.nil_slice 0 Aa none) (Rep.nil_slice 0 Aa none),hF.same⟩;have h0:s.has=true:=by rw[<-hx.1];simpa using hc0
 refine La (Fa (Ea (Ba (Ob Ag O) (Ka (v:=.agg (x.v.cells).toArray) (Wa (l:=x.v.cells) aZ nZ O O (hF.part 1 1 O O)) ?_))));refine Rl 1 hF (Nb (cs:=(x.v.cells).toArray) zZ nZ lX Ab Ab Ub) ?_;rintro b3 w hb3 hF -;refine Oa hF (XG (some ⟨b3,0,none⟩) 1 1 _) (Na VG O O) ?_;intro w hF;refine Ie hF nZ O O Js ?_;rintro w hF -;refine Da (Va (Ua (Ja (Vi O (l:=[J 5,I [],aQ,W b3 1 1]) O aZ nZ O (hF.cellsAll 1 O)) ?_)));have e:Gd s=.node 5 [] [] [s.val]:=by unfold Gd;rw[if_pos h0]
 rw[e];exact⟨_,O,Rep.tree_mk (ks:=[]) (xs:=[s.val]) ⟨by decide,by decide⟩ Ma (Rep.nil_slice 0 Aa none) ((hF.rowS 0 O (n:=1) (RepL.cons_mk (c2:=[]) (hF.rep hx.2.2.2.2) RepL.nil_mk) O Aa).weaken λb hb hl=>hb.elim .inl λe=>.inr (by rw[e];exact⟨hF.ge (i:=0) O,hF.lt (i:=0) O,_,_,hF.heap (i:=0) O⟩)),hF.same⟩
theorem AL(s:Sd)(x:Sv)(k:Int)(S:Nat->Prop)(w0:World)(hX:Rep S w0 (Ve s) x.cells)(hs:SdOk s)(hG:Gl w0):Calls prog 39 #[.agg x.cells.toArray,J k] w0 (Dd λv w'=>v=.bool (Tp s k)/\Same [] w0 w'):=by
 have hx:=Se hX;refine Ia func39 O ntmps39 Eb (Pc _ _) ?_;have hF:=FR.start w0 [];refine Ea (Oe hF O ?_);rintro b1 w hb1 hF -;refine Ba (Db O) (Rb (Ba (Ob Qh O) (Zb (N3 fZ O hF.F 0 O O) (Ba (Si O) (Ba (Vb O) ?_)))));refine Lc (d:=8) O (λhg0=>?_) (λhg0=>?_);refine Ca (Ca (Ca (Ca (Ca (Ca (Ca (Ca (Ca (Ca (Ca (Ca (Ca (Ba (Tb O O) ?_)))))))))))));refine Ba (Db O) (Da ?_);refine Gc (v:=.bool true) O O ⟨congrArg Value.bool ?_,hF.same⟩;have h1:=hx.1;have h2:=hx.2.1;unfold Tp;simp_all;refine Ba (Ob Ag O) (Ka (v:=.agg (x.v.cells).toArray) (Wa (l:=x.v.cells) aZ nZ O O (hF.part 0 1 O O)) ?_);refine Oa hF (O4 s.val hs.sz _ _ x.v.cells (hF.rep hx.2.2.2.2) hs.ok (hG.ext hF.same)) (Na XM O O) ?_;intro w hF;refine Ba (Vb O) (Lc (d:=12) O (λhg1=>?_) (λhg1=>?_));refine Ba (Za O) (Ba (Vk O O) (Ba (Vb O) ?_));refine Ya (d:=15) O (λhg2=>?_) (λhg2=>?_);refine Ca (Ca (Ca (Ca (Ba (Tb O O) (Ba (Tb O O) (Ba (Kb O O) (Ba (Db O) (Da ?_))))))));refine Gc (v:=.bool true) O O ⟨congrArg Value.bool ?_,hF.same⟩;have h1:=hx.1;have h2:=hx.2.1;unfold Tp;simp_all;refine Ba (Ob Ag O) (Ba (Ob Xd O) (Zb (Th eZ O hF.F 0 O O) (Ba (Qf O O) (Ba (Kb O O) (Ba (Tb O O) (Ba (Kb O O) (Ba (Db O) (Da ?_))))))));refine Gc (v:=.bool _) O O ⟨congrArg Value.bool ?_,hF.same⟩;have h1:=hx.1;have h2:=hx.2.1;unfold Tp;simp_all;refine Ca (Ca (Ca (Ca (Ca (Ca (Ca (Ca (Ba (Kb O O) (Ba (Kb O O) (Ba (Db O) (Da ?_)))))))))));refine Gc (v:=.bool false) O O ⟨congrArg Value.bool ?_,hF.same⟩;have h1:=hx.1;have h2:=hx.2.1;unfold Tp;simp_all
theorem MZ(c:Cf)(q:Cv)(S:Nat->Prop)(w0:World)(hq:CvOf S w0 c q)(hk:CfOk c)(hG:Gl w0):Calls prog 26 #[.agg q.cells.toArray] w0 (Dd λv w'=>v=.bool (Nm c)/\Same [] w0 w'):=by
 refine Ia func26 O ntmps26 Eb (Yb _) ?_;have hF:=FR.start w0 [];refine Ea (Oe hF O ?_);rintro b1 w hb1 hF -;refine Ba (Db O) (Da (Ga (Ea (Ba (Ob Dq O) (Ka (v:=.agg (q.x.cells).toArray) (Wa (l:=q.x.cells) cZ oZ O O (hF.part 0 2 O O)) (Ba (Ob Kn O) (Ka (v:=.agg (q.y.cells).toArray) (Wa (l:=q.y.cells) cZ oZ O O (hF.part 0 7 O O)) (Ba (Ob Hn O) (Ka (v:=.agg (q.z.cells).toArray) (Wa (l:=q.z.cells) cZ oZ O O (hF.part 0 12 O O)) ?_)))))))));refine Rl 3 hF (Nb (cs:=((th q.x q.y q.z)).toArray) underlying92 oZ mX Ab Ab Ub) ?_;rintro b2 w hb2 hF -;have hrow:Rep (λx=>S x\/x=b2) _ (.slice ([c.b,c.l,c.r].map Ve)) _:=hF.rowS 0 rfl (n:=3) (RepL.cons_mk (hF.rep hq.x) (RepL.cons_mk (hF.rep hq.y) (RepL.cons_mk (c2:=[]) (hF.rep hq.z) RepL.nil_mk))) rfl Aa;refine Ba (Ch underlying92 O) (Ba (Za O) (Da (Qa ?_)));refine Jc (λμ σ w=>∃(j:Nat),μ=3-j/\(j<=3)/\(Rep (λx=>S x\/x=b2) w (.slice ([c.b,c.l,c.r].map Ve)) [W b2 3 3])/\(([c.b,c.l,c.r].take j).all (λs=>Tp s c.cls)=true)/\AllEq σ [(1,V b1),(11,W b2 3 3),(12,J 3),(13,J ((j:Int)))]/\FR w0 [] [(b2,.cells ((th q.x q.y q.z)).toArray 27),(b1,.cells #[.slice q.A q.n q.c,J (q.k),.bool (q.x.h),J (q.x.v.k),I (q.x.v.t),.slice q.x.v.A q.x.v.n q.x.v.c,.slice q.x.v.B q.x.v.m q.x.v.e,.bool (q.y.h),J (q.y.v.k),I (q.y.v.t),.slice q.y.v.A q.y.v.n q.y.v.c,.slice q.y.v.B q.y.v.m q.y.v.e,.bool (q.z.h),J (q.z.v.k),I (q.z.v.t),.slice q.z.v.A q.z.v.n q.z.v.c,.slice q.z.v.B q.z.v.m q.z.v.e] 29)] w) _ ⟨0,O,Aa,(hrow),(O),Om,hF⟩ ?_;rintro μ σ w ⟨j,rfl,hj,hrow,ha,hs,hF⟩;refine Cg.slots hs ?_;clear hs;intro σ;refine Ea (Ba (Di O O) (Da (Ga ?_)));refine Ib O O (λhc0=>?_) (λhc0=>?_);refine La (Fa (Ga (Qa (Ga ?_))));have hj3:j<[c.b,c.l,c.r].length:=by simp only[kQ,List.length_nil];omega
 obtain⟨ad,s,hAs,hks,hes⟩:=hrow.sd_elem (i:=j) hj3;obtain⟨sd,hsd⟩:∃sd,sd=[c.b,c.l,c.r][j]:=⟨_,rfl⟩;rw[<-hsd]at hes;have hsok:SdOk sd:=hsd▸hk.all _ (eQ _);have hqk:=hq.k;refine Ha (Ka (v:=.pointer (some (ad.add (j*5)))) (Sa (i:=(j:Int)) sl_92 O hAs O Aa Aa) (Ka (v:=.agg (s.cells).toArray) (Wa (l:=s.cells) cZ oZ O O hks) ?_));refine Gg hF mX oZ O ?_;intro b3 w hb3 hF hE;have hrow:=hrow.ext hE;have hes:=hes.ext hE;refine Rb (Zb (Of cZ oZ O hF.F 0 O O) (Ba (Ob Lk O) (Zb (Th eZ O hF.F 2 O O) ?_)));refine Lb (AL sd s q.k _ _ hes hsok (hG.ext hF.same)) (Xa en_39 O O O) ?_;rintro _ w ⟨rfl,hE⟩;have hF:=hF.ext hE;have hrow:=hrow.ext hE;have hes:=hes.ext hE;refine Ba (Si O) (Da ?_);refine Le O O (λhc1=>?_) (λhc1=>?_);refine Ea (Ba (Db O) (Da ?_));refine Gc (v:=.bool false) O O ⟨congrArg Value.bool ?_,hF.same⟩;have hbad:Tp sd c.cls=false:=by rw[<-hqk];simpa using hc1
 have hm:sd∈[c.b,c.l,c.r]:=hsd▸eQ _;unfold Nm;simp only[oQ,List.not_mem_nil,or_false]at hm;rcases hm with e|e|e <;> (rw[e]at hbad;simp[hbad])
 refine La (Bb (Fa (Ha (Ba (Ek (((j+1:Nat):Int)) O O) (Ba (Za O) (Ta ?_))))));have hgood:Tp sd c.cls=true:=by rw[<-hqk];simpa using hc1
 refine Hb ⟨_,?_,j+1,O,Aa,(hrow),(by rw[iQ hj3,List.all_append,ha,<-hsd];simp[hgood]),Om,hF.drop 1⟩;omega;refine Ec (Ac O ?_);refine Fa (Ga ?_);obtain rfl:j=3:=by omega
 have hqk:=hq.k;have ea:Nm c=(decide (1<=c.cls)&&decide (c.cls<=6)):=by simp only[List.take,List.all_cons,List.all_nil,Bool.and_true,Bool.and_eq_true]at ha;unfold Nm;rw[ha.1,ha.2.1,ha.2.2];simp
 refine Ha (Ba (Ob Lk O) (Zb (Th eZ O hF.F 1 O O) (Ba (Nw O O) (Ba (Vb O) ?_))));refine Ya (d:=26) O (λhg0=>?_) (λhg0=>?_);refine Ba (Ob Lk O) (Zb (Th eZ O hF.F 1 O O) (Ba (XC O O) (Ba (Tb O O) (Ba (Db O) (Da ?_)))));refine Gc (v:=.bool _) O O ⟨congrArg Value.bool ?_,hF.same⟩;rw[ea,<-hqk]
 ·first|(simp_all;done)|(simp_all;omega)
 refine Ca (Ca (Ca (Ba (Kb O O) (Ba (Db O) (Da ?_)))));refine Gc (v:=.bool false) O O ⟨congrArg Value.bool ?_,hF.same⟩;rw[ea,<-hqk]
 ·first|(simp_all;done)|(simp_all;omega)
theorem zeroB_c(y:Tree)(x:Tv)(S:Nat->Prop)(w0:World)(hX:Rep S w0 (Pb y) x.cells)(hn:x.n+x.m<=1000000000000):Calls prog 61 #[.agg x.cells.toArray] w0 (Dd λv w'=>v=.bool (G3 y)/\Same [] w0 w'):=by
 refine Ia func61 O ntmps61 Eb (Yb _) ?_;have hF:=FR.start w0 [];refine Ea (Oe hF O ?_);rintro b1 w hb1 hF -;refine Ba (Db O) (Rb (Ba (Ob Xd O) (Zb (Th eZ O hF.F 0 O O) (Ba (Qf O O) (Ba (Vb O) ?_)))));refine Ya (d:=6) O (λhg0=>?_) (λhg0=>?_)
 ·
  refine Ba (Ob Wd O) (Zb (Pk jZ O hF.F 0 O O) (Ba (Rw O O) (Ba (Tb O O) (Ba (Vb O) ?_))));refine Ya (d:=11) O (λhg1=>?_) (λhg1=>?_)
  ·
   refine Ba (Ob Td O) (Zb (Xe yQ O hF.F 0 O O) (Ba (Ch yZ O) (Ba (Ob Xb O) (Zb (Xe zQ O hF.F 0 O O) (Ba (Ch zZ O) (Ba (Nl O O) (Ba (Qf O O) (Ba (Tb O O) (Ba (Db O) (Da ?_))))))))));refine Gc (v:=.bool _) O O ⟨congrArg Value.bool ?_,hF.same⟩;unfold G3;obtain⟨h1,h2,h3,h4,-,-⟩:=Ck hX;have e1:(y.keys=[])↔x.n=0:=by rw[h3];exact List.length_eq_zero_iff.symm
   have e2:(y.items=[])↔x.m=0:=by rw[h4];exact List.length_eq_zero_iff.symm
   simp_all
   all_goals first|done|(rw[Bool.eq_iff_iff];simp only[Bool.and_eq_true,decide_eq_true_eq,<-List.length_eq_zero_iff];omega)
  refine Ca (Ca (Ca (Ca (Ca (Ca (Ca (Ca (Ba (Kb O O) (Ba (Db O) (Da ?_))))))))));refine Gc (v:=.bool false) O O ⟨congrArg Value.bool ?_,hF.same⟩;unfold G3;obtain⟨h1,h2,h3,h4,-,-⟩:=Ck hX;have e1:(y.keys=[])↔x.n=0:=by rw[h3];exact List.length_eq_zero_iff.symm
  have e2:(y.items=[])↔x.m=0:=by rw[h4];exact List.length_eq_zero_iff.symm
  simp_all
  all_goals first|done|(rw[Bool.eq_iff_iff];simp only[Bool.and_eq_true,decide_eq_true_eq,<-List.length_eq_zero_iff];omega)
 refine Ca (Ca (Ca (Ba (Kb O O) (Ba (Vb O) (Ca (Ca (Ca (Ca (Ca (Ca (Ca (Ca (Ba (Kb O O) ?_)))))))))))));refine Ba (Db O) (Da ?_);refine Gc (v:=.bool false) O O ⟨congrArg Value.bool ?_,hF.same⟩;unfold G3;obtain⟨h1,h2,h3,h4,-,-⟩:=Ck hX;have e1:(y.keys=[])↔x.n=0:=by rw[h3];exact List.length_eq_zero_iff.symm
 have e2:(y.items=[])↔x.m=0:=by rw[h4];exact List.length_eq_zero_iff.symm
 simp_all
 all_goals first|done|(rw[Bool.eq_iff_iff];simp only[Bool.and_eq_true,decide_eq_true_eq,<-List.length_eq_zero_iff];omega)
end Go.Scarf
