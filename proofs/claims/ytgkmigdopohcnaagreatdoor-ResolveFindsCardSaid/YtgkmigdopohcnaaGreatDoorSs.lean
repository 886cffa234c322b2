/- A part of the proof. -/
import Derived.Test.YtgkmigdopohcnaaGreatDoorRe12
set_option linter.all false
set_option maxHeartbeats 8000000
set_option maxRecDepth 10000
namespace Go.Scarf
open Go.RowKit Go.Proofs Go.Proofs.Tryz
abbrev FZ(i:UInt8):Tree:=.node 3 [i] [] []
def cS:Cf:=⟨[[97]],3,⟨true,FZ 49⟩,⟨true,FZ 50⟩,noS⟩
def s9:Sd:=⟨true,FZ 57⟩
def pS:Str:=[91,51,44,91,49,93,44,91,93,44,91,50,93,93]
def tS:List Mm:=[⟨pS,s9⟩]
def aS:Str:=[91,91,34,91,51,44,91,49,93,44,91,93,44,91,50,93,93,34,44,91,57,93,93,93]
def hmT:Tree:=.node 6 [] [[97]] [UA 0]
def K8:Tree:=.node 6 [] [[97]] [FZ 57]
theorem ND:Mf cS=(pS,true):=by kernel_rfl
theorem TL:Jd [] cS s9=(tS,0):=by kernel_rfl
theorem E1:Zf tS cS=(s9,true):=by kernel_rfl
theorem R_:(Zf [] cS).2=false:=by kernel_rfl
theorem Ox:Th (Zf tS cS).1=s9:=by kernel_rfl
theorem XG:Vt tS=(aS,0):=by kernel_rfl
theorem UH:Jw aS=(tS,true):=by kernel_rfl
theorem SD:Df tS=true:=by kernel_rfl
theorem L9:Df []=true:=by kernel_rfl
theorem DD:(Dj hmT [cS] [0]).2=0:=by kernel_rfl
theorem KO:Dj hmT [Sx 3 s9] [0]=(K8,0):=by kernel_rfl
theorem Lx:CfS cS:=⟨⟨.inr ⟨rfl,by kernel_rfl⟩,.inr ⟨rfl,by kernel_rfl⟩,.inl rfl,λh=>absurd h Ta,by decide,by decide⟩,by decide,by decide,by decide⟩
theorem Dy:Mb noS.val<=256/\Id noS.val<=16777216:=by
  have h:decide (Mb noS.val<=256/\Id noS.val<=16777216)=true:=by kernel_rfl
  exact of_decide_eq_true h
theorem JN:CfS (Sx 3 noS):=by
  refine⟨⟨.inl O,.inl O,.inl O,λh=>?_,?_,?_⟩,Dy,Dy,Dy⟩
  ·exact absurd h Ta
  ·decide
  decide
theorem ML:CfS (Sx 3 s9):=⟨⟨.inr ⟨rfl,by kernel_rfl⟩,.inl rfl,.inl rfl,λh=>absurd h Ta,by decide,by decide⟩,by decide,by decide,by decide⟩
theorem Lp:CfP cS:=⟨Lx.ok,by decide,by decide,by decide,by decide⟩
theorem Uv:Mb hmT<=512/\Id hmT<=16777216:=by
  have h:decide (Mb hmT<=512/\Id hmT<=16777216)=true:=by kernel_rfl
  exact of_decide_eq_true h
theorem H6:HolIn 1 hmT:=λt ht=>⟨0,by omega,by omega,by simpa[hmT,Pf,Gh,UA]using ht⟩
theorem JD:SdOk s9:=⟨by decide,by simp[s9,Co,Iz]⟩
theorem Rx:∀m∈tS,MmOk m:=λm hm=>by
  rw[pQ.1 hm];exact⟨JD,by decide,by decide⟩
theorem K0:MmsP tS:=⟨Rx,by decide,by
  have h:decide (Mb (Cr tS)<=1000000000)=true:=by kernel_rfl
  exact of_decide_eq_true h,by
  have h:decide (Id (Cr tS)<=1073741824)=true:=by kernel_rfl
  exact of_decide_eq_true h⟩
theorem ZS:(92:UInt8)∉aS:=by decide
theorem QS:aS.length<=65536:=by decide
theorem YM:(Yd aS).2.2=0:=by kernel_rfl
theorem GD:Xy (Qz aS):=λt ht=>by
  have h:((Qz aS).rest.all λt=>decide (t.k≠2))=true:=by kernel_rfl
  exact of_decide_eq_true (List.all_eq_true.1 h t ht)
theorem JV:(Ue aS).2.2=0->0<(Ue aS).1.length:=λ_=>by
  have h:decide (0<(Ue aS).1.length)=true:=by kernel_rfl
  exact of_decide_eq_true h
theorem QO:Jz (De aS).1=tS:=by kernel_rfl
theorem Xp{P:Program}{ρ:Operand->Value}{o:Oper}{w w':World}{b c:Bool}(h:(execOp ρ o).run P w=.ok (.value (.bool b)) w')(hb:b=c):(execOp ρ o).run P w=.ok (.value (.bool c)) w':=by rw[h,hb]
theorem GH(x:Tv)(w0:World):Calls prog 20 #[.agg (x.cells).toArray] w0 (Pc λv w'=>v=.agg #[.bool true,J (x.k),I (x.t),.slice x.A x.n x.c,.slice x.B x.m x.e]/\Same [] w0 w'):=by
 refine Ea func20 O ntmps20 Db (Rb _) ?_;have hF:=FR.start w0 [];refine Da (Le hF O ?_);rintro b1 w hb1 hF -;refine Jc (cs:=#[.bool false,J 0,I [],aQ,aQ]) hF lX O ?_;rintro b2 w hb2 hF -;refine Qb (Tb (He aZ mZ O hF.F 1 O O) ?_);refine Ja (w':=w) (v:=.agg #[.bool true,J (x.k),I (x.t),.slice x.A x.n x.c,.slice x.B x.m x.e]) Ib (Xd hF nZ O O Qg ?_);rintro w hF -;refine Ca (Ab (Za (Ka (Uh O (l:=[.bool true,J (x.k),I (x.t),.slice x.A x.n x.c,.slice x.B x.m x.e]) O bZ nZ O (hF.cellsAll 0 O)) ?_)));exact⟨O,hF.same⟩
theorem Yp(s:Sd)(x y:Sv)(S S2:Nat->Prop)(w0:World)(hX:Rep S w0 (Od s) x.cells)(hY:Rep S2 w0 (Od s) y.cells):Calls prog 18 #[.agg (x.cells).toArray,.agg (y.cells).toArray] w0 (Pc λv w'=>v=.bool true/\Same [] w0 w'):=by
 refine Ea func18 O ntmps18 Db (Lc _ _) ?_;have hF:=FR.start w0 [];refine Da (Le hF O ?_);rintro b1 w hb1 hF -;refine Le hF O ?_;rintro b2 w hb2 hF -;refine Aa (Jb O) (Qb (Aa (Ob Ni O) (Tb (D6 eZ O hF.F 1 O O) (Aa (Ob Ni O) (Tb (D6 eZ O hF.F 0 O O) ?_)))));refine Ja (v:=.bool true) (Xp (P0 cX O O) (by rw[(Dd hX).1,(Dd hY).1];exact beq_self_eq_true _)) ?_;refine Aa (Dc O) (Aa (Ob Xe O) (Ja (v:=.agg (x.v.cells).toArray) (Xa (l:=x.v.cells) aZ mZ O O (hF.part 1 1 O O)) (Aa (Ob Xe O) (Ja (v:=.agg (y.v.cells).toArray) (Xa (l:=y.v.cells) aZ mZ O O (hF.part 0 1 O O)) ?_))));refine Oa hF (Ci (v':=.bool true) (Gv s.val s.val _ _ _ x.v.cells y.v.cells (hF.rep (Dd hX).2.2.2.2) (hF.rep (Dd hY).2.2.2.2)) (congrArg Value.bool (Fi _))) (Ra F5 O O O) ?_;intro w hF;refine Aa (Yb O O) (Aa (Jb O) (Ca ?_));refine Hc (v:=.bool true) O O ?_;exact⟨O,hF.same⟩
theorem XR(t:List Mm)(A B:Option Addr)(c e:Nat)(S S2:Nat->Prop)(w0:World)(hX:Rep S w0 (If t) [.slice A t.length c])(hY:Rep S2 w0 (If t) [.slice B t.length e]):Calls prog 24 #[.slice A t.length c,.slice B t.length e] w0 (Pc λv w'=>v=.bool true/\Same [] w0 w'):=by
 have hXl:=hX.slice_len;simp only[rQ]at hXl;have hYl:=hY.slice_len;simp only[rQ]at hYl;refine Ea func24 O ntmps24 Db (Lc _ _) ?_;have hF:=FR.start w0 [];refine Da (Aa (Jb O) (Ca (Fa (Da (Aa (Wd O) (Aa (Ug bX O) (Aa (Wd O) (Aa (Ug bX O) ?_))))))));refine Ja (v:=.bool false) (Yg (x_neq O O) La) (Ca (Kz O (Fa (Da (Aa (Lb O) (Ca (Va ?_)))))));refine Tc (λμ σ w=>∃(i:Nat),μ=t.length-i/\(i<=t.length)/\AllEq σ [(0,.slice A t.length c),(1,.slice B t.length e),(5,J ((i:Int)))]/\FR w0 [] [] w) _ ⟨0,O,(Nat.zero_le _),O_,hF⟩ ?_;rintro μ σ w ⟨i,rfl,hi,hs,hF⟩;refine Cg.slots hs ?_;clear hs;intro σ;refine Fa (Da (Aa (Gb O) (Aa (Wd O) (Aa (Ug bX O) (Aa (Sl O O) (Ca ?_))))));refine Pb O O (λhc1=>?_) (λhc1=>?_);have hil:i<t.length:=by omega
 refine Na (Ga (Fa (Va (Fa ?_))));refine Zc (zs:=.of []) (bQ [0,1,2,3,4,5,6,7,8,9] (.act 10 (.free 11 .nil))) hF ?_;intro w hF;refine Fb O (Wd O) (Fb O (Gb O) ?_);obtain⟨ad0,q0,hA0,hk0,hx0,hp0⟩:=hX.mm_elem (i:=i) (hil);refine Bb O (v:=.pointer (some (ad0.add (i*6)))) (λw hC=>Sa (i:=(i:Int)) Qi O hA0 O Ba Ba) (Bb O (v:=.pointer (some ((ad0.add (i*6)).add 1))) (λw hC=>Ed (a:=ad0.add (i*6)) Wj O) (Bb O (v:=.agg (q0.cells).toArray) (λw hC=>Xa (l:=q0.cells) bZ nZ O O (Cj (hC.cells0 hk0) 1 O)) (Fb O (Wd O) (Fb O (Gb O) ?_))));obtain⟨ad1,q1,hA1,hk1,hx1,hp1⟩:=hY.mm_elem (i:=i) (hil);refine Bb O (v:=.pointer (some (ad1.add (i*6)))) (λw hC=>Sa (i:=(i:Int)) Qi O hA1 O Ba Ba) (Bb O (v:=.pointer (some ((ad1.add (i*6)).add 1))) (λw hC=>Ed (a:=ad1.add (i*6)) Wj O) (Bb O (v:=.agg (q1.cells).toArray) (λw hC=>Xa (l:=q1.cells) bZ nZ O O (Cj (hC.cells0 hk1) 1 O)) ?_));refine Sc hF (Yp t[i].sd q0 q1 _ _ _ (hF.rep hx0) (hF.rep hx1)) O (Ra P5 O O O) ?_;intro w hF;refine⟨hF,?_⟩;refine Fb O (Jb O) (Ac (Ga (Fa ?_)));refine Zc (zs:=.of []) (bQ [0,1,2,3,4,5,6,7,8,9,10,11,12,13,14] .nil) hF ?_;intro w hF;refine Fb O (Wd O) (Fb O (Gb O) ?_);obtain⟨ad2,q2,hA2,hk2,hx2,hp2⟩:=hX.mm_elem (i:=i) (hil);refine Bb O (v:=.pointer (some (ad2.add (i*6)))) (λw hC=>Sa (i:=(i:Int)) Qi O hA2 O Ba Ba) (Bb O (v:=.pointer (some ((ad2.add (i*6)).add 0))) (λw hC=>Ed (a:=ad2.add (i*6)) Nm O) (Bb O (v:=I (t[i].pr)) (λw hC=>Ad iZ O (hC.cell0 (hk2 0 Db))) (Fb O (Wd O) (Fb O (Gb O) ?_))));obtain⟨ad3,q3,hA3,hk3,hx3,hp3⟩:=hY.mm_elem (i:=i) (hil);refine Bb O (v:=.pointer (some (ad3.add (i*6)))) (λw hC=>Sa (i:=(i:Int)) Qi O hA3 O Ba Ba) (Bb O (v:=.pointer (some ((ad3.add (i*6)).add 0))) (λw hC=>Ed (a:=ad3.add (i*6)) Nm O) (Bb O (v:=I (t[i].pr)) (λw hC=>Ad iZ O (hC.cell0 (hk3 0 Db))) ?_))
 refine Bb O (v:=.bool false) (λw hC=>Yg (ZU O O) La) (Fb O (Dc O) (Fb O (Dc O) (Fb O (Oh (b:=true) O) (Fb O (Bc O O) (Ac (Ga (We O (Na (Cb (Ga (Ha (Aa (Gb O) (Aa (Bo (((i+1:Nat):Int)) O O) (Aa (Lb O) ?_))))))))))))));refine Ua (Xb ⟨_,?_,i+1,O,Ba,O_,hF⟩);omega;refine Kc (Ec O ?_);refine Ga (Da (Aa (Jb O) (Ca ?_)));refine Hc (v:=.bool true) O O ?_;exact⟨O,hF.same⟩
theorem VJ(c:Cf)(q:Cv)(S:Nat->Prop)(w0:World)(hq:CvOf S w0 c q):Calls prog 7 #[.agg q.cells.toArray] w0 (Pc λv w'=>v=.bool (Ro c.b.val 100&&(Ro c.l.val 100&&Ro c.r.val 100))/\Same [] w0 w'):=by
 refine Ea func7 O ntmps7 Db (Rb _) ?_;have hF:=FR.start w0 [];refine Da (Le hF O ?_);rintro b1 w hb1 hF -;refine Aa (Jb O) (Qb (Aa (Ob Fv O) (Aa (Ob Xe O) (Ja (v:=.agg (q.x.v.cells).toArray) (Xa (l:=q.x.v.cells) aZ mZ O O (hF.part 0 3 O O)) ?_))));refine Oa hF (Y_ c.b.val 100 Ta Ta _ _ q.x.v.cells (hF.rep (Dd hq.x).2.2.2.2)) (Ra ZD O O O) ?_;intro w hF;refine Aa (Dc O) (Rc (d:=7) O (λhg0=>?_) (λhg0=>?_));refine Aa (Ob Qw O) (Aa (Ob Xe O) (Ja (v:=.agg (q.y.v.cells).toArray) (Xa (l:=q.y.v.cells) aZ mZ O O (hF.part 0 8 O O)) ?_));refine Oa hF (Y_ c.l.val 100 Ta Ta _ _ q.y.v.cells (hF.rep (Dd hq.y).2.2.2.2)) (Ra ZD O O O) ?_;intro w hF;refine Aa (Yb O O) (Aa (Dc O) ?_);refine Rc (d:=13) O (λhg1=>?_) (λhg1=>?_);refine Aa (Ob Kv O) (Aa (Ob Xe O) (Ja (v:=.agg (q.z.v.cells).toArray) (Xa (l:=q.z.v.cells) aZ mZ O O (hF.part 0 13 O O)) ?_));refine Oa hF (Y_ c.r.val 100 Ta Ta _ _ q.z.v.cells (hF.rep (Dd hq.z).2.2.2.2)) (Ra ZD O O O) ?_;intro w hF;refine Aa (Yb O O) (Aa (Jb O) (Ca ?_));refine Hc (v:=.bool _) O O ⟨?_,hF.same⟩;simp_all;refine Ia (Ia (Ia (Ia (Aa (Bc O O) (Aa (Jb O) (Ca ?_))))));refine Hc (v:=.bool false) O O ⟨?_,hF.same⟩;simp_all;refine Ia (Ia (Ia (Ia (Aa (Bc O O) (Aa (Dc O) (Ia (Ia (Ia (Ia (Aa (Bc O O) (Aa (Jb O) (Ca ?_))))))))))));refine Hc (v:=.bool false) O O ⟨?_,hF.same⟩;simp_all
end Go.Scarf
