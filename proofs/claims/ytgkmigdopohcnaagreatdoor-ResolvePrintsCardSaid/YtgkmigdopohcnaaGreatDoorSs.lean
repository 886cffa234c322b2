/- A part of the proof. -/
import Derived.Test.YtgkmigdopohcnaaGreatDoorRe12
set_option linter.all false
set_option maxHeartbeats 8000000
set_option maxRecDepth 10000
namespace Go.Scarf
open Go.RowKit Go.Proofs Go.Proofs.Tryz
abbrev nuS(i:UInt8):Tree:=.node 3 [i] [] []
def cS:Cf:=⟨[[97]],3,⟨true,nuS 49⟩,⟨true,nuS 50⟩,noS⟩
def s9:Sd:=⟨true,nuS 57⟩
def pS:Str:=[91,51,44,91,49,93,44,91,93,44,91,50,93,93]
def tS:List Mm:=[⟨pS,s9⟩]
def aS:Str:=[91,91,34,91,51,44,91,49,93,44,91,93,44,91,50,93,93,34,44,91,57,93,93,93]
def hmT:Tree:=.node 6 [] [[97]] [AH 0]
def WA:Tree:=.node 6 [] [[97]] [nuS 57]
theorem TE:Oi cS=(pS,true):=by kernel_rfl
theorem ZS:Ik [] cS s9=(tS,0):=by kernel_rfl
theorem V4:Zj tS cS=(s9,true):=by kernel_rfl
theorem LH:(Zj [] cS).2=false:=by kernel_rfl
theorem Y0:Mk (Zj tS cS).1=s9:=by kernel_rfl
theorem UL:Cx tS=(aS,0):=by kernel_rfl
theorem LL:K0 aS=(tS,true):=by kernel_rfl
theorem ME:Ej tS=true:=by kernel_rfl
theorem FC:Ej []=true:=by kernel_rfl
theorem TF:(Fk hmT [cS] [0]).2=0:=by kernel_rfl
theorem KT:Fk hmT [F2 3 s9] [0]=(WA,0):=by kernel_rfl
theorem F1:CfS cS:=⟨⟨.inr ⟨rfl,by kernel_rfl⟩,.inr ⟨rfl,by kernel_rfl⟩,.inl rfl,λh=>absurd h Ab,by decide,by decide⟩,by decide,by decide,by decide⟩
theorem E1:Qb noS.val<=256/\Be noS.val<=16777216:=by
  have h:decide (Qb noS.val<=256/\Be noS.val<=16777216)=true:=by kernel_rfl
  exact of_decide_eq_true h
theorem AQ:CfS (F2 3 noS):=by
  refine⟨⟨.inl O,.inl O,.inl O,λh=>?_,?_,?_⟩,E1,E1,E1⟩
  ·exact absurd h Ab
  ·decide
  decide
theorem RT:CfS (F2 3 s9):=⟨⟨.inr ⟨rfl,by kernel_rfl⟩,.inl rfl,.inl rfl,λh=>absurd h Ab,by decide,by decide⟩,by decide,by decide,by decide⟩
theorem Pr:CfP cS:=⟨F1.ok,by decide,by decide,by decide,by decide⟩
theorem Jy:Qb hmT<=512/\Be hmT<=16777216:=by
  have h:decide (Qb hmT<=512/\Be hmT<=16777216)=true:=by kernel_rfl
  exact of_decide_eq_true h
theorem G9:HolIn 1 hmT:=λt ht=>⟨0,by omega,by omega,by simpa[hmT,Ng,Bi,AH]using ht⟩
theorem FF:SdOk s9:=⟨by decide,by simp[s9,Vp,N5]⟩
theorem Y1:∀m∈tS,MmOk m:=λm hm=>by
  rw[pQ.1 hm];exact⟨FF,by decide,by decide⟩
theorem P6:MmsP tS:=⟨Y1,by decide,by
  have h:decide (Qb (Ft tS)<=1000000000)=true:=by kernel_rfl
  exact of_decide_eq_true h,by
  have h:decide (Be (Ft tS)<=1073741824)=true:=by kernel_rfl
  exact of_decide_eq_true h⟩
theorem NV:(92:UInt8)∉aS:=by decide
theorem small_al:aS.length<=65536:=by decide
theorem GQ:(Ue aS).2.2=0:=by kernel_rfl
theorem UD:H3 (Y3 aS):=λt ht=>by
  have h:((Y3 aS).rest.all λt=>decide (t.k≠2))=true:=by kernel_rfl
  exact of_decide_eq_true (List.all_eq_true.1 h t ht)
theorem WY:(Lf aS).2.2=0->0<(Lf aS).1.length:=λ_=>by
  have h:decide (0<(Lf aS).1.length)=true:=by kernel_rfl
  exact of_decide_eq_true h
theorem NT:Q3 (Ye aS).1=tS:=by kernel_rfl
theorem P1{P:Program}{ρ:Operand->Value}{o:Oper}{w w':World}{b c:Bool}(h:(execOp ρ o).run P w=.ok (.value (.bool b)) w')(hb:b=c):(execOp ρ o).run P w=.ok (.value (.bool c)) w':=by rw[h,hb]
theorem SI(x:Tv)(w0:World):Calls prog 20 #[.agg (x.cells).toArray] w0 (Dd λv w'=>v=.agg #[.bool true,J (x.k),I (x.t),.slice x.A x.n x.c,.slice x.B x.m x.e]/\Same [] w0 w'):=by
 refine Ia func20 O ntmps20 Eb (Yb _) ?_;have hF:=FR.start w0 [];refine Ea (Oe hF O ?_);rintro b1 w hb1 hF -;refine Wc (cs:=#[.bool false,J 0,I [],aQ,aQ]) hF mX O ?_;rintro b2 w hb2 hF -;refine Rb (Zb (Of aZ nZ O hF.F 1 O O) ?_);refine Ka (w':=w) (v:=.agg #[.bool true,J (x.k),I (x.t),.slice x.A x.n x.c,.slice x.B x.m x.e]) Ub (Ie hF oZ O O Zg ?_);rintro w hF -;refine Da (Va (Ua (Ja (Vi O (l:=[.bool true,J (x.k),I (x.t),.slice x.A x.n x.c,.slice x.B x.m x.e]) O cZ oZ O (hF.cellsAll 0 O)) ?_)));exact⟨O,hF.same⟩
theorem Yz(a b:Sd)(x y:Sv)(S S':Nat->Prop)(w0:World)(hX:Rep S w0 (Ve a) x.cells)(hY:Rep S' w0 (Ve b) y.cells)(ha:Qb a.val<=1000000000)(hb:Qb b.val<=1000000000)(hma:Be a.val<=1073741824)(hmb:Be b.val<=1073741824):Calls prog 9 #[.agg (x.cells).toArray,.agg (y.cells).toArray] w0 (Dd λv w'=>v=.bool (Rn a b)/\Same [] w0 w'):=by
 have hx:=Se hX;have hy:=Se hY;refine Ia func9 O ntmps9 Eb (Pc _ _) ?_;have hF:=FR.start w0 [];refine Ea (Oe hF O ?_);rintro b1 w hb1 hF -;refine Oe hF O ?_;rintro b2 w hb2 hF -;refine Ba (Db O) (Da (Ga (Ea (Ba (Ob Qh O) (Zb (N3 fZ O hF.F 1 O O) (Ba (Si O) (Ba (Vb O) ?_)))))));refine Lc (d:=8) O (λhg0=>?_) (λhg0=>?_);refine Ca (Ca (Ca (Ba (Tb O O) (Da (Ad O (Ea (Ba (Ob Qh O) (Zb (N3 fZ O hF.F 1 O O) (Ba (Ob Qh O) (Zb (N3 fZ O hF.F 0 O O) (Ka (v:=.bool ((x.h)==(y.h))) (AB dX O O) ?_)))))))))));refine Ba (Db O) (Da ?_);refine Gc (v:=.bool _) O O ⟨?_,hF.same⟩;rw[Rn,<-hx.1,<-hy.1]
 first|(cases h1:x.h <;> cases h2:y.h <;> simp_all)|(simp_all)
 refine Ba (Ob Qh O) (Zb (N3 fZ O hF.F 0 O O) (Ba (Si O) (Ba (Kb O O) (Da ?_))));refine Le O O (λhc0=>?_) (λhc0=>?_);refine Ea (Ba (Ob Qh O) (Zb (N3 fZ O hF.F 1 O O) (Ba (Ob Qh O) (Zb (N3 fZ O hF.F 0 O O) (Ka (v:=.bool ((x.h)==(y.h))) (AB dX O O) (Ba (Db O) (Da ?_)))))));refine Gc (v:=.bool _) O O ⟨?_,hF.same⟩;rw[Rn,<-hx.1,<-hy.1]
 first|(cases h1:x.h <;> cases h2:y.h <;> simp_all)|(simp_all)
 refine La (Fa (Ea (Ba (Ob Ag O) (Ka (v:=.agg (x.v.cells).toArray) (Wa (l:=x.v.cells) aZ nZ O O (hF.part 1 1 O O)) (Ba (Ob Ag O) (Ka (v:=.agg (y.v.cells).toArray) (Wa (l:=y.v.cells) aZ nZ O O (hF.part 0 1 O O)) ?_))))));refine Oa hF (KW a.val b.val ha hb hma hmb _ _ _ x.v.cells y.v.cells (hF.rep hx.2.2.2.2) (hF.rep hy.2.2.2.2)) (Xa en_32 O O O) ?_;intro w hF;refine Ba (Db O) (Da ?_);refine Gc (v:=.bool _) O O ⟨?_,hF.same⟩;rw[Rn,<-hx.1,<-hy.1]
 first|(cases h1:x.h <;> cases h2:y.h <;> simp_all)|(simp_all)
theorem TW(s:Sd)(x y:Sv)(S S2:Nat->Prop)(w0:World)(hX:Rep S w0 (Ve s) x.cells)(hY:Rep S2 w0 (Ve s) y.cells):Calls prog 18 #[.agg (x.cells).toArray,.agg (y.cells).toArray] w0 (Dd λv w'=>v=.bool true/\Same [] w0 w'):=by
 refine Ia func18 O ntmps18 Eb (Pc _ _) ?_;have hF:=FR.start w0 [];refine Ea (Oe hF O ?_);rintro b1 w hb1 hF -;refine Oe hF O ?_;rintro b2 w hb2 hF -;refine Ba (Db O) (Rb (Ba (Ob Qh O) (Zb (N3 fZ O hF.F 1 O O) (Ba (Ob Qh O) (Zb (N3 fZ O hF.F 0 O O) ?_)))));refine Ka (v:=.bool true) (P1 (AB dX O O) (by rw[(Se hX).1,(Se hY).1];exact beq_self_eq_true _)) ?_;refine Ba (Vb O) (Ba (Ob Ag O) (Ka (v:=.agg (x.v.cells).toArray) (Wa (l:=x.v.cells) aZ nZ O O (hF.part 1 1 O O)) (Ba (Ob Ag O) (Ka (v:=.agg (y.v.cells).toArray) (Wa (l:=y.v.cells) aZ nZ O O (hF.part 0 1 O O)) ?_))));refine Oa hF (Pl (v':=.bool true) (K4 s.val s.val _ _ _ x.v.cells y.v.cells (hF.rep (Se hX).2.2.2.2) (hF.rep (Se hY).2.2.2.2)) (congrArg Value.bool (Xj _))) (Xa NH O O O) ?_;intro w hF;refine Ba (Tb O O) (Ba (Db O) (Da ?_));refine Gc (v:=.bool true) O O ?_;exact⟨O,hF.same⟩
theorem same27_c(t:List Mm)(A B:Option Addr)(c e:Nat)(S S2:Nat->Prop)(w0:World)(hX:Rep S w0 (Mh t) [.slice A t.length c])(hY:Rep S2 w0 (Mh t) [.slice B t.length e]):Calls prog 24 #[.slice A t.length c,.slice B t.length e] w0 (Dd λv w'=>v=.bool true/\Same [] w0 w'):=by
 have hXl:=hX.slice_len;simp only[rQ]at hXl;have hYl:=hY.slice_len;simp only[rQ]at hYl;refine Ia func24 O ntmps24 Eb (Pc _ _) ?_;have hF:=FR.start w0 [];refine Ea (Ba (Db O) (Da (Ga (Ea (Ba (Sf O) (Ba (Ch cX O) (Ba (Sf O) (Ba (Ch cX O) ?_))))))));refine Ka (v:=.bool false) (Yf (x_neq O O) Ma) (Da (Sn O (Ga (Ea (Ba (Gb O) (Da (Qa ?_)))))));refine Jc (λμ σ w=>∃(i:Nat),μ=t.length-i/\(i<=t.length)/\AllEq σ [(0,.slice A t.length c),(1,.slice B t.length e),(5,J ((i:Int)))]/\FR w0 [] [] w) _ ⟨0,O,(Nat.zero_le _),Oq,hF⟩ ?_;rintro μ σ w ⟨i,rfl,hi,hs,hF⟩;refine Cg.slots hs ?_;clear hs;intro σ;refine Ga (Ea (Ba (Za O) (Ba (Sf O) (Ba (Ch cX O) (Ba (Di O O) (Da ?_))))));refine Ib O O (λhc1=>?_) (λhc1=>?_);have hil:i<t.length:=by omega
 refine La (Fa (Ga (Qa (Ga ?_))));refine Md (zs:=.of []) (bQ [0,1,2,3,4,5,6,7,8,9] (.act 10 (.free 11 .nil))) hF ?_;intro w hF;refine Jb O (Sf O) (Jb O (Za O) ?_);obtain⟨ad0,q0,hA0,hk0,hx0,hp0⟩:=hX.mm_elem (i:=i) (hil);refine Cb O (v:=.pointer (some (ad0.add (i*6)))) (λw hC=>Sa (i:=(i:Int)) Qm O hA0 O Aa Aa) (Cb O (v:=.pointer (some ((ad0.add (i*6)).add 1))) (λw hC=>Te (a:=ad0.add (i*6)) Hm O) (Cb O (v:=.agg (q0.cells).toArray) (λw hC=>Wa (l:=q0.cells) cZ oZ O O (Um (hC.cells0 hk0) 1 O)) (Jb O (Sf O) (Jb O (Za O) ?_))));obtain⟨ad1,q1,hA1,hk1,hx1,hp1⟩:=hY.mm_elem (i:=i) (hil);refine Cb O (v:=.pointer (some (ad1.add (i*6)))) (λw hC=>Sa (i:=(i:Int)) Qm O hA1 O Aa Aa) (Cb O (v:=.pointer (some ((ad1.add (i*6)).add 1))) (λw hC=>Te (a:=ad1.add (i*6)) Hm O) (Cb O (v:=.agg (q1.cells).toArray) (λw hC=>Wa (l:=q1.cells) cZ oZ O O (Um (hC.cells0 hk1) 1 O)) ?_));refine Ed hF (TW t[i].sd q0 q1 _ _ _ (hF.rep hx0) (hF.rep hx1)) O (Xa en_18 O O O) ?_;intro w hF;refine⟨hF,?_⟩;refine Jb O (Db O) (Hc (Fa (Ga ?_)));refine Md (zs:=.of []) (bQ [0,1,2,3,4,5,6,7,8,9,10,11,12,13,14] .nil) hF ?_;intro w hF;refine Jb O (Sf O) (Jb O (Za O) ?_);obtain⟨ad2,q2,hA2,hk2,hx2,hp2⟩:=hX.mm_elem (i:=i) (hil);refine Cb O (v:=.pointer (some (ad2.add (i*6)))) (λw hC=>Sa (i:=(i:Int)) Qm O hA2 O Aa Aa) (Cb O (v:=.pointer (some ((ad2.add (i*6)).add 0))) (λw hC=>Te (a:=ad2.add (i*6)) Gq O) (Cb O (v:=I (t[i].pr)) (λw hC=>Qd jZ O (hC.cell0 (hk2 0 Eb))) (Jb O (Sf O) (Jb O (Za O) ?_))));obtain⟨ad3,q3,hA3,hk3,hx3,hp3⟩:=hY.mm_elem (i:=i) (hil);refine Cb O (v:=.pointer (some (ad3.add (i*6)))) (λw hC=>Sa (i:=(i:Int)) Qm O hA3 O Aa Aa) (Cb O (v:=.pointer (some ((ad3.add (i*6)).add 0))) (λw hC=>Te (a:=ad3.add (i*6)) Gq O) (Cb O (v:=I (t[i].pr)) (λw hC=>Qd jZ O (hC.cell0 (hk3 0 Eb))) ?_))
 refine Cb O (v:=.bool false) (λw hC=>Yf (QK O O) Ma) (Jb O (Vb O) (Jb O (Vb O) (Jb O (Si (b:=true) O) (Jb O (Kb O O) (Hc (Fa (De O (La (Bb (Fa (Ha (Ba (Za O) (Ba (Ek (((i+1:Nat):Int)) O O) (Ba (Gb O) ?_))))))))))))));refine Ta (Hb ⟨_,?_,i+1,O,Aa,Oq,hF⟩);omega;refine Ec (Ac O ?_);refine Fa (Ea (Ba (Db O) (Da ?_)));refine Gc (v:=.bool true) O O ?_;exact⟨O,hF.same⟩
theorem OP(c:Cf)(q:Cv)(S:Nat->Prop)(w0:World)(hq:CvOf S w0 c q):Calls prog 7 #[.agg q.cells.toArray] w0 (Dd λv w'=>v=.bool (Z3 c.b.val 100&&(Z3 c.l.val 100&&Z3 c.r.val 100))/\Same [] w0 w'):=by
 refine Ia func7 O ntmps7 Eb (Yb _) ?_;have hF:=FR.start w0 [];refine Ea (Oe hF O ?_);rintro b1 w hb1 hF -;refine Ba (Db O) (Rb (Ba (Ob Dq O) (Ba (Ob Ag O) (Ka (v:=.agg (q.x.v.cells).toArray) (Wa (l:=q.x.v.cells) aZ nZ O O (hF.part 0 3 O O)) ?_))));refine Oa hF (CY c.b.val 100 Ab Ab _ _ q.x.v.cells (hF.rep (Se hq.x).2.2.2.2)) (Xa MW O O O) ?_;intro w hF;refine Ba (Vb O) (Lc (d:=7) O (λhg0=>?_) (λhg0=>?_));refine Ba (Ob Kn O) (Ba (Ob Ag O) (Ka (v:=.agg (q.y.v.cells).toArray) (Wa (l:=q.y.v.cells) aZ nZ O O (hF.part 0 8 O O)) ?_));refine Oa hF (CY c.l.val 100 Ab Ab _ _ q.y.v.cells (hF.rep (Se hq.y).2.2.2.2)) (Xa MW O O O) ?_;intro w hF;refine Ba (Tb O O) (Ba (Vb O) ?_);refine Lc (d:=13) O (λhg1=>?_) (λhg1=>?_);refine Ba (Ob Hn O) (Ba (Ob Ag O) (Ka (v:=.agg (q.z.v.cells).toArray) (Wa (l:=q.z.v.cells) aZ nZ O O (hF.part 0 13 O O)) ?_));refine Oa hF (CY c.r.val 100 Ab Ab _ _ q.z.v.cells (hF.rep (Se hq.z).2.2.2.2)) (Xa MW O O O) ?_;intro w hF;refine Ba (Tb O O) (Ba (Db O) (Da ?_));refine Gc (v:=.bool _) O O ⟨?_,hF.same⟩;simp_all;refine Ca (Ca (Ca (Ca (Ba (Kb O O) (Ba (Db O) (Da ?_))))));refine Gc (v:=.bool false) O O ⟨?_,hF.same⟩;simp_all;refine Ca (Ca (Ca (Ca (Ba (Kb O O) (Ba (Vb O) (Ca (Ca (Ca (Ca (Ba (Kb O O) (Ba (Db O) (Da ?_))))))))))));refine Gc (v:=.bool false) O O ⟨?_,hF.same⟩;simp_all
end Go.Scarf
