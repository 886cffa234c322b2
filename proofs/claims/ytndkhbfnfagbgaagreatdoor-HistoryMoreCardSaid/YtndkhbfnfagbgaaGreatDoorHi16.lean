/- A part of the proof. -/
import Derived.Test.YtndkhbfnfagbgaaGreatDoorHi12
set_option linter.all false
set_option maxHeartbeats 8000000
set_option maxRecDepth 10000
namespace Go.Scarf
open Go.RowKit Go.Proofs Go.Proofs.Tryz
theorem ZM{h:List Cm}{x:Cm}(he:Ix h x=0):Ld h=true/\Ld (h++[x])=true:=by
  unfold Ix at he;split at he
  ·rename_i h1
   split at he
   ·cases he
   have h64 : h.length <= 64 := by have := h1.1;unfold Ld at this;rw[Bool.and_eq_true, decide_eq_true_eq]at this;exact this.1
   refine⟨h1.1,R9 (by rw[dQ,List.length_singleton];omega) λi hi=>?_⟩;rw[dQ,List.length_singleton]at hi;by_cases e:i<h.length
   ·rw[List.getElem_append_left e];exact Kq h1.1 e
   obtain rfl : i = h.length := by omega
   simpa using h1.2
  cases he
theorem R8{n:Nat}{p q:Nat->Bool}(h:∀i,i<n->p i=q i)(hn:p n=false):(List.range (n+1)).filter p=(List.range n).filter q:=by
  rw[List.range_succ,List.filter_append];have:(List.range n).filter p=(List.range n).filter q:=List.filter_congr λi hi=>h i (List.mem_range.1 hi);rw[this];simp[hn]
theorem DI{h:List Cm}{x:Cm}(hr:Ld h=true)(hr':Ld (h++[x])=true){k:Int}(h0:0<=k)(h1:k<h.length):Ps (h++[x]) k=Ps h k:=by
  have hl:(h++[x]).length=h.length+1:=by simp
  unfold Ps Wv;rw[if_pos (Im hr' h0 (by rw[hl];omega)),if_pos (Im hr h0 h1)]
  congr 1
  unfold VY;rw[hl];refine R8 (λi hi=>U2 x hr hr' _ i sX) ?_;rw[U2 x hr hr' _ _ sX,Bool.eq_false_iff];intro hu;have:=Y1 hr sX hu;omega
theorem DD{h:List Cm}{x:Cm}(hr:Ld h=true)(hr':Ld (h++[x])=true){a b:Nat}(ha:a<h.length)(hb:b<h.length):(List.range (h++[x]).length).filter (Wl (h++[x]) a b)=(List.range h.length).filter (Wl h a b):=by
  have hl:(h++[x]).length=h.length+1:=by simp
  rw[hl];have hboth:∀i,Wf (h++[x]) a b i=Wf h a b i:=λi=>by unfold Wf;rw[U2 x hr hr' _ _ ha,U2 x hr hr' _ _ hb]
  have hno:∀i,h.length<=i->Wf h a b i=false:=λi hi=>by
    rw[Bool.eq_false_iff];intro hu;have:=Y1 hr ha (Qq.1 hu).1;omega
  refine R8 (λi hi=>?_) ?_
  ·unfold Wl
   rw[hboth,hl,List.range_succ,List.all_append];have h2:([h.length].all λk=>decide (k=i) || (!(Wf (h++[x]) a b k) || !(Xt (h++[x]) k i)))=true:=by simp[hboth,hno h.length (gQ _)]
   rw[h2,Bool.and_true]
   congr 1
   rw[Bool.eq_iff_iff,List.all_eq_true,List.all_eq_true];refine forall_congr' λk=>forall_congr' λhk=>?_;rw[hboth,U2 x hr hr' _ _ (List.mem_range.1 hk)]
  unfold Wl;rw[hboth,hno _ (gQ _)];rfl
theorem SK{h:List Cm}{x:Cm}(hr:Ld h=true)(hr':Ld (h++[x])=true){a b:Int}(a0:0<=a)(a1:a<h.length)(b0:0<=b)(b1:b<h.length):Jj (h++[x]) a b=Jj h a b:=by
  have hl:(h++[x]).length=h.length+1:=by simp
  unfold Jj Jv;rw[if_pos ⟨Im hr' a0 (by rw[hl];omega),Im hr' b0 (by rw[hl];omega)⟩,if_pos ⟨Im hr a0 a1,Im hr b0 b1⟩];unfold PW;rw[DD hr hr' sX sX]
theorem PV{P:Program}{ρ:Operand->Value}{o:Oper}{w w':World}{b c:Bool}(h:(execOp ρ o).run P w=.ok (.value (.bool b)) w')(hb:b=c):(execOp ρ o).run P w=.ok (.value (.bool c)) w':=by rw[h,hb]
theorem Jw(s:Sd)(x y:Sv)(S S2:Nat->Prop)(w0:World)(hX:Rep S w0 (He s) x.cells)(hY:Rep S2 w0 (He s) y.cells):Calls prog 33 #[.agg (x.cells).toArray,.agg (y.cells).toArray] w0 (Td λv w'=>v=.bool true/\Same [] w0 w'):=by
 refine Ga func33 O ntmps33 Fb (Zc _ _) ?_;have hF:=FR.start w0 [];refine Ja (Ve hF O ?_);rintro b1 w hb1 hF -;refine Ve hF O ?_;rintro b2 w hb2 hF -;refine Ca (Hc O) (Fc (Ca (Xb Yn O) (Yc (AL cZ O hF.F 1 O O) (Ca (Xb Yn O) (Yc (AL cZ O hF.F 0 O O) ?_)))));refine Ka (v:=.bool true) (PV (OW underlying4 O O) (by rw[(Hf hX).1,(Hf hY).1];exact beq_self_eq_true _)) ?_;refine Ca (Ae O) (Ca (Xb Pe O) (Ka (v:=.agg (x.v.cells).toArray) (Ya (l:=x.v.cells) aZ oZ O O (hF.part 1 1 O O)) (Ca (Xb Pe O) (Ka (v:=.agg (y.v.cells).toArray) (Ya (l:=y.v.cells) aZ oZ O O (hF.part 0 1 O O)) ?_))));refine Gb hF (Ki (v':=.bool true) (LR s.val s.val _ _ _ x.v.cells y.v.cells (hF.rep (Hf hX).2.2.2.2) (hF.rep (Hf hY).2.2.2.2)) (congrArg Value.bool (Jn _))) (Za IX O O O) ?_;intro w hF;refine Ca (Nd O O) (Ca (Hc O) (Ea ?_));refine Qd (v:=.bool true) O O ?_;exact⟨O,hF.same⟩
theorem CY(l:List Cf)(A B:Option Addr)(c e:Nat)(S S2:Nat->Prop)(w0:World)(hX:Rep S w0 (.slice (l.map OJ)) [.slice A l.length c])(hY:Rep S2 w0 (.slice (l.map OJ)) [.slice B l.length e]):Calls prog 15 #[.slice A l.length c,.slice B l.length e] w0 (Td λv w'=>v=.bool true/\Same [] w0 w'):=by
 have hXl:=hX.slice_len;simp only[rQ]at hXl;have hYl:=hY.slice_len;simp only[rQ]at hYl;refine Ga func15 O ntmps15 Fb (Zc _ _) ?_;have hF:=FR.start w0 [];refine Ja (Ca (Hc O) (Ea (Ha (Ja (Ca (Pd O) (Ca (Ye underlying40 O) (Ca (Pd O) (Ca (Ye underlying40 O) ?_))))))));refine Ka (v:=.bool false) (Je (Qy O O) Da) (Ea (Gy O (Ha (Ja (Ca (Sc O) (Ea (Va ?_)))))));refine Rc (λμ σ w=>∃(i:Nat),μ=l.length-i/\(i<=l.length)/\AllEq σ [(0,.slice A l.length c),(1,.slice B l.length e),(5,J ((i:Int)))]/\FR w0 [] [] w) _ ⟨0,O,(Nat.zero_le _),I7,hF⟩ ?_;rintro μ σ w ⟨i,rfl,hi,hs,hF⟩;refine Cg.slots hs ?_;clear hs;intro σ;refine Ha (Ja (Ca (Kb O) (Ca (Pd O) (Ca (Ye underlying40 O) (Ca (Kl O O) (Ea ?_))))));refine Pc O O (λhc1=>?_) (λhc1=>?_);refine Ta (Ia (Ha (Va (Ha ?_))));refine If (zs:=.of []) (bQ [0,1,2,3,4,5,6,7,8,9] (.act 10 (.free 11 .nil))) hF ?_;intro w hF;refine Hb O (Pd O) (Hb O (Kb O) ?_);obtain⟨ad0,q0,hA0,hk0,ho0⟩:=hX.cf_elem (i:=i) sX;refine Qa O (v:=.pointer (some (ad0.add (i*17)))) (λw hC=>Pa (i:=(i:Int)) Ut O hA0 O sX sX) (Qa O (v:=.pointer (some ((ad0.add (i*17)).add 2))) (λw hC=>Wc (a:=ad0.add (i*17)) GR O) (Qa O (v:=.agg (q0.x.cells).toArray) (λw hC=>Ya (l:=q0.x.cells) dZ rZ O O (Zg (hC.cells0 hk0) 2 O)) (Hb O (Pd O) (Hb O (Kb O) ?_))));obtain⟨ad1,q1,hA1,hk1,ho1⟩:=hY.cf_elem (i:=i) sX;refine Qa O (v:=.pointer (some (ad1.add (i*17)))) (λw hC=>Pa (i:=(i:Int)) Ut O hA1 O sX sX) (Qa O (v:=.pointer (some ((ad1.add (i*17)).add 2))) (λw hC=>Wc (a:=ad1.add (i*17)) GR O) (Qa O (v:=.agg (q1.x.cells).toArray) (λw hC=>Ya (l:=q1.x.cells) dZ rZ O O (Zg (hC.cells0 hk1) 2 O)) ?_));refine Eh hF (Jw l[i].b q0.x q1.x _ _ _ (hF.rep ho0.x) (hF.rep ho1.x)) O (Za en_33 O O O) ?_;intro w hF;refine⟨hF,?_⟩;refine Hb O (Hc O) (Ec (Ia (Ha ?_)));refine If (zs:=.of []) (bQ [0,1,2,3,4,5,6,7,8,9] (.act 10 (.free 11 .nil))) hF ?_
 intro w hF;refine Hb O (Pd O) (Hb O (Kb O) ?_);obtain⟨ad2,q2,hA2,hk2,ho2⟩:=hX.cf_elem (i:=i) sX;refine Qa O (v:=.pointer (some (ad2.add (i*17)))) (λw hC=>Pa (i:=(i:Int)) Ut O hA2 O sX sX) (Qa O (v:=.pointer (some ((ad2.add (i*17)).add 7))) (λw hC=>Wc (a:=ad2.add (i*17)) OP O) (Qa O (v:=.agg (q2.y.cells).toArray) (λw hC=>Ya (l:=q2.y.cells) dZ rZ O O (Zg (hC.cells0 hk2) 7 O)) (Hb O (Pd O) (Hb O (Kb O) ?_))));obtain⟨ad3,q3,hA3,hk3,ho3⟩:=hY.cf_elem (i:=i) sX;refine Qa O (v:=.pointer (some (ad3.add (i*17)))) (λw hC=>Pa (i:=(i:Int)) Ut O hA3 O sX sX) (Qa O (v:=.pointer (some ((ad3.add (i*17)).add 7))) (λw hC=>Wc (a:=ad3.add (i*17)) OP O) (Qa O (v:=.agg (q3.y.cells).toArray) (λw hC=>Ya (l:=q3.y.cells) dZ rZ O O (Zg (hC.cells0 hk3) 7 O)) ?_));refine Eh hF (Jw l[i].l q2.y q3.y _ _ _ (hF.rep ho2.y) (hF.rep ho3.y)) O (Za en_33 O O O) ?_;intro w hF;refine⟨hF,?_⟩;refine Hb O (Hc O) (Ec (Ia (Ha ?_)));refine If (zs:=.of []) (bQ [0,1,2,3,4,5,6,7,8,9] (.act 10 (.free 11 .nil))) hF ?_;intro w hF;refine Hb O (Pd O) (Hb O (Kb O) ?_);obtain⟨ad4,q4,hA4,hk4,ho4⟩:=hX.cf_elem (i:=i) sX;refine Qa O (v:=.pointer (some (ad4.add (i*17)))) (λw hC=>Pa (i:=(i:Int)) Ut O hA4 O sX sX) (Qa O (v:=.pointer (some ((ad4.add (i*17)).add 12))) (λw hC=>Wc (a:=ad4.add (i*17)) BR O) (Qa O (v:=.agg (q4.z.cells).toArray) (λw hC=>Ya (l:=q4.z.cells) dZ rZ O O (Zg (hC.cells0 hk4) 12 O)) (Hb O (Pd O) (Hb O (Kb O) ?_))));obtain⟨ad5,q5,hA5,hk5,ho5⟩:=hY.cf_elem (i:=i) sX;refine Qa O (v:=.pointer (some (ad5.add (i*17)))) (λw hC=>Pa (i:=(i:Int)) Ut O hA5 O sX sX) (Qa O (v:=.pointer (some ((ad5.add (i*17)).add 12))) (λw hC=>Wc (a:=ad5.add (i*17)) BR O) (Qa O (v:=.agg (q5.z.cells).toArray) (λw hC=>Ya (l:=q5.z.cells) dZ rZ O O (Zg (hC.cells0 hk5) 12 O)) ?_));refine Eh hF (Jw l[i].r q4.z q5.z _ _ _ (hF.rep ho4.z) (hF.rep ho5.z)) O (Za en_33 O O O) ?_
 intro w hF;refine⟨hF,?_⟩;refine Hb O (Hc O) (Ec (Ia (Ha (Ha ?_))));refine If (zs:=.of []) (bQ [0,1,2,3,4,5,6,7,8,9,10,11,12,13,14,15,16,17,18,19,20,21,22,23,24,25,26,27,28,29,30,31,32,33,34,35,36,37] .nil) hF ?_;intro w hF;refine Hb O (Ae O) (Hb O (Zj (b:=true) O) (Hb O (Ae O) (Hb O (Ae O) (Hb O (Zj (b:=true) O) (Hb O (Md O O) (Hb O (Ae O) (Hb O (Ae O) (Hb O (Zj (b:=true) O) (Hb O (Md O O) (Hb O (Ae O) (Hb O (Pd O) (Hb O (Kb O) ?_))))))))))));obtain⟨ad6,q6,hA6,hk6,ho6⟩:=hX.cf_elem (i:=i) sX;refine Qa O (v:=.pointer (some (ad6.add (i*17)))) (λw hC=>Pa (i:=(i:Int)) Ut O hA6 O sX sX) (Qa O (v:=.pointer (some ((ad6.add (i*17)).add 1))) (λw hC=>Wc (a:=ad6.add (i*17)) GQ O) (Qa O (v:=J (q6.k)) (λw hC=>Jb bZ O (hC.cell0 (hk6 1 Fb))) (Hb O (Pd O) (Hb O (Kb O) ?_))));obtain⟨ad7,q7,hA7,hk7,ho7⟩:=hY.cf_elem (i:=i) sX;refine Qa O (v:=.pointer (some (ad7.add (i*17)))) (λw hC=>Pa (i:=(i:Int)) Ut O hA7 O sX sX) (Qa O (v:=.pointer (some ((ad7.add (i*17)).add 1))) (λw hC=>Wc (a:=ad7.add (i*17)) GQ O) (Qa O (v:=J (q7.k)) (λw hC=>Jb bZ O (hC.cell0 (hk7 1 Fb))) ?_));refine Qa O (v:=.bool false) (λw hC=>Je (Qy O O) (by have:=ho6.k;have:=ho7.k;omega)) ?_;refine Hb O (Md O O) (Hb O (Ae O) (Hb O (Pd O) (Hb O (Kb O) ?_)));obtain⟨ad8,q8,hA8,hk8,ho8⟩:=hX.cf_elem (i:=i) sX;refine Qa O (v:=.pointer (some (ad8.add (i*17)))) (λw hC=>Pa (i:=(i:Int)) Ut O hA8 O sX sX) (Qa O (v:=.pointer (some ((ad8.add (i*17)).add 0))) (λw hC=>Wc (a:=ad8.add (i*17)) J2 O) (Qa O (v:=.slice q8.A q8.n q8.c) (λw hC=>Jb xQ O (hC.cell0 (hk8 0 Fb))) (Hb O (Ye dX O) (Hb O (Pd O) (Hb O (Kb O) ?_)))));obtain⟨ad9,q9,hA9,hk9,ho9⟩:=hY.cf_elem (i:=i) sX;refine Qa O (v:=.pointer (some (ad9.add (i*17)))) (λw hC=>Pa (i:=(i:Int)) Ut O hA9 O sX sX) (Qa O (v:=.pointer (some ((ad9.add (i*17)).add 0))) (λw hC=>Wc (a:=ad9.add (i*17)) J2 O) (Qa O (v:=.slice q9.A q9.n q9.c) (λw hC=>Jb xQ O (hC.cell0 (hk9 0 Fb))) (Hb O (Ye dX O) ?_)))
 refine Qa O (v:=.bool false) (λw hC=>Je (Qy O O) (by have:=ho8.n;have:=ho9.n;omega)) ?_;refine Hb O (Md O O) (Ec (Ia (Gy O (Ja (Ca (Sc O) (Ea (Va ?_)))))));refine Rc (λμ σ w=>∃(k:Nat),μ=l[i].path.length-k/\(k<=l[i].path.length)/\AllEq σ [(0,.slice A l.length c),(1,.slice B l.length e),(5,J ((i:Int))),(9,J ((k:Int)))]/\FR w0 [] [] w) _ ⟨0,O,(Nat.zero_le _),Tq,hF⟩ ?_;rintro μ σ w ⟨k,rfl,hk,hs,hF⟩;refine Cg.slots hs ?_;clear hs;intro σ;refine Ha (Ja (Ca (Kb O) (Ca (Pd O) (Ca (Kb O) ?_))));obtain⟨ad10,q10,hA10,hk10,ho10⟩:=hX.cf_elem (i:=i) sX;refine Ka (v:=.pointer (some (ad10.add (i*17)))) (Pa (i:=(i:Int)) Ut O hA10 O sX sX) (Ka (v:=.pointer (some ((ad10.add (i*17)).add 0))) (Wc (a:=ad10.add (i*17)) J2 O) (Ka (v:=.slice q10.A q10.n q10.c) (Jb xQ O (hF.cell0 (hk10 0 Fb))) ?_));have hpl10:=ho10.p.slice_len;simp only[rQ]at hpl10;refine Ca (Ye dX O) (Ca (Kl O O) (Ea ?_));refine Pc O O (λhc3=>?_) (λhc3=>?_);refine Ta (Ia (Ha (Va (Ha ?_))));refine If (zs:=.of []) (bQ [0,1,2,3,4,5,6,7,8,9,10,11,12,13,14,15,16] .nil) hF ?_;intro w hF;refine Hb O (Pd O) (Hb O (Kb O) ?_);obtain⟨ad11,q11,hA11,hk11,ho11⟩:=hX.cf_elem (i:=i) sX;refine Qa O (v:=.pointer (some (ad11.add (i*17)))) (λw hC=>Pa (i:=(i:Int)) Ut O hA11 O sX sX) (Qa O (v:=.pointer (some ((ad11.add (i*17)).add 0))) (λw hC=>Wc (a:=ad11.add (i*17)) J2 O) (Qa O (v:=.slice q11.A q11.n q11.c) (λw hC=>Jb xQ O (hC.cell0 (hk11 0 Fb))) (Hb O (Kb O) ?_)));have hpl11:=ho11.p.slice_len;simp only[rQ]at hpl11;obtain⟨ad12,hA12,hk12,hx12⟩:=ho11.p.str_elem (i:=k) sX;refine Qa O (v:=.pointer (some (ad12.add (k*1)))) (λw hC=>Pa (i:=(k:Int)) Cr O hA12 O sX sX) (Qa O (v:=I (l[i].path[k])) (λw hC=>Jb fZ O (hC.cell0 hk12)) (Hb O (Pd O) (Hb O (Kb O) ?_)));obtain⟨ad13,q13,hA13,hk13,ho13⟩:=hY.cf_elem (i:=i) sX
 refine Qa O (v:=.pointer (some (ad13.add (i*17)))) (λw hC=>Pa (i:=(i:Int)) Ut O hA13 O sX sX) (Qa O (v:=.pointer (some ((ad13.add (i*17)).add 0))) (λw hC=>Wc (a:=ad13.add (i*17)) J2 O) (Qa O (v:=.slice q13.A q13.n q13.c) (λw hC=>Jb xQ O (hC.cell0 (hk13 0 Fb))) (Hb O (Kb O) ?_)));have hpl13:=ho13.p.slice_len;simp only[rQ]at hpl13;obtain⟨ad14,hA14,hk14,hx14⟩:=ho13.p.str_elem (i:=k) sX;refine Qa O (v:=.pointer (some (ad14.add (k*1)))) (λw hC=>Pa (i:=(k:Int)) Cr O hA14 O sX sX) (Qa O (v:=I (l[i].path[k])) (λw hC=>Jb fZ O (hC.cell0 hk14)) ?_);refine Qa O (v:=.bool false) (λw hC=>Je (CZ O O) Da) (Ec (Ia (Kg O (Ta (Ib (Ia (Fa (Ca (Kb O) (Ca (Ok (((k+1:Nat):Int)) O O) (Ca (Sc O) (Db ?_)))))))))));refine Yb ⟨_,?_,k+1,O,sX,Tq,hF⟩;omega;refine Nc (Kc O ?_);refine Ib (Ia (Fa (Ca (Kb O) (Ca (Ok (((i+1:Nat):Int)) O O) (Ca (Sc O) (Db ?_))))));refine Yb ⟨_,?_,i+1,O,sX,I7,hF⟩;omega;refine Nc (Kc O ?_);refine Ia (Ja (Ca (Hc O) (Ea ?_)));refine Qd (v:=.bool true) O O ?_;exact⟨O,hF.same⟩
open Go.RowKit
def CmsO(e:TypeId)(l:List Cm)(w0 w':World)(A:Option Addr)(c:Nat)(pl:List Pl):Prop :=
  ∃(sb:List (Nat × Obj))(hi:Nat),SlB e 5 A l.length c (Bk pl) sb/\(∀p∈sb,w'.heap[p.1]? = some p.2/\w0.heap.size<=p.1)/\CmsAt w' w0.heap.size l pl hi/\hi<=w'.heap.size/\∀p∈sb,Z_ pl p.1
theorem SlB.softM{e m n c:Nat}{A:Option Addr}{es:List Value}{sb:List (Nat × Obj)}{w:World}(h:SlB e m A n c es sb)(hb:∀p∈sb,w.heap[p.1]? = some p.2):∀p∈sb,Soft w p.1:=λp hp=>by
  have h2:∃cur,p=(p.1,.cells cur e):=by
    rcases h.2 with ⟨-,-,rfl⟩|⟨g,cur,-,rfl,-⟩
    ·cases hp
    simp only[pQ]at hp;subst hp;exact⟨cur,rfl⟩
  obtain⟨cur,h2⟩:=h2;have:=hb p hp;rw[h2]at this;exact⟨cur,e,this⟩
theorem CmsO.rep{e:TypeId}{l:List Cm}{w0 w':World}{A:Option Addr}{c:Nat}{pl:List Pl}(h:CmsO e l w0 w' A c pl):Rep (Btw w0 w') w' (Nr l) [.slice A l.length c]:=by
  obtain⟨sb,hi,h1,h2,h3,h4,-⟩:=h;exact h1.repOf (λp hp=>⟨(h2 p hp).1,(h2 p hp).2,Ma (h2 p hp).1,h1.softM (λp hp=>(h2 p hp).1) p hp⟩) (CmsAt.repL h3 λk hk1 hk2 hk3=>⟨hk1,by omega,hk3⟩) Da
def XRow(w:World)(A:Option Addr)(pl:List Pl):Prop :=
  ∀i (hi:i<pl.length),∃g,A=some ⟨g,0,none⟩/\Z_ pl g/\g<w.heap.size/\∀j (hj:j<(pl[i].q.cells).length),w.cell? (((⟨g,0,none⟩:Addr).add (i*5)).add j)=some (pl[i].q.cells[j])
theorem WT{E:List Nat}{w w':World}{a:Addr}{v:Value}(hs:Same E w w')(hE:a.block∉E)(hc:w.cell? a=some v):w'.cell? a=some v:=by
  rw[<-hc];exact World.cell?_of_block (w:=w) (hs.block _ (World.block_lt_of_cell? _ _ hc) hE)
theorem XRow.same{E:List Nat}{w w':World}{A:Option Addr}{pl:List Pl}(h:XRow w A pl)(hs:Same E w w')(hE:∀b∈E,∃p∈pl,p.a<=b/\b<p.b):XRow w' A pl:=λi hi=>by
  obtain⟨g,hA,ho,hg,hc⟩:=h i hi;refine⟨g,hA,ho,Nat.lt_of_lt_of_le hg hs.size,λj hj=>WT hs (λhm=>?_) (hc j hj)⟩;rw[Mg,Mg]at hm;obtain⟨p,hp,h1,h2⟩:=hE _ hm;have:g<p.a\/p.b<=g:=ho p hp;simp only at h1 h2;omega
theorem LV{pl:List Pl}{i:Nat}(hi:i<pl.length):Bk pl=Bk (pl.take i)++(pl[i].q.cells++Bk (pl.drop (i+1))):=by
  have h1:Bk pl=Bk (pl.take i++pl.drop i):=by rw[List.take_append_drop]
  have h2:pl.drop i=pl[i]::pl.drop (i+1):=List.drop_eq_getElem_cons hi;rw[h1,h2];unfold Bk;rw[List.flatMap_append,List.flatMap_cons]
theorem Pu:∀pl:List Pl,(Bk pl).length=pl.length*5
  | []=>rfl
  | p :: pl => by
    have:=Pu pl;unfold Bk at this ⊢;rw[List.flatMap_cons,dQ,this,kQ];show 5+_=_;omega
theorem CmsO.row{e:TypeId}{l:List Cm}{w0 w':World}{A:Option Addr}{c:Nat}{pl:List Pl}(h:CmsO e l w0 w' A c pl):XRow w' A pl:=λi hi=>by
  obtain⟨sb,hi2,h1,h2,h3,h4,h5⟩:=h;have hlen:=CmsAt.len h3;have hF:FR w0 [] ([]++(sb++[])) w'->∀ad,A=some ad->∀j u,(Bk pl)[j]? = some u->w'.cell? (ad.add j)=some u:=λhF=>h1.cells hF;rcases h1.2 with ⟨h0,-⟩|⟨g,cur,rfl,rfl,-,-,-,ht⟩
  ·omega
  have hg := (h2 (g, .cells cur e) Da).1;refine⟨g,O,h5 (g,.cells cur e) Da,Ma hg,λj hj=>?_⟩;have hj5:j<5:=hj;have e1:((⟨g,0,none⟩:Addr).add (i*5)).add j=⟨g,i*5+j,none⟩:=by
    rw[Lu];unfold Addr.add;split <;> simp_all
  rw[e1,cell_of_row w' g (i*5+j) cur e (0,0) hg];have hcut:(Bk pl)[i*5+j]? = some (pl[i].q.cells[j]):=by
    rw[LV hi,List.getElem?_append_right (by rw[Pu,List.length_take];omega),List.getElem?_append_left (by rw[Pu,List.length_take];show _<5;omega),Pu,List.length_take];have:i*5+j-min i pl.length*5=j:=by rw[Nat.min_eq_left sX];omega
    rw[this];exact List.getElem?_eq_getElem hj
  rw[<-ht,List.getElem?_take]at hcut;split at hcut
  ·rw[Array.getElem?_toList]at hcut
   exact hcut
  cases hcut
def XS(w:World)(pl:List Pl)(b:Nat):Prop:=Soft w b/\∃p∈pl,p.a<=b/\b<p.b
structure CmsM (S:Nat->Prop) (w:World) (pl:List Pl):Prop where
  v:∀i (hi:i<pl.length),∃y,Rep S w (Zb y) pl[i].q.v.cells
  p:∀i (hi:i<pl.length) k,k<pl[i].q.n->∃ad u,pl[i].q.A=some ad/\w.cell? (ad.add (k*1))=some (J u)/\S (ad.add (k*1)).block
theorem CmsM.mold{S:Nat->Prop}{w w':World}{pl:List Pl}(h:CmsM S w pl)(hm:Mold w w'):CmsM S w' pl:=by
  refine⟨λi hi=>?_,λi hi k hk=>?_⟩
  ·obtain⟨y, hy⟩ := h.v i hi
   obtain⟨y',-,hy'⟩:=moldT y S w w' _ _ hy hm (KinL.refl _);exact⟨y',hy'⟩
  obtain⟨ad, u, hA, hc, hS⟩ := h.p i hi k hk;obtain⟨v',hc',hk'⟩:=hm _ _ hc;cases hk' with
  | same=>exact⟨ad,u,hA,hc',hS⟩
  | int _ m _ _=>exact⟨ad,m,hA,hc',hS⟩
theorem CmsM.of{w:World}{l:List Cm}{a0 hi:Nat}{pl:List Pl}(h:CmsAt w a0 l pl hi):CmsM (XS w pl) w pl:=by
  have hl:=CmsAt.len h;refine⟨λi hi'=>?_,λi hi' k hk=>?_⟩
  ·have hc := CmsAt.at h i sX hi'
   exact⟨_,hc.v.weaken λb hb _=>⟨hb.2.2,_,eQ hi',by have:=hc.le;have:=hb.1;omega,hb.2.1⟩⟩
  have hc := CmsAt.at h i sX hi';have hn:=hc.n;obtain⟨A',c',hA,-,-,hr⟩:=Rep.slice_inv hc.p;simp only[List.cons.injEq,Value.slice.injEq,and_true]at hA;obtain⟨h1,h2,h3⟩:=hA;have hne:(l[i]' sX).par.map Zd≠[]:=λe=>by
    have:=congrArg List.length e;rw[rQ,List.length_nil]at this;omega
  obtain⟨ad,hAd,es,hce,hre⟩:=hr hne;have hlen:es.length=(l[i]' sX).par.length:=by
    have key:∀{L:List Int}{cs:List Value},RepL (Iv pl[i].a pl[i].m w) w (L.map Zd) cs->cs.length=L.length:=by
      intro L
      induction L with
      | nil=>intro cs h;rw[RepL.nil_inv h];rfl
      | cons x L ih =>
        intro cs h;obtain⟨c1,c2,rfl,h1,h2⟩:=RepL.cons_inv h;obtain⟨rfl,-⟩:=Rep.lit_inv h1;simp[ih h2]
    exact key hre
  have hkk:k<(l[i]' sX).par.length:=by omega
  obtain⟨hc1,hS1⟩:=hce k sX;have hx:=Rep.int_elem (A:=pl[i].q.A) (len:=pl[i].q.n) (c:=pl[i].q.c) hc.p (i:=k) hkk;obtain⟨ad',hA',hc',-⟩:=hx;obtain rfl:ad=ad':=by rw[<-h1]at hAd;exact lQ (hAd.symm.trans hA')
  refine⟨ad,_,hA',hc',?_⟩;rw[Mg];exact⟨hS1.2.2,_,eQ hi',hS1.1,by have:=hc.le;have:=hS1.2.1;omega⟩
end Go.Scarf
