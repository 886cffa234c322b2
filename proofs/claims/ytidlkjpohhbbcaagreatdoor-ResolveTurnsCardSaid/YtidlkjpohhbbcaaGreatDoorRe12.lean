/- A part of the proof. -/
import Derived.Test.YtidlkjpohhbbcaaGreatDoorQ13
import Derived.Test.YtidlkjpohhbbcaaGreatDoorM15
set_option linter.all false
set_option maxHeartbeats 8000000
set_option maxRecDepth 10000
namespace Go.Scarf
open Go.RowKit Go.Proofs Go.Proofs.Tryz
abbrev zCf:List Value:=[aQ,J 0,.bool (false),J 0,I [],aQ,aQ,.bool (false),J 0,I [],aQ,aQ,.bool (false),J 0,I [],aQ,aQ]
def B3(k:Int)(s:Sd):Cf:=⟨[],k,s,noS,noS⟩
abbrev setV(k:Int)(y:Sv):List Value:=[aQ,J k,.bool y.h,J y.v.k,I y.v.t,.slice y.v.A y.v.n y.v.c,.slice y.v.B y.v.m y.v.e,.bool (false),J 0,I [],aQ,aQ,.bool (false),J 0,I [],aQ,aQ]
theorem TZ{S:Nat->Prop}{w:World}{k:Int}{s:Sd}{y:Sv}(hk:-1000<=k/\k<=1000)(h:Rep S w (Le s) y.cells):Rep S w (HA (B3 k s)) (setV k y):=by
  unfold HA B3;refine Rep.agg_mk (RepL.cons_mk (c1:=[aQ]) (Rep.nil_slice 0 Aa none) (RepL.cons_mk (c1:=[J k]) (Rep.lit_mk (okI (z:=k) Aa Aa)) (RepL.cons_mk (c1:=y.cells) h (RepL.cons_mk (c1:=[.bool (false),J 0,I [],aQ,aQ]) Ml (RepL.cons_mk (c1:=[.bool (false),J 0,I [],aQ,aQ]) (c2:=[]) Ml RepL.nil_mk)))))
theorem Y8{S:Nat->Prop}{w:World}:RepL S w ([(0:Int)].map Gj) [J 0]:=RepL.cons_mk (c1:=[J 0]) (c2:=[]) (Xn Ua Ua) RepL.nil_mk
theorem open_yes{f:Bool}{n:Nat}{v:List Value}(h:if f=true then n=0/\v=[] else n=1/\v=[J 0])(hn:(0:Int)<(n:Int)):f=false/\n=1/\v=[J 0]:=by
  cases f with
  | true=>rw[if_pos rfl]at h;omega
  | false=>rw[if_neg Ua]at h;exact⟨rfl,h⟩
theorem open_no{f:Bool}{n:Nat}{v:List Value}(h:if f=true then n=0/\v=[] else n=1/\v=[J 0])(hn:¬(0:Int)<(n:Int)):f=true:=by
  cases f with
  | true=>rfl
  | false=>rw[if_neg Ua]at h;omega
theorem by_c(k:Int)(w0:World):Calls prog 68 #[J k] w0 (Yc λv w'=>∃b:Nat,v=.func (.func 103) #[] #[V b]/\w'.heap[b]? = some (.cells #[J k] 3)/\w0.heap.size<=b/\Same [] w0 w'):=by
 refine Fa func68 O ntmps68 Ab (Wb _) ?_;have hF:=FR.start w0 [];refine Ea (VH (.int _ _) hF O ?_);rintro b1 w hb1 hF -;refine Ba (O2) (Lb (Ia (v:=.func (.func 103) #[] #[V b1]) (El O) (Ba (O2) (Da ?_))));refine Gc (v:=.func (.func 103) #[] #[V b1]) O O ?_;exact⟨b1,O,hF.heap (i:=0) O,hF.ge (i:=0) O,hF.same⟩
theorem by1_c(q:Cv)(b:Nat)(w0:World)(hb:w0.heap[b]? = some (.cells #[J 1] 3)):Calls prog 103 #[.agg q.cells.toArray,V b] w0 (Yc λv w'=>v=.tuple #[.agg #[.bool (false),J 0,I [],aQ,aQ],.bool false]/\Same [] w0 w'):=by
 have hb1c:w0.cell? ⟨b,0,none⟩=some (J 1):=by rw[Zc hb];rfl
 refine Fa func103 O ntmps103 Ab (Uc _ _) ?_;have hF:=FR.start w0 [];refine Ea (Ce hF O ?_);rintro b1 w hb1 hF -;refine Pc (cs:=#[.bool false,J 0,I [],aQ,aQ]) hF pX O ?_;rintro b2 w hb2 hF -;refine Ba (Kb O) (Da (Ga (Ea (Ia (v:=J 1) (Nc xQ O (hF.cell0 hb1c)) (Da (Qa (Ea (Ba (Of O O) (Ba (Kb O) ?_)))))))));refine Da (Zd (by rfl) ?_);refine Ea (Ba (Of O O) (Ba (Kb O) (Da ?_)));refine Zd (by rfl) (Ea (Ba (Of O O) (Ba (Kb O) (Da ?_))));refine Zd (by rfl) (Ea (Ba (Of O O) (Ba (Kb O) (Da ?_))));refine Zd (by rfl) (Ka (Ya (Ha (Ea (Xb (Bf cZ oZ O hF.F 0 O O) ?_)))));refine Ge hF oZ O O Pi ?_;rintro w hF -;refine Ba (Kb O) (Da ?_);refine Db (Cb (La (Ld O (l:=[.bool false,J 0,I [],aQ,aQ]) O cZ oZ O (hF.cellsAll 0 O) (v:=.bool false) O) ?_));exact⟨O,hF.same⟩
theorem CJ(vT:Tree)(xv:Tv)(c:Cf)(LA:Option Addr)(lc:Nat)(t:List Mm)(A0:Option Addr)(c0:Nat)(S SL SV:Nat->Prop)(w0:World)(hV:Rep SV w0 (Ob vT) xv.cells)(hL:Rep SL w0 (.slice ([c].map HA)) [.slice LA 1 lc])(hX:Rep S w0 (Xd t) [.slice A0 t.length c0])(hm:∀m∈t,MmOk m)(htl:t.length<=1000000)(hP:CfP c)(hcS:CfS c)(hcS2:CfS (B3 c.cls (Bl (Ch t c).1)))(hHol:HolIn 1 vT)(hsz:Nb vT<=512)(hmx:Kd vT<=16777216)(hR:Te t=true)(hch:(Fl vT [c] [0]).2=0)(hG:Gl w0):Calls prog 31 #[.agg xv.cells.toArray,.slice LA 1 lc,.slice A0 t.length c0,J 1] w0 (Yc λv w'=>((Ch t c).2=false/\∃AO cO,v=.tuple #[.agg #[J 0,I [],aQ,aQ],.slice AO 1 cO,J 10]/\Rep (Btw w0 w') w' (.slice ([(0:Int)].map Gj)) [.slice AO 1 cO]/\Same [] w0 w')\/((Ch t c).2=true/\∃q:Tv,v=.tuple #[.agg q.cells.toArray,aQ,J (Fl vT [B3 c.cls (Bl (Ch t c).1)] [0]).2]/\Rep (Btw w0 w') w' (Ob (Fl vT [B3 c.cls (Bl (Ch t c).1)] [0]).1) q.cells/\Same [] w0 w')):=by
 refine Fa func31 O ntmps31 Ab (VC _ _ _ _) ?_;have hF:=FR.start w0 [];refine Ea (Ce hF O ?_);rintro b1 w hb1 hF -;refine Pc (cs:=#[J 0,I [],aQ,aQ]) hF oX O ?_;rintro b2 w hb2 hF -;refine Ba (Yi O) (Ba (Fb O) (Lb (Ba (Hd O) (Ba (Nf jX O) ?_))));refine Nx (v:=λb=>W b 1 1) (o:=.cells (Jh [J 0] 1).toArray 3) hF (C6 (z:=J 0) (zl:=[J 0]) (N:=1) el_58 Qb O O O Aa Ua) ?_;intro b3 w hb3 hF hE;clear hE;have hF:FR w0 [] [(b3,.cells #[J 0] 3),(b2,.cells #[J 0,I [],aQ,aQ] 36),(b1,.cells (xv.cells).toArray 36)] w:=hF;refine Ba (Yi O) (Lb (Xb (Bf aZ nZ O hF.F 2 O O) (Ba (Hd O) (Ba (Hd O) ?_))));refine Eb (IH [c] [0] LA (some ⟨b3,0,none⟩) lc 1 _ _ vT xv _ _ (hF.rep hL) (hF.rowS (S:=λ_=>False) 0 O (n:=1) Y8 O Aa) (λx hx=>by rw[pQ.1 hx];exact hcS) (hF.rep hV) hHol hsz hmx (hG.ext hF.same)) (Af en_67 O O O O) ?_;rw[hch];rintro _ w ⟨qa,rfl,-,hE⟩;have hF:=hF.ext hE;refine Ba (Mj O) (Ba (Gt O O) (Ba (Rj O O) ?_));refine If hF oX nZ O ?_;rintro b4 w hb4 hF -;refine Ba (Fb O) (Da (Ga (Ea (Ba (Za O) (Ia (v:=.bool false) (Xf (Er O O) Ua) (Ba (Dc O) (Ba (Hd O) ?_)))))));refine Eb (Rp t A0 c0 S _ (hF.rep hX) hm (hG.ext hF.same)) (Ma G7 O O) ?_;rw[hR];rintro _ w ⟨rfl,hE⟩;have hF:=hF.ext hE;refine Ba (Di (b:=true) O) (Ba (Pb O O) (Ba (Dc O) (Ba (Za O) (Ia (v:=.bool false) (Xf (NG O O) Ua) (Ba (Pb O O) (Ba (Dc O) (Ba (Za O) (Ia (v:=.bool false) (Xf (SB O O) Ua) (Ba (Pb O O) (Da (Zd O (Ka ?_))))))))))));refine Ha (Ea (Ba (Hd O) (Ba (Nf jX O) ?_)));refine Nx (v:=λb=>W b 1 1) (o:=.cells (Jh zCf 1).toArray 40) hF (C6 (z:=.agg zCf.toArray) (zl:=zCf) (N:=1) el_62 Qb O O O Aa Ua) ?_;intro bs_ w hbs_ hF hE;clear hE;have hF:FR w0 [] [(bs_,(.cells zCf.toArray 40)),(b4,.cells (qa.cells).toArray 36),(b3,.cells #[J 0] 3),(b2,.cells #[J 0,I [],aQ,aQ] 36),(b1,.cells (xv.cells).toArray 36)] w:=hF
 refine Ba (Yi O) (Lb (Ba (Yi O) (Da (Ga (Ea (Ba (Hd O) (Ba (Nf jX O) (Ba (Za O) ?_))))))));refine Da (Qa ?_);refine Fc (λμ σ w=>∃(i:Nat),∃(y:Sv),∃(AO:Option Addr),∃(nO:Nat),∃(cO:Nat),∃(so:List (Nat × Obj)),∃(vO:List Value),∃(cc:List Value),μ=2-i/\(i<=1)/\(i=0->cc=zCf/\nO=0/\vO=[])/\(i=1->cc=setV c.cls y/\(if (Ch t c).2=true then nO=0/\vO=[] else nO=1/\vO=[J 0]))/\(SlB 3 1 AO nO cO vO so)/\(i=1->(Ch t c).2=true->RX w0 ([bs_]++ids so) w [Le (Bl (Ch t c).1)] y.cells)/\AllEq σ [(1,.slice LA 1 lc),(2,.slice A0 t.length c0),(3,J 1),(4,V b1),(8,V b2),(11,W b3 1 1),(14,W bs_ 1 1),(15,.slice AO nO cO),(50,J 1),(51,J ((i:Int)))]/\FR w0 [] ([(bs_,(.cells cc.toArray 40)),(b4,.cells (qa.cells).toArray 36),(b3,.cells #[J 0] 3),(b2,.cells #[J 0,I [],aQ,aQ] 36),(b1,.cells (xv.cells).toArray 36)]++(so++[])) w) _ ⟨0,⟨false,C4⟩,none,0,0,[],[],zCf,O,(Nat.zero_le _),(λ_=>⟨O,O,O⟩),(λh=>absurd h Ua),(SlB.nil _ _),(λh=>absurd h Ua),⟨O,O,O,O,O,O,O,O,O,O,trivial⟩,hF⟩ ?_;rintro μ σ w ⟨i,y,AO,nO,cO,so,vO,cc,rfl,hi,hz0,hz1,hS,hY,hs,hF⟩;refine Cg.slots hs ?_;clear hs;intro σ;refine Ea (Ba (Pg O O) (Da (Ga ?_)));refine Jb O O (λhc1=>?_) (λhc1=>?_);refine Ka (Ha (Ga (Qa (Ga ?_))));obtain rfl:i=0:=by omega
 obtain⟨rfl,rfl,rfl⟩:=hz0 rfl;have hF:FR w0 [] ([(bs_,.cells #[aQ,J 0,.bool (false),J 0,I [],aQ,aQ,.bool (false),J 0,I [],aQ,aQ,.bool (false),J 0,I [],aQ,aQ] 40),(b4,.cells (qa.cells).toArray 36),(b3,.cells #[J 0] 3),(b2,.cells #[J 0,I [],aQ,aQ] 36),(b1,.cells (xv.cells).toArray 36)]++(so++[])) w:=hF;refine Ja (Ba (Za O) (Ba (Fb O) (Lb (Ba (Hd O) (Ba (Hd O) (Ba (Za O) ?_))))));obtain⟨ad0,q0,hA0,hk0,ho0⟩:=hL.cf_elem (i:=0) Oa;refine Ia (v:=.pointer (some (ad0.add (0*17)))) (Na (i:=((0:Nat):Int)) Jz O hA0 O Aa Aa) (Ia (v:=.agg (q0.cells).toArray) (Wa (l:=q0.cells) fZ pZ O O (hF.cells0 hk0)) ?_);refine Eb (LP t A0 c0 c q0 S SL _ (hF.rep hX) hm htl ⟨ho0.n,ho0.k,hF.rep ho0.p,hF.rep ho0.x,hF.rep ho0.y,hF.rep ho0.z⟩ hP (hG.ext hF.same)) (Xa en_24 O O O) ?_;rintro _ w ⟨y,rfl,hRt,hE⟩;have hY:=RX.made (ids:=([bs_]++ids so)) hF.same.size (λx hx=>(HN (pre:=[_,_,_,_,_]) hF (λx hx=>(mQ.1 hx).elim (λh=>.inl (by rw[pQ.1 h];simp[ids])) .inr) x hx).2) hRt;have hF:=hF.ext hE;clear hE hRt;refine Ba (Mj O) (Ba (Gt O O) (Ba (Ym O O) ?_));refine If hF pX oZ O ?_;intro b5 w hb5 hF hE;have hY:=hY.ext hE;refine Ba (Kb O) (Da (Ga (Ea (Ba (Dc O) (Ba (Di O) (Da ?_))))));refine Jd O O (λhc2=>?_) (λhc2=>?_);have hfo:(Ch t c).2=false:=by simpa using hc2
 refine Md (.of []) (bQ [0,2,3,4,5] (.act 1 (.act 6 (bQ [7,8,9] (.act 10 (.free 11 .nil)))))) hF ?_;intro w hF hE;have hY:=hY.ext hE;refine⟨λwq=>FR w0 [] [(bs_,.cells #[aQ,J 0,.bool (false),J 0,I [],aQ,aQ,.bool (false),J 0,I [],aQ,aQ,.bool (false),J 0,I [],aQ,aQ] 40),(b4,.cells (qa.cells).toArray 36),(b3,.cells #[J 0] 3),(b2,.cells #[J 0,I [],aQ,aQ] 36),(b1,.cells (xv.cells).toArray 36)] wq,hF.mid 1 5,?_⟩;refine Ib O (Za O) (Ib O (Hd O) (Ib O (Za O) ?_));obtain⟨ad1,q1,hA1,hk1,ho1⟩:=hL.cf_elem (i:=0) Oa;refine Sa O (v:=.pointer (some (ad1.add (0*17)))) (λw hC=>Na (i:=((0:Nat):Int)) Jz O hA1 O Aa Aa) (Sa O (v:=.agg (q1.cells).toArray) (λw hC=>Wa (l:=q1.cells) fZ pZ O O (hC.cells0 hk1)) ?_);refine Dd O (by_c 1 _) (Ma en_68 O O) ?_;rintro _ w ⟨bb,rfl,hbb,hgb,hE⟩;have hF:=hF.takeB hE hbb hgb;clear hE hbb hgb hY;refine⟨hF.mid 2 5,?_⟩;refine Dd O (by1_c q1 bb _ (hF.heap (i:=0) O)) (Lq O en_103 O O) ?_;rintro _ w ⟨rfl,hE⟩;have hF:=hF.ext hE;refine⟨hF.mid 2 5,?_⟩;refine Ib O (Mj O) (Ib O (Gt O O) (Ib O (Ym O O) ?_));refine Gx O hF oZ O O Tr ?_;rintro w hF -;refine⟨hF.mid 2 5,?_⟩;refine Ib O (Kb O) (Ic (Ha (Ga (Ea (Ba (Dc O) (Ba (Di O) (Da ?_)))))));refine Jd O O (λhc3=>?_) (λhc3=>?_);refine Ja (Ba (Hd O) (Ba (Za O) ?_));refine Mh 1 hF (Gb (cs:=#[J (((0:Nat):Int))]) iX sizeOf3 mX Ua Ua Qb) ?_;rintro b6 w hb6 hF -;refine Js (news:=[J (((0:Nat):Int))]) (len':=1) (ys:=[J 0]) el_58 hF hS O O (O) (λ_=>⟨_,O,Jc (hF.cellsAll 0 O)⟩) (by simp[Value.oneCell']) (by simp only[maxLen];omega) (O) (O) Aa ?_;intro A2 c2 so_2 w hS2_so hF hE hnew;refine Ba (Yi O) (Da ?_);refine Md (.of [10]) (bQ [0,1,2,3,4,5,6,7,8,9] (.act 10 .nil)) hF ?_;rintro w hF -;refine⟨λwq=>FR w0 [] [(b6,.cells #[J (((0:Nat):Int))] 3),(bb,.cells #[J 1] 3),(b5,.cells #[.bool (false),J 0,I [],aQ,aQ] 38),(bs_,.cells #[aQ,J 0,.bool (false),J 0,I [],aQ,aQ,.bool (false),J 0,I [],aQ,aQ,.bool (false),J 0,I [],aQ,aQ] 40),(b4,.cells (qa.cells).toArray 36),(b3,.cells #[J 0] 3),(b2,.cells #[J 0,I [],aQ,aQ] 36),(b1,.cells (xv.cells).toArray 36)] wq,hF.mid 0 8,?_⟩
 refine Ib O (Hd O) (Ib O (Za O) (Ib O (Hd O) (Ib O (Za O) ?_)));obtain⟨ad3,q3,hA3,hk3,ho3⟩:=hL.cf_elem (i:=0) Oa;refine Sa O (v:=.pointer (some (ad3.add (0*17)))) (λw hC=>Na (i:=((0:Nat):Int)) Jz O hA3 O Aa Aa) (Sa O (v:=.pointer (some ((ad3.add (0*17)).add 1))) (λw hC=>Zb (a:=ad3.add (0*17)) Li O) (Sa O (v:=J (q3.k)) (λw hC=>Nc xQ O (hC.cell0 (hk3 1 Ab))) (Ng O (Bf cZ oZ O C0 2 O O) ?_)));refine Sa O (v:=.agg #[aQ,J (q3.k),.bool (false),J 0,I [],aQ,aQ,.bool false,J 0,I [],aQ,aQ,.bool false,J 0,I [],aQ,aQ]) (λw hC=>by kernel_rfl) (Sa O (v:=V bs_) (λw hC=>Ee (i:=((0:Nat):Int)) 0 Jz O O Ua Ua O) ?_);refine Q6 O hF pZ O O N_ ?_;rintro w hF -;refine Ic (Ya (Ha (Ja (Ba (Bi (((1:Nat):Int)) O O) (Ba (Za O) (Va ?_))))));refine Ta ⟨_,?_,1,⟨false,C4⟩,A2,1,c2,so_2,[J 0],(setV q3.k ⟨false,C4⟩),O,(gQ _),(λh=>absurd h Ua),(λ_=>⟨by rw[ho3.k];rfl,by rw[if_neg (by rw[hfo];decide)];exact⟨O,O⟩⟩),(hS2_so),(λ_ h=>by rw[hfo]at h;cases h),⟨O,O,O,O,O,O,O,O,O,O,trivial⟩,hF.drop 3⟩;omega;exact absurd hc3 Ua;have hfo:(Ch t c).2=true:=by simpa using hc2
 refine Ka (Ha (Ga (Ea (Ba (Dc O) (Ba (Di O) (Da ?_))))));refine Jd O O (λhc3=>?_) (λhc3=>?_);exact absurd hc3 (by rw[hfo];decide);refine Ka (Ha ?_);refine Md (.of [10]) (bQ [0,1,2,3,4,5,6,7,8,9] (.act 10 .nil)) hF ?_;intro w hF hE;have hY:=hY.ext hE;refine⟨λwq=>FR w0 [] [(b5,.cells (y.cells).toArray 38),(bs_,.cells #[aQ,J 0,.bool (false),J 0,I [],aQ,aQ,.bool (false),J 0,I [],aQ,aQ,.bool (false),J 0,I [],aQ,aQ] 40),(b4,.cells (qa.cells).toArray 36),(b3,.cells #[J 0] 3),(b2,.cells #[J 0,I [],aQ,aQ] 36),(b1,.cells (xv.cells).toArray 36)] wq,hF.mid 0 6,?_⟩;refine Ib O (Hd O) (Ib O (Za O) (Ib O (Hd O) (Ib O (Za O) ?_)));obtain⟨ad4,q4,hA4,hk4,ho4⟩:=hL.cf_elem (i:=0) Oa;refine Sa O (v:=.pointer (some (ad4.add (0*17)))) (λw hC=>Na (i:=((0:Nat):Int)) Jz O hA4 O Aa Aa) (Sa O (v:=.pointer (some ((ad4.add (0*17)).add 1))) (λw hC=>Zb (a:=ad4.add (0*17)) Li O) (Sa O (v:=J (q4.k)) (λw hC=>Nc xQ O (hC.cell0 (hk4 1 Ab))) (Ng O (Bf cZ oZ O C0 0 O O) ?_)));refine Sa O (v:=.agg #[aQ,J (q4.k),.bool (y.h),J (y.v.k),I (y.v.t),.slice y.v.A y.v.n y.v.c,.slice y.v.B y.v.m y.v.e,.bool false,J 0,I [],aQ,aQ,.bool false,J 0,I [],aQ,aQ]) (λw hC=>by kernel_rfl) (Sa O (v:=V bs_) (λw hC=>Ee (i:=((0:Nat):Int)) 0 Jz O O Ua Ua O) ?_);refine Q6 O hF pZ O O Tr ?_;intro w hF hE;have hY:=hY.store hE Oa;refine Ic (Ya (Ha (Ja (Ba (Bi (((1:Nat):Int)) O O) (Ba (Za O) (Va ?_))))));refine Ta ⟨_,?_,1,y,AO,0,cO,so,[],(setV q4.k y),O,(gQ _),(λh=>absurd h Ua),(λ_=>⟨by rw[ho4.k];rfl,by rw[if_pos hfo];exact⟨O,O⟩⟩),(hS),(λ_ _=>hY),⟨O,O,O,O,O,O,O,O,O,O,trivial⟩,hF.drop 1⟩;omega;refine Bc (Yb O ?_);refine Ha (Ga (Ga ?_));obtain rfl:i=1:=by omega
 obtain⟨rfl,hno⟩:=hz1 rfl;have hY:=hY rfl;have hF:FR w0 [] ([(bs_,(.cells (setV c.cls y).toArray 40)),(b4,.cells (qa.cells).toArray 36),(b3,.cells #[J 0] 3),(b2,.cells #[J 0,I [],aQ,aQ] 36),(b1,.cells (xv.cells).toArray 36)]++(so++[])) w:=hF;refine Ja (Ba (Hd O) (Ba (Nf iX O) (Ba (Mo O O) (Da ?_))));refine Jb O O (λhc4=>?_) (λhc4=>?_);obtain⟨hfd,rfl,rfl⟩:=open_yes hno hc4;refine Ea (Ia (w':=w) (v:=.agg #[J 0,I [],aQ,aQ]) Qb ?_);refine Ba (Hd O) (Ge hF nZ O O N_ ?_);rintro w hF -;refine Ba (Yi O) (Ba (Fb O) (Da ?_));refine Db (Cb (La (Wt O (l:=[J 0,I [],aQ,aQ]) O aZ nZ O (hF.cellsAll 3 O) (v:=.slice AO 1 cO) O (y:=J 10) O) ?_));exact .inl ⟨hfd,AO,cO,rfl,(hS.repOf (λq hq=>by have ho:=hF.own q (by simp[hq]);obtain⟨cur,e⟩:=hS.typ1.2 q hq;exact⟨ho.1,ho.2.elim id (λh=>by cases h),Ac ho.1,_,_,by rw[<-e];exact ho.1⟩) Y8 rfl),hF.same⟩;have hfd:=open_no hno hc4;refine Ka (Ha (Ea (Xb (Bf aZ nZ O hF.F 4 O O) (Ba (Hd O) (Ba (Hd O) ?_)))));refine Eb (IH [B3 c.cls (Bl (Ch t c).1)] [0] (some ⟨bs_,0,none⟩) (some ⟨b3,0,none⟩) 1 1 _ _ vT xv _ _ (hF.rowS (S:=λ_=>True) 0 O (n:=1) (ds:=[B3 c.cls (Bl (Ch t c).1)].map HA) (RepL.cons_mk (c2:=[]) (TZ (by have:=hcS.rig.2.2.2.2;omega) (hY hfd).rep.anyS) RepL.nil_mk) O Aa) (hF.rowS (S:=λ_=>False) 2 O (n:=1) Y8 O Aa) (λx hx=>by rw[pQ.1 hx];exact hcS2) (hF.rep hV) hHol hsz hmx (hG.ext hF.same)) (Af en_67 O O O O) ?_;rintro _ w ⟨qr,rfl,hRt,hE⟩;have hT:=RX.made (ids:=[b2]) hF.same.size (λx hx=>by rw[pQ.1 hx];exact hF.lt (i:=3) rfl) hRt;clear hRt;have hF:=hF.ext hE;refine Ba (Mj O) (Ba (Gt O O) (Ba (Rj O O) ?_));refine If hF oX nZ O ?_;intro b7 w hb7 hF hE;have hT:=hT.ext hE;refine Ba (Fb O) (Lb (Xb (Bf aZ nZ O hF.F 0 O O) (Ba (Za O) ?_)));refine Ge hF nZ O O sI4 ?_;intro w hF hE;have hT:=hT.store hE Oa
 refine Ba (Yi O) (Ba (Fb O) (Da ?_));refine Db (Cb (La (Wt O (l:=qr.cells) O aZ nZ O (hF.cellsAll 4 O) (v:=aQ) O (y:=J ((Fl vT [B3 c.cls (Bl (Ch t c).1)] [0]).2)) O) ?_))
 ·exact .inr ⟨hfd,qr,O,hT.done,hF.same⟩
abbrev nuS(i:UInt8):Tree:=.node 3 [i] [] []
def cS:Cf:=⟨[[97]],3,⟨true,nuS 49⟩,⟨true,nuS 50⟩,noS⟩
def s9:Sd:=⟨true,nuS 57⟩
def pS:Str:=[91,51,44,91,49,93,44,91,93,44,91,50,93,93]
def tS:List Mm:=[⟨pS,s9⟩]
def aS:Str:=[91,91,34,91,51,44,91,49,93,44,91,93,44,91,50,93,93,34,44,91,57,93,93,93]
def hmT:Tree:=.node 6 [] [[97]] [SK 0]
def MD:Tree:=.node 6 [] [[97]] [nuS 57]
theorem GM:Uf cS=(pS,true):=by kernel_rfl
theorem FV:Ef [] cS s9=(tS,0):=by kernel_rfl
theorem I7:Ch tS cS=(s9,true):=by kernel_rfl
theorem AH:(Ch [] cS).2=false:=by kernel_rfl
theorem F2:Bl (Ch tS cS).1=s9:=by kernel_rfl
theorem CO:Ox tS=(aS,0):=by kernel_rfl
theorem PM:Q0 aS=(tS,true):=by kernel_rfl
theorem CH:Te tS=true:=by kernel_rfl
theorem CD:Te []=true:=by kernel_rfl
theorem RK:(Fl hmT [cS] [0]).2=0:=by kernel_rfl
theorem LX:Fl hmT [B3 3 s9] [0]=(MD,0):=by kernel_rfl
theorem Z3:CfS cS:=⟨⟨.inr ⟨rfl,by kernel_rfl⟩,.inr ⟨rfl,by kernel_rfl⟩,.inl rfl,λh=>absurd h Ua,by decide,by decide⟩,by decide,by decide,by decide⟩
theorem Y1:Nb noS.val<=256/\Kd noS.val<=16777216:=by
  have h:decide (Nb noS.val<=256/\Kd noS.val<=16777216)=true:=by kernel_rfl
  exact of_decide_eq_true h
theorem XV:CfS (B3 3 noS):=by
  refine⟨⟨.inl O,.inl O,.inl O,λh=>?_,?_,?_⟩,Y1,Y1,Y1⟩
  ·exact absurd h Ua
  ·decide
  decide
theorem LY:CfS (B3 3 s9):=⟨⟨.inr ⟨rfl,by kernel_rfl⟩,.inl rfl,.inl rfl,λh=>absurd h Ua,by decide,by decide⟩,by decide,by decide,by decide⟩
theorem Ls:CfP cS:=⟨Z3.ok,by decide,by decide,by decide,by decide⟩
theorem S0:Nb hmT<=512/\Kd hmT<=16777216:=by
  have h:decide (Nb hmT<=512/\Kd hmT<=16777216)=true:=by kernel_rfl
  exact of_decide_eq_true h
theorem HB:HolIn 1 hmT:=λt ht=>⟨0,by omega,by omega,by simpa[hmT,Hh,Cj,SK]using ht⟩
theorem BI:SdOk s9:=⟨by decide,by simp[s9,Tq,V6]⟩
theorem P3:∀m∈tS,MmOk m:=λm hm=>by
  rw[pQ.1 hm];exact⟨BI,by decide,by decide⟩
theorem Z6:MmsP tS:=⟨P3,by decide,by
  have h:decide (Nb (Lu tS)<=1000000000)=true:=by kernel_rfl
  exact of_decide_eq_true h,by
  have h:decide (Kd (Lu tS)<=1073741824)=true:=by kernel_rfl
  exact of_decide_eq_true h⟩
theorem small_nb:(92:UInt8)∉aS:=by decide
theorem small_al:aS.length<=65536:=by decide
theorem MW:(Ze aS).2.2=0:=by kernel_rfl
theorem HJ:I4 (E5 aS):=λt ht=>by
  have h:((E5 aS).rest.all λt=>decide (t.k≠2))=true:=by kernel_rfl
  exact of_decide_eq_true (List.all_eq_true.1 h t ht)
theorem small_ne:(Vf aS).2.2=0->0<(Vf aS).1.length:=λ_=>by
  have h:decide (0<(Vf aS).1.length)=true:=by kernel_rfl
  exact of_decide_eq_true h
theorem RY:L5 (Gf aS).1=tS:=by kernel_rfl
theorem Vm{P:Program}{ρ:Operand->Value}{o:Oper}{w w':World}{b c:Bool}(h:(execOp ρ o).run P w=.ok (.value (.bool b)) w')(hb:b=c):(execOp ρ o).run P w=.ok (.value (.bool c)) w':=by rw[h,hb]
theorem WM(x:Tv)(w0:World):Calls prog 29 #[.agg (x.cells).toArray] w0 (Yc λv w'=>v=.agg #[.bool true,J (x.k),I (x.t),.slice x.A x.n x.c,.slice x.B x.m x.e]/\Same [] w0 w'):=by
 refine Fa func29 O ntmps29 Ab (Wb _) ?_;have hF:=FR.start w0 [];refine Ea (Ce hF O ?_);rintro b1 w hb1 hF -;refine Pc (cs:=#[.bool false,J 0,I [],aQ,aQ]) hF pX O ?_;rintro b2 w hb2 hF -;refine Lb (Xb (Bf aZ nZ O hF.F 1 O O) ?_);refine Ia (w':=w) (v:=.agg #[.bool true,J (x.k),I (x.t),.slice x.A x.n x.c,.slice x.B x.m x.e]) Qb (Ge hF oZ O O Pi ?_);rintro w hF -;refine Da (Db (Cb (La (Mg O (l:=[.bool true,J (x.k),I (x.t),.slice x.A x.n x.c,.slice x.B x.m x.e]) O cZ oZ O (hF.cellsAll 0 O)) ?_)));exact⟨O,hF.same⟩
theorem RG(s:Sd)(x y:Sv)(S S2:Nat->Prop)(w0:World)(hX:Rep S w0 (Le s) x.cells)(hY:Rep S2 w0 (Le s) y.cells):Calls prog 26 #[.agg (x.cells).toArray,.agg (y.cells).toArray] w0 (Yc λv w'=>v=.bool true/\Same [] w0 w'):=by
 refine Fa func26 O ntmps26 Ab (Uc _ _) ?_;have hF:=FR.start w0 [];refine Ea (Ce hF O ?_);rintro b1 w hb1 hF -;refine Ce hF O ?_;rintro b2 w hb2 hF -;refine Ba (Kb O) (Lb (Ba (Mb Ni O) (Xb (X3 dZ O hF.F 1 O O) (Ba (Mb Ni O) (Xb (X3 dZ O hF.F 0 O O) ?_)))));refine Ia (v:=.bool true) (Vm (Hv fX O O) (by rw[(Cd hX).1,(Cd hY).1];exact beq_self_eq_true _)) ?_;refine Ba (Dc O) (Ba (Mb We O) (Ia (v:=.agg (x.v.cells).toArray) (Wa (l:=x.v.cells) aZ nZ O O (hF.part 1 1 O O)) (Ba (Mb We O) (Ia (v:=.agg (y.v.cells).toArray) (Wa (l:=y.v.cells) aZ nZ O O (hF.part 0 1 O O)) ?_))));refine Pa hF (In (v':=.bool true) (M6 s.val s.val _ _ _ x.v.cells y.v.cells (hF.rep (Cd hX).2.2.2.2) (hF.rep (Cd hY).2.2.2.2)) (congrArg Value.bool (Al _))) (Xa XG O O O) ?_;intro w hF;refine Ba (Rb O O) (Ba (Kb O) (Da ?_));refine Gc (v:=.bool true) O O ?_;exact⟨O,hF.same⟩
theorem Mv(t:List Mm)(A B:Option Addr)(c e:Nat)(S S2:Nat->Prop)(w0:World)(hX:Rep S w0 (Xd t) [.slice A t.length c])(hY:Rep S2 w0 (Xd t) [.slice B t.length e]):Calls prog 12 #[.slice A t.length c,.slice B t.length e] w0 (Yc λv w'=>v=.bool true/\Same [] w0 w'):=by
 have hXl:=hX.slice_len;simp only[rQ]at hXl;have hYl:=hY.slice_len;simp only[rQ]at hYl;refine Fa func12 O ntmps12 Ab (Uc _ _) ?_;have hF:=FR.start w0 [];refine Ea (Ba (Kb O) (Da (Ga (Ea (Ba (Hd O) (Ba (Nf zZ O) (Ba (Hd O) (Ba (Nf zZ O) ?_))))))));refine Ia (v:=.bool false) (Xf (x_neq O O) Oa) (Da (R0 O (Ga (Ea (Ba (Fb O) (Da (Qa ?_)))))));refine Fc (λμ σ w=>∃(i:Nat),μ=t.length-i/\(i<=t.length)/\AllEq σ [(0,.slice A t.length c),(1,.slice B t.length e),(5,J ((i:Int)))]/\FR w0 [] [] w) _ ⟨0,O,(Nat.zero_le _),Oi,hF⟩ ?_;rintro μ σ w ⟨i,rfl,hi,hs,hF⟩;refine Cg.slots hs ?_;clear hs;intro σ;refine Ga (Ea (Ba (Za O) (Ba (Hd O) (Ba (Nf zZ O) (Ba (Pg O O) (Da ?_))))));refine Jb O O (λhc1=>?_) (λhc1=>?_);have hil:i<t.length:=by omega
 refine Ka (Ha (Ga (Qa (Ga ?_))));refine De (zs:=.of []) (bQ [0,1,2,3,4,5,6,7,8,9] (.act 10 (.free 11 .nil))) hF ?_;intro w hF;refine Ib O (Hd O) (Ib O (Za O) ?_);obtain⟨ad0,q0,hA0,hk0,hx0,hp0⟩:=hX.mm_elem (i:=i) (hil);refine Sa O (v:=.pointer (some (ad0.add (i*6)))) (λw hC=>Na (i:=(i:Int)) Ye O hA0 O Aa Aa) (Sa O (v:=.pointer (some ((ad0.add (i*6)).add 1))) (λw hC=>Zb (a:=ad0.add (i*6)) Xg O) (Sa O (v:=.agg (q0.cells).toArray) (λw hC=>Wa (l:=q0.cells) cZ oZ O O (Re (hC.cells0 hk0) 1 O)) (Ib O (Hd O) (Ib O (Za O) ?_))));obtain⟨ad1,q1,hA1,hk1,hx1,hp1⟩:=hY.mm_elem (i:=i) (hil);refine Sa O (v:=.pointer (some (ad1.add (i*6)))) (λw hC=>Na (i:=(i:Int)) Ye O hA1 O Aa Aa) (Sa O (v:=.pointer (some ((ad1.add (i*6)).add 1))) (λw hC=>Zb (a:=ad1.add (i*6)) Xg O) (Sa O (v:=.agg (q1.cells).toArray) (λw hC=>Wa (l:=q1.cells) cZ oZ O O (Re (hC.cells0 hk1) 1 O)) ?_));refine Vd hF (RG t[i].sd q0 q1 _ _ _ (hF.rep hx0) (hF.rep hx1)) O (Xa en_26 O O O) ?_;intro w hF;refine⟨hF,?_⟩;refine Ib O (Kb O) (Ic (Ha (Ga ?_)));refine De (zs:=.of []) (bQ [0,1,2,3,4,5,6,7,8,9,10,11,12,13,14] .nil) hF ?_;intro w hF;refine Ib O (Hd O) (Ib O (Za O) ?_);obtain⟨ad2,q2,hA2,hk2,hx2,hp2⟩:=hX.mm_elem (i:=i) (hil);refine Sa O (v:=.pointer (some (ad2.add (i*6)))) (λw hC=>Na (i:=(i:Int)) Ye O hA2 O Aa Aa) (Sa O (v:=.pointer (some ((ad2.add (i*6)).add 0))) (λw hC=>Zb (a:=ad2.add (i*6)) Dh O) (Sa O (v:=I (t[i].pr)) (λw hC=>Nc iZ O (hC.cell0 (hk2 0 Ab))) (Ib O (Hd O) (Ib O (Za O) ?_))));obtain⟨ad3,q3,hA3,hk3,hx3,hp3⟩:=hY.mm_elem (i:=i) (hil);refine Sa O (v:=.pointer (some (ad3.add (i*6)))) (λw hC=>Na (i:=(i:Int)) Ye O hA3 O Aa Aa) (Sa O (v:=.pointer (some ((ad3.add (i*6)).add 0))) (λw hC=>Zb (a:=ad3.add (i*6)) Dh O) (Sa O (v:=I (t[i].pr)) (λw hC=>Nc iZ O (hC.cell0 (hk3 0 Ab))) ?_))
 refine Sa O (v:=.bool false) (λw hC=>Xf (x_neqs O O) Oa) (Ib O (Dc O) (Ib O (Dc O) (Ib O (Di (b:=true) O) (Ib O (Pb O O) (Ic (Ha (Zd O (Ka (Ya (Ha (Ja (Ba (Za O) (Ba (Bi (((i+1:Nat):Int)) O O) (Ba (Fb O) ?_))))))))))))));refine Va (Ta ⟨_,?_,i+1,O,Aa,Oi,hF⟩);omega;refine Bc (Yb O ?_);refine Ha (Ea (Ba (Kb O) (Da ?_)));refine Gc (v:=.bool true) O O ?_;exact⟨O,hF.same⟩
theorem one27_c(c:Cf)(q:Cv)(S:Nat->Prop)(w0:World)(hq:CvOf S w0 c q):Calls prog 15 #[.agg q.cells.toArray] w0 (Yc λv w'=>v=.bool (Vn c.b.val 100&&(Vn c.l.val 100&&Vn c.r.val 100))/\Same [] w0 w'):=by
 refine Fa func15 O ntmps15 Ab (Wb _) ?_;have hF:=FR.start w0 [];refine Ea (Ce hF O ?_);rintro b1 w hb1 hF -;refine Ba (Kb O) (Lb (Ba (Mb Ct O) (Ba (Mb We O) (Ia (v:=.agg (q.x.v.cells).toArray) (Wa (l:=q.x.v.cells) aZ nZ O O (hF.part 0 3 O O)) ?_))));refine Pa hF (SI c.b.val 100 Ua Ua _ _ q.x.v.cells (hF.rep (Cd hq.x).2.2.2.2)) (Xa DI O O O) ?_;intro w hF;refine Ba (Dc O) (Sc (d:=7) O (λhg0=>?_) (λhg0=>?_));refine Ba (Mb Bu O) (Ba (Mb We O) (Ia (v:=.agg (q.y.v.cells).toArray) (Wa (l:=q.y.v.cells) aZ nZ O O (hF.part 0 8 O O)) ?_));refine Pa hF (SI c.l.val 100 Ua Ua _ _ q.y.v.cells (hF.rep (Cd hq.y).2.2.2.2)) (Xa DI O O O) ?_;intro w hF;refine Ba (Rb O O) (Ba (Dc O) ?_);refine Sc (d:=13) O (λhg1=>?_) (λhg1=>?_);refine Ba (Mb Dt O) (Ba (Mb We O) (Ia (v:=.agg (q.z.v.cells).toArray) (Wa (l:=q.z.v.cells) aZ nZ O O (hF.part 0 13 O O)) ?_));refine Pa hF (SI c.r.val 100 Ua Ua _ _ q.z.v.cells (hF.rep (Cd hq.z).2.2.2.2)) (Xa DI O O O) ?_;intro w hF;refine Ba (Rb O O) (Ba (Kb O) (Da ?_));refine Gc (v:=.bool _) O O ⟨?_,hF.same⟩;simp_all;refine Ca (Ca (Ca (Ca (Ba (Pb O O) (Ba (Kb O) (Da ?_))))));refine Gc (v:=.bool false) O O ⟨?_,hF.same⟩;simp_all;refine Ca (Ca (Ca (Ca (Ba (Pb O O) (Ba (Dc O) (Ca (Ca (Ca (Ca (Ba (Pb O O) (Ba (Kb O) (Da ?_))))))))))));refine Gc (v:=.bool false) O O ⟨?_,hF.same⟩;simp_all
open Go.RowKit
section
variable {P:Program}{R:Exit->Act->World->Prop}{n:Nat}{k:Kt}{s:Nat->Value}{w:World}{ops:List Oper}{zs:Lt}
theorem Wg.slots{L:Array Bool}{m:Nat}{C:World->Prop}{l:List (Nat × Value)}(hs:AllEq s l)(h:∀s',Wg P R n ops k zs L m C (Xm s' l) w):Wg P R n ops k zs L m C s w:=by
  have:=h s
  rwa [<-hs.eq]at this
end
def Yh(ops:List Oper)(i:Nat):List Nat:=match ops[i]? with
  | some o=>(o.after.toList.filter λe=>Region.binds .any e).map (·.on)
  | none=>[]
def lowOk(ops:List Oper):Bool:=(List.range ops.length).all λi=>(Yh ops i).all λd=>decide (d<i)
def Clo(ops:List Oper)(S:Nat->Bool):Prop:=∀i,i<ops.length->S i=true->∀d∈Yh ops i,S d=true
def IM(i:Nat)(S:Nat->Bool):Nat->Bool:=λk=>k==i || S k
def TU(l:Array Bool):Nat:=l.toList.count false
section
variable {P:Program}{R:Exit->Act->World->Prop}{n:Nat}{k:Kt}{ops:List Oper}{zs:Lt}{C:World->Prop}
theorem Gw{j:Nat}{next:(World->Prop)->(Nat->Value)->World->Prop}{s:Nat->Value}{w:World}{K:Act->World->Prop}(hz:zs.contains j=false)
    (hk:∀C' s' w',next C' s' w'->K (Kl n s') w') (h:RR P n ops zs j next C s w):opStep P ops.toArray j K (Kl n s) w:=by
  unfold RR at h;cases ho:ops[j]? with
  | none=>rw[ho]at h;exact h.elim
  | some o =>
    rw[ho]at h;have hoA:ops.toArray[j]? = some o:=by simpa using ho
    have fin:∀(s':Nat->Value)(w':World),Dk (zs.contains j) zs.D C (λC'=>next C' s') w'->K (Kl n s') w':=by
      intro s' w' hh;unfold Dk at hh;rw[if_neg (by rw[hz];decide)]at hh;obtain⟨C',-,-,hD⟩:=hh;exact hk _ _ _ hD
    unfold opStep;simp only[hoA];rw[wanted_eq];simp only[]at h;split
    ·rename_i hw1
     rw[if_pos hw1]at h;unfold StepN;rw[Yl];generalize (execOp (ev n s) o).run P w=r at *;cases r with
     | ok nx w' =>
       cases nx <;> simp only[]at h ⊢
       case value v=>rw[Ok];exact fin _ _ h
       case skip=>rw[Ok];exact fin _ _ h
       case enter f args=>exact h.mono λe w'' ⟨v,he,hk⟩=>⟨v,he,by dsimp only;rw[Ok];exact fin _ _ hk⟩
     | halt x w'=>simp only[]at h
    rename_i hw1
    rw[if_neg hw1]at h;rw[Ok];exact fin _ _ h
theorem ZB{i:Nat}{o:Oper}(ho:ops[i]? = some o){d:Nat}:d∈Yh ops i↔∃e∈o.after,Region.binds .any e=true/\e.on=d:=by
  unfold Yh;rw[ho];simp only[nQ,List.mem_filter,Array.mem_toList_iff];constructor
  ·rintro⟨e,⟨h1,h2⟩,h3⟩;exact⟨e,h1,h2,h3⟩
  rintro⟨e,h1,h2,h3⟩;exact⟨e,⟨h1,h2⟩,h3⟩
theorem R6{listed:Array Bool}{j:Nat}(h:j∈Region.ready .any ops.toArray listed):listed.getD j true=false/\j<ops.length/\∀d∈Yh ops j,listed.getD d false=true:=by
  obtain⟨h1,o,ho,h2⟩:=mem_ready.1 h;have ho':ops[j]? = some o:=by simpa using ho
  refine⟨h1,(List.getElem?_eq_some_iff.1 ho').1,λd hd=>?_⟩;obtain⟨e,he,hb,rfl⟩:=(ZB ho').1 hd;exact h2 e he hb
theorem MP{listed:Array Bool}{j:Nat}(h1:listed.getD j true=false)(h2:j<ops.length)(h3:∀d∈Yh ops j,listed.getD d false=true):j∈Region.ready .any ops.toArray listed:=by
  have ho':ops[j]? = some ops[j]:=List.getElem?_eq_getElem h2;refine mem_ready.2 ⟨h1,ops[j],by simpa using ho',λe he hb=>h3 _ ((ZB ho').2 ⟨e,he,hb,O⟩)⟩
theorem DM{l:Array Bool}{i:Nat}(h:i<l.size)(a b:Bool):l.getD i a=l.getD i b:=by simp[h]
theorem LG{l:Array Bool}{i:Nat}(h:l.getD i true=false):TU (l.setIfInBounds i true)+1=TU l:=by
  have hi:i<l.size:=by
    rcases Nat.lt_or_ge i l.size with h'|h'
    ·exact h'
    simp[Array.getElem?_eq_none h']at h
  have hv:l.toList[i]'(by simpa using hi)=false:=by simpa[hi]using h
  unfold TU;rw[Array.toList_setIfInBounds];have key:∀(L:List Bool)(i:Nat)(hi:i<L.length),L[i]=false->(L.set i true).count false+1=L.count false:=by
    intro L
    induction L with
    | nil=>intro i hi;simp at hi
    | cons a L ih =>
      intro i hi hv;cases i with
      | zero=>simp at hv;subst hv;simp
      | succ i =>
        have:=ih i (by simpa using hi) (by simpa using hv);simp only[List.set_cons_succ,List.count_cons];omega
  exact key l.toList i (by simpa using hi) hv
def Does(P:Program)(n:Nat)(ops:List Oper)(i:Nat)(s:Nat->Value)(w:World)(Q:(Nat->Value)->World->Prop):Prop :=
  ∀K:Act->World->Prop,(∀s' w',Q s' w'->K (Kl n s') w')->opStep P ops.toArray i K (Kl n s) w
def StepA(P:Program)(n:Nat)(ops:List Oper)(Inv:(Nat->Bool)->(Nat->Value)->World->Prop)(i:Nat):Prop :=
  ∀(S:Nat->Bool)(s:Nat->Value)(w:World),S i=false->(∀d∈Yh ops i,S d=true)->Clo ops S->Inv S s w->Does P n ops i s w (Inv (IM i S))
variable {i d:Nat}{s:Nat->Value}{w w':World}{Q:(Nat->Value)->World->Prop}{op:Op}{ty:Nat}{pos:String}{aft:Array Edge}{g:Option (Nat × Bool)}
theorem XI{v:Value}(hi:ops[i]? = some ⟨some d,op,ty,pos,aft,g⟩)(hrun:(execOp (ev n s) ⟨some d,op,ty,pos,aft,g⟩).run P w=.ok (.value v) w')(h:Q (Hf s d v) w')(hw:Hb ops n s ⟨some d,op,ty,pos,aft,g⟩=true:=by rfl):Does P n ops i s w Q:=λK hk=>by
  refine Gw (zs:=.of []) (C:=λ_=>True) (next:=λ_ s' w'=>Q s' w') O (λ_ s' w' h=>hk s' w' h) ?_;unfold RR;rw[hi];simp only[hw,if_true,hrun];exact⟨λ_=>True,λ_ h=>h,trivial,h⟩
theorem JV{f:FuncId}{args:Array Value}{Qc:Value->World->Prop}(hi:ops[i]? = some ⟨some d,op,ty,pos,aft,g⟩)(hc:Calls P f args w' (Yc Qc))(hrun:(execOp (ev n s) ⟨some d,op,ty,pos,aft,g⟩).run P w=.ok (.enter f args) w')
    (h:∀v w'',Qc v w''->Q (Hf s d v) w'') (hw:Hb ops n s ⟨some d,op,ty,pos,aft,g⟩=true:=by rfl):Does P n ops i s w Q:=λK hk=>by
  refine Gw (zs:=.of []) (C:=λ_=>True) (next:=λ_ s' w'=>Q s' w') O (λ_ s' w' h=>hk s' w' h) ?_;unfold RR;rw[hi];simp only[hw,if_true,hrun];exact hc.mono λe w'' ⟨v,he,hk⟩=>⟨v,he,λ_=>True,λ_ h=>h,trivial,h v w'' hk⟩
theorem does_dg(R:Exit->Act->World->Prop)(k:Kt)(h:Dg P R n ops (.inv n Q k) (.of []) (.act i .nil) (λ_=>True) s w):Does P n ops i s w Q:=λK hk=>by
  unfold Dg Dw at h;refine Gw (zs:=.of []) O (λC' s' w' hn=>?_) h;unfold Dw at hn;obtain⟨s'',he,hI'⟩:∃s'',Kl n s'=Kl n s''/\Q s'' w':=hn;rw[he];exact hk _ _ hI'
variable {Inv:(Nat->Bool)->(Nat->Value)->World->Prop}
theorem allS_c(hlow:lowOk ops=true)(hstep:∀i,i<ops.length->StepA P n ops Inv i)
    (hend:∀s w,Inv (λ_=>true) s w->Eg P R n .normal k s w) :
    ∀(m:Nat)(listed:Array Bool)(s:Nat->Value)(w:World),listed.size=ops.length->TU listed=m->Clo ops (λi=>listed.getD i true)->Inv (λi=>listed.getD i true) s w->Wg P R n ops k (.of []) listed m (λ_=>True) s w:=by
  have hS:∀(S S':Nat->Bool)(s:Nat->Value)(w:World),(∀i,S i=S' i)->Inv S s w->Inv S' s w:=λS S' s w h hI=>by rwa [<-funext h]
  have h1:∀i,i<ops.length->∀d∈Yh ops i,d<i:=by
    unfold lowOk at hlow;simpa only[List.all_eq_true,List.mem_range,decide_eq_true_eq]using hlow
  have toF:∀s w,Inv (λ_=>true) s w->k.post P R .normal (Kl n s) w:=λs w h=>by
    have:=hend s w h;unfold Eg at this;exact this
  intro m
  induction m with
  | zero =>
    intro listed s w hsz hcn hdn hI;have hn:∀i,listed.getD i true=true:=λi=>by
      cases hv:listed.getD i true with
      | true=>rfl
      | false=>have:=LG hv;omega
    unfold Wg;refine⟨List.eq_nil_iff_forall_not_mem.2 λi hi=>?_,toF _ _ (hS _ _ _ _ hn hI)⟩;have:=(R6 hi).1;rw[hn i]at this;cases this
  | succ m ih =>
    intro listed s w hsz hcn hdn hI;have hne:Region.ready .any ops.toArray listed≠[]:=by
      have hex:∃c,c<ops.length/\listed.getD c true=false:=by
        refine Classical.byContradiction λhno=>?_;have hn:∀b∈listed.toList,b=true:=λb hb=>by
          obtain⟨c,hc,rfl⟩:=List.mem_iff_getElem.1 hb;cases hv:listed.toList[c]with
          | true=>rfl
          | false=>exact absurd ⟨c,by rw[<-hsz];simpa using hc,by have hc':c<listed.size:=(by simpa using hc);simpa[hc']using hv⟩ hno
        have:TU listed=0:=List.count_eq_zero.2 λhm=>by cases hn _ hm
        omega
      have hmin:∀(t:Nat),(∃c,c<t/\c<ops.length/\listed.getD c true=false)->∃c,c<ops.length/\listed.getD c true=false/\∀d,d<c->listed.getD d true=true:=λt=>by
        induction t with
        | zero=>rintro⟨c,h,-⟩;omega
        | succ t iht =>
          rintro⟨c,h,hc,hv⟩;by_cases hb:∃c,c<t/\c<ops.length/\listed.getD c true=false
          ·exact iht hb
          refine⟨c, hc, hv, λd hd => ?_⟩;cases hvd:listed.getD d true with
          | true=>rfl
          | false=>exact absurd ⟨d,by omega,by omega,hvd⟩ hb
      obtain⟨c0,hc0,hv0⟩:=hex;obtain⟨c,hc,hv,hlow⟩:=hmin (c0+1) ⟨c0,by omega,hc0,hv0⟩;intro he;have:=MP (listed:=listed) hv hc (λd hd=>by
        have hd':=h1 c hc d hd;rw[DM Aa false true];exact hlow d hd')
      rw[he]at this;cases this
    unfold Wg;refine⟨trivial,λh0=>absurd h0 hne,λi hi=>?_⟩;obtain⟨r1,r2,r3⟩:=R6 hi;have r3':∀d∈Yh ops i,listed.getD d true=true:=λd hd=>by
      have hd':=h1 i r2 d hd;rw[DM Aa true false];exact r3 d hd
    refine hstep i r2 (λi=>listed.getD i true) s w r1 r3' hdn hI _ λs' w' hI'=>?_;rw[if_neg (by simp[Lt.contains])];have hi':i<listed.size:=by omega
    have hg:∀q,(listed.setIfInBounds i true).getD q true=IM i (λk=>listed.getD k true) q:=λq=>by
      unfold IM;by_cases hq:q=i
      ·subst hq;simp[hi']
      rw[getD_set_ne true (Ne.symm hq)];have:(q==i)=false:=by simpa using hq
      rw[this,Bool.false_or]
    refine⟨trivial,?_⟩;have:=ih (listed.setIfInBounds i true) s' w' (by simpa using hsz) (by have:=LG r1;omega) (λq hq (hl:(listed.setIfInBounds i true).getD q true=true) d hd=>show (listed.setIfInBounds i true).getD d true=true from ?_) (hS _ _ _ _ (λq=>(hg q).symm) hI')
    ·unfold Wg at this;exact this
    by_cases hdi : d = i
    ·subst hdi;simp[hi']
    rw[getD_set_ne true (Ne.symm hdi)];by_cases hqi:q=i
    ·subst hqi;exact r3' d hd
    rw[getD_set_ne true (Ne.symm hqi)]at hl;exact hdn q hq hl d hd
theorem c_all{id:Nat}(N:Nat)(hm:P.follows .mixedOrders=true)(hlow:lowOk ops=true)(hI:Inv (λi=>!decide (i<N)) s w.drew)(hstep:∀i,i<N->StepA P n ops Inv i)
    (hend:∀s w,Inv (λ_=>true) s w->Eg P R n .normal k s w) (hN:ops.length=N:=by rfl):Cg P R n (.region id ops.toArray true) k s w:=by
  subst hN;have hS:∀(S S':Nat->Bool)(s:Nat->Value)(w:World),(∀i,S i=S' i)->Inv S s w->Inv S' s w:=λS S' s w h hI=>by rwa [<-funext h]
  have hg:∀i,(Array.replicate ops.length false).getD i true = !decide (i<ops.length):=λi=>by
    by_cases h:i<ops.length <;> simp[h]
  have hW:=allS_c (R:=R) (k:=k) hlow hstep hend ops.length (Array.replicate ops.length false) s w.drew Oa (by simp[TU]) (λi hi (hl:(Array.replicate ops.length false).getD i true=true)=>by
    rw[hg i,decide_eq_true hi]at hl;cases hl) (hS _ _ _ _ (λi=>(hg i).symm) hI)
  unfold Cg;refine wp_region_any hm (Zo (zs:=.of []) (Q:=k.post P R .normal) (λ_ _ h=>h) _ (λ_=>True) _ _ _ ?_);unfold Wg at hW;simpa using hW
end
theorem T6{s:Nat->Value}{d:Nat}{v:Value}:Hf s d v d=v:=by simp[Hf]
theorem J9{s:Nat->Value}{d e:Nat}{v:Value}(h:e≠d):Hf s d v e=s e:=by
  have:Nat.beq e d=false:=by
    cases hb:Nat.beq e d with
    | false=>rfl
    | true=>exact absurd (Nat.eq_of_beq_eq_true hb) h
  rw[Hf,this,cond_false]
abbrev Fact:=Nat × Nat × (Option Value->Value->World->Prop)
def Nr(A:Nat × Nat)(S:Nat->Bool)(s:Nat->Value):Option Value:=if S A.1=true then some (s A.2) else none
def AllG(A:Nat × Nat)(S:Nat->Bool)(s:Nat->Value)(w:World)(l:List Fact):Prop:=∀(k:Nat)(f:Fact),l[k]? = some f->S f.1=true->f.2.2 (Nr A S s) (s f.2.1) w
def StabG(l:List Fact):Prop:=∀(k:Nat)(f:Fact),l[k]? = some f->∀(a:Option Value)(v:Value)(w w':World),Same [] w w'->f.2.2 a v w->f.2.2 a v w'
def StabN(l:List Fact):Prop:=∀(k:Nat)(f:Fact),l[k]? = some f->∀(v:Value)(w w':World),Same [] w w'->f.2.2 none v w->f.2.2 (some (.pointer (some ⟨w.heap.size,0,none⟩))) v w'
theorem StabG.nil:StabG []:=λk f h=>by simp at h
theorem StabG.cons{f:Fact}{l:List Fact}(h:∀a v w w',Same [] w w'->f.2.2 a v w->f.2.2 a v w')(hl:StabG l):StabG (f::l):=λk g hg=>by
  cases k with
  | zero => obtain rfl : f = g := by simpa using hg
            exact h
  | succ k=>exact hl k g (by simpa using hg)
theorem StabN.nil:StabN []:=λk f h=>by simp at h
theorem StabN.cons{f:Fact}{l:List Fact}(h:∀v w w',Same [] w w'->f.2.2 none v w->f.2.2 (some (.pointer (some ⟨w.heap.size,0,none⟩))) v w')(hl:StabN l):StabN (f::l):=λk g hg=>by
  cases k with
  | zero => obtain rfl : f = g := by simpa using hg
            exact h
  | succ k=>exact hl k g (by simpa using hg)
def AC(A:Nat × Nat)(l:List Fact):Bool:=decide (A.2::l.map (·.2.1)).Nodup&&decide (A.1::l.map (·.1)).Nodup
theorem CM{l:List Nat}(hn:l.Nodup){i j:Nat}(hi:i<l.length)(hj:j<l.length)(h:l[i]=l[j]):i=j:=by
  have hp:=List.pairwise_iff_getElem.1 hn;rcases Nat.lt_trichotomy i j with h'|h'|h'
  ·exact absurd h (hp i j hi hj h')
  ·exact h'
  exact absurd h.symm (hp j i hj hi h')
theorem Sn{i k:Nat}{S:Nat->Bool}(h:k≠i):IM i S k=S k:=by
  unfold IM;have:(k==i)=false:=by simpa using h
  rw[this,Bool.false_or]
section
variable {A:Nat × Nat}{S:Nat->Bool}{s:Nat->Value}{w w':World}{l:List Fact}{v:Value}
theorem AllG.put(hI:AllG A S s w l)(hst:StabG l)(hd:AC A l=true)(k:Nat){i d:Nat}{G:Option Value->Value->World->Prop}(hk:l[k]? = some (i,d,G))(hs:Same [] w w')(hv:G (Nr A S s) v w'):AllG A (IM i S) (Hf s d v) w' l:=by
  unfold AC at hd;rw[Bool.and_eq_true,decide_eq_true_eq,decide_eq_true_eq,List.nodup_cons,List.nodup_cons]at hd;obtain⟨hkl,hke⟩:=List.getElem?_eq_some_iff.1 hk;have nA1:A.1≠i:=λh=>hd.2.1 (nQ.2 ⟨_,List.mem_iff_getElem.2 ⟨k,hkl,hke⟩,h.symm⟩);have nA2:A.2≠d:=λh=>hd.1.1 (nQ.2 ⟨_,List.mem_iff_getElem.2 ⟨k,hkl,hke⟩,h.symm⟩);have eA:Nr A (IM i S) (Hf s d v)=Nr A S s:=by unfold Nr;rw[Sn nA1,J9 nA2]
  intro k' f hf hS;rw[eA];obtain⟨hkl',hke'⟩:=List.getElem?_eq_some_iff.1 hf;by_cases e:k'=k
  ·subst e
   rw[hk]at hf;obtain rfl:=lQ hf;show G _ (Hf s d v d) w';rw[T6];exact hv
  have n1 : f.2.1 ≠ d := λh => e (CM hd.1.2 (i := k') (j := k) (by simpa using hkl') (by simpa using hkl) (by simp[hke, hke', h]));have n2:f.1≠i:=λh=>e (CM hd.2.2 (i:=k') (j:=k) (by simpa using hkl') (by simpa using hkl) (by simp[hke,hke',h]));rw[Sn n2]at hS;rw[J9 n1];exact hst k' f hf _ _ _ _ hs (hI k' f hf hS)
theorem AllG.putA(hI:AllG A S s w l)(hst:StabN l)(hd:AC A l=true)(hA:S A.1=false)(hs:Same [] w w'):AllG A (IM A.1 S) (Hf s A.2 (.pointer (some ⟨w.heap.size,0,none⟩))) w' l:=by
  unfold AC at hd;rw[Bool.and_eq_true,decide_eq_true_eq,decide_eq_true_eq,List.nodup_cons,List.nodup_cons]at hd;have eA:Nr A (IM A.1 S) (Hf s A.2 (.pointer (some ⟨w.heap.size,0,none⟩)))=some (.pointer (some ⟨w.heap.size,0,none⟩)):=by
    unfold Nr IM;simp[T6]
  intro k f hf hS;rw[eA];obtain⟨hkl,hke⟩:=List.getElem?_eq_some_iff.1 hf;have n1:f.2.1≠A.2:=λh=>hd.1.1 (nQ.2 ⟨_,List.mem_iff_getElem.2 ⟨k,hkl,hke⟩,h⟩);have n2:f.1≠A.1:=λh=>hd.2.1 (nQ.2 ⟨_,List.mem_iff_getElem.2 ⟨k,hkl,hke⟩,h⟩);rw[Sn n2]at hS;rw[J9 n1];have:=hI k f hf hS;rw[show Nr A S s=none by unfold Nr;rw[hA];rfl]at this;exact hst k f hf _ _ _ hs this
theorem AllG.ext{S':Nat->Bool}(hI:AllG A S s w l)(h:∀i,S i=S' i):AllG A S' s w l:=by
  have:S=S':=funext h;rw[<-this];exact hI
theorem AllG.at(hI:AllG A S s w l)(k:Nat){i d:Nat}{G:Option Value->Value->World->Prop}(hk:l[k]? = some (i,d,G))(hS:S i=true):G (Nr A S s) (s d) w:=hI k _ hk hS
end
theorem UE{w:World}{b n:Nat}{l:List Value}{T:TypeId}{ds:List D}(h:w.heap[b]? = some (.cells l.toArray T))(hr:RepL (λ_=>True) w ds l)(hn:ds.length=n)(hm:n<=9223372036854775807):Rep (λ_=>True) w (.slice ds) [W b n n] :=
  Rep.slice_mk hn.symm (gQ _) hm λ_=>⟨_,rfl,l,λj hj=>⟨by
    have e:(⟨b,0,none⟩:Addr).add j=⟨b,0+j,none⟩:=by unfold Addr.add;split <;> simp_all
    rw[e,Zc h (0+j)];simp[hj],trivial⟩,hr⟩
def JM(v:Value):Option Value->Value->World->Prop:=λ_ u _=>u=v
def N3(N:Nat)(o:Obj):Option Value->Value->World->Prop:=λ_ u w=>∃b,u=W b N N/\w.heap[b]? = some o
theorem Yr{w w':World}{b:Nat}{o:Obj}(h:w.heap[b]? = some o)(hs:Same [] w w'):w'.heap[b]? = some o:=(hs.block b (Ac h) Oa).trans h
theorem M3{v:Value}:∀a u w w',Same [] w w'->JM v a u w->JM v a u w':=λ_ _ _ _ _ h=>h
theorem JT{N:Nat}{o:Obj}:∀a u w w',Same [] w w'->N3 N o a u w->N3 N o a u w':=λ_ _ _ _ hs ⟨b,e,h⟩=>⟨b,e,Yr h hs⟩
theorem E3{v:Value}:∀u w w',Same [] w w'->JM v none u w->JM v (some (.pointer (some ⟨w.heap.size,0,none⟩))) u w':=λ_ _ _ _ h=>h
theorem QT{N:Nat}{o:Obj}:∀u w w',Same [] w w'->N3 N o none u w->N3 N o (some (.pointer (some ⟨w.heap.size,0,none⟩))) u w':=λ_ _ _ hs ⟨b,e,h⟩=>⟨b,e,Yr h hs⟩
def IG(Z:Nat->World->Prop)(w00:World)(sl:List (Nat × Value))(A:Nat × Nat)(l:List Fact)(S:Nat->Bool)(s:Nat->Value)(w:World):Prop :=
  AllEq s sl/\Same [] w00 w/\AllG A S s w l/\(S A.1=true->∃b,s A.2=V b/\Z b w/\w00.heap.size<=b)
def Fz(st:Nat)(J1 J2:(Nat->Bool)->(Nat->Value)->World->Prop)(S:Nat->Bool)(s:Nat->Value)(w:World):Prop:=if S st=true then J2 S s w else J1 S s w
def HO(sl:List (Nat × Value))(A:Nat × Nat)(l:List Fact):Bool:=sl.all λx=>!(A.2::l.map (·.2.1)).contains x.1
structure Ph (Z:Nat->World->Prop) (sl:List (Nat × Value)) (A:Nat × Nat) (l:List Fact):Prop where
  st:StabG l
  sn:StabN l
  di:AC A l=true
  ap:HO sl A l=true
  z:∀b w w',Same [] w w'->Z b w->Z b w'
theorem AllEq.updS{s:Nat->Value}{d:Nat}{v:Value}:∀{l:List (Nat × Value)},AllEq s l->(∀x∈l,x.1≠d)->AllEq (Hf s d v) l
  | [],_,_=>trivial
  | (e,u)::l,h,hn=>⟨by rw[J9 (hn (e,u) Oa)];exact h.1,AllEq.updS h.2 λx hx=>hn x (by simp[hx])⟩
section
variable {P:Program}{R:Exit->Act->World->Prop}{n:Nat}{k:Kt}{ops:List Oper}{Z:Nat->World->Prop}{w00:World}{sl:List (Nat × Value)}{A:Nat × Nat}{l:List Fact}{S:Nat->Bool}{s:Nat->Value}{w w':World}{i d:Nat}{op:Op}{ty:Nat}{pos:String}{aft:Array Edge}{g:Option (Nat × Bool)}{G:Option Value->Value->World->Prop}
theorem IG.put(h:IG Z w00 sl A l S s w)(hp:Ph Z sl A l)(k:Nat)(hk:l[k]? = some (i,d,G))(hs:Same [] w w'){v:Value}(hv:G (Nr A S s) v w'):IG Z w00 sl A l (IM i S) (Hf s d v) w':=by
  obtain⟨h1,h2,h3,h4⟩:=h;have hm:(i,d,G)∈l:=List.mem_of_getElem? hk;have hdi:=hp.di;unfold AC at hdi;rw[Bool.and_eq_true,decide_eq_true_eq,decide_eq_true_eq,List.nodup_cons,List.nodup_cons]at hdi;have nA1:A.1≠i:=λh=>hdi.2.1 (nQ.2 ⟨_,hm,h.symm⟩);have nA2:A.2≠d:=λh=>hdi.1.1 (nQ.2 ⟨_,hm,h.symm⟩);have hap:=hp.ap;unfold HO at hap;refine⟨h1.updS λx hx e=>?_,h2.trans hs,h3.put hp.st hp.di k hk hs hv,λhA=>?_⟩
  ·have := List.all_eq_true.1 hap x hx
   have hc:(A.2::l.map (·.2.1)).contains x.1=true:=List.contains_iff_mem.2 (List.mem_cons_of_mem _ (nQ.2 ⟨_,hm,e.symm⟩));rw[hc]at this;cases this
  rw[Sn nA1]at hA;obtain⟨b,e,hz,hb⟩:=h4 hA;exact⟨b,by rw[J9 nA2];exact e,hp.z _ _ _ hs hz,hb⟩
theorem IG.putA(h:IG Z w00 sl A l S s w)(hp:Ph Z sl A l)(hA:S A.1=false)(hs:Same [] w w')(hz:Z w.heap.size w'):IG Z w00 sl A l (IM A.1 S) (Hf s A.2 (.pointer (some ⟨w.heap.size,0,none⟩))) w':=by
  obtain⟨h1,h2,h3,h4⟩:=h;have hap:=hp.ap;unfold HO at hap;refine⟨h1.updS λx hx e=>?_,h2.trans hs,h3.putA hp.sn hp.di hA hs,λ_=>⟨_,T6,hz,h2.size⟩⟩;have:=List.all_eq_true.1 hap x hx;have hc:(A.2::l.map (·.2.1)).contains x.1=true:=List.contains_iff_mem.2 (by rw[e];simp);rw[hc]at this;cases this
theorem Ln(h:Nat.blt d n=true):ev n s (.tmp d)=s d:=by
  show (bif Nat.blt d n then s d else undef)=s d;rw[h];rfl
theorem IG.dep(h:IG Z w00 sl A l S s w)(hd:∀d∈Yh ops i,S d=true)(k:Nat){k' d':Nat}{G':Option Value->Value->World->Prop}(hk:l[k]? = some (k',d',G'))(hm:(Yh ops i).contains k'=true):G' (Nr A S s) (s d') w :=
  h.2.2.1 k _ hk (hd k' (List.contains_iff_mem.1 hm))
theorem Bw(hp:Ph Z sl A l)(k:Nat)(hk:l[k]? = some (i,d,G))(hi:ops[i]? = some ⟨some d,op,ty,pos,aft,g⟩)
    (h:∀S s w,(∀d∈Yh ops i,S d=true)->IG Z w00 sl A l S s w->∃v w',(execOp (ev n s) ⟨some d,op,ty,pos,aft,g⟩).run P w=.ok (.value v) w'/\Same [] w w'/\G (Nr A S s) v w')
    (hw:∀s,Hb ops n s ⟨some d,op,ty,pos,aft,g⟩=true:=by exact λ_=>rfl):StepA P n ops (IG Z w00 sl A l) i:=λS s w hS hd _ hI=>by
  obtain⟨v,w',hr,hs,hG⟩:=h S s w hd hI;exact XI hi hr (hI.put hp k hk hs hG) (hw s)
theorem ZY(hp:Ph Z sl A l)(k:Nat)(hk:l[k]? = some (i,d,G))(hi:ops[i]? = some ⟨some d,op,ty,pos,aft,g⟩)
    (h:∀S s w,(∀d∈Yh ops i,S d=true)->IG Z w00 sl A l S s w->∃f args w' Qc,Calls P f args w' (Yc Qc)/\(execOp (ev n s) ⟨some d,op,ty,pos,aft,g⟩).run P w=.ok (.enter f args) w'/\∀v w'',Qc v w''->Same [] w w''/\G (Nr A S s) v w'')
    (hw:∀s,Hb ops n s ⟨some d,op,ty,pos,aft,g⟩=true:=by exact λ_=>rfl):StepA P n ops (IG Z w00 sl A l) i:=λS s w hS hd _ hI=>by
  obtain⟨f,args,w',Qc,hc,hr,hq⟩:=h S s w hd hI;exact JV hi hc hr (λv w'' hQ=>hI.put hp k hk (hq v w'' hQ).1 (hq v w'' hQ).2) (hw s)
theorem g_cp(hp:Ph Z sl A l)(k k':Nat){i' d':Nat}(hk:l[k]? = some (i,d,G))(hk':l[k']? = some (i',d',G))(hi:ops[i]? = some ⟨some d,.move (.tmp d'),ty,pos,aft,g⟩)(hm:(Yh ops i).contains i'=true)(hn:Nat.blt d' n=true)
    (hw:∀s,Hb ops n s ⟨some d,.move (.tmp d'),ty,pos,aft,g⟩=true:=by exact λ_=>rfl):StepA P n ops (IG Z w00 sl A l) i :=
  Bw hp k hk hi (λS s w hd hI=>⟨s d',w,Oo (Ln hn),Same.refl _ _,hI.dep hd k' hk' hm⟩) hw
theorem g_as(hp:Ph Z sl A l)(k k':Nat){i' d':Nat}(hk:l[k]? = some (i,d,G))(hk':l[k']? = some (i',d',G))(hi:ops[i]? = some ⟨some d,.assign (.tmp d'),ty,pos,aft,g⟩)(hm:(Yh ops i).contains i'=true)(hn:Nat.blt d' n=true)
    (hw:∀s,Hb ops n s ⟨some d,.assign (.tmp d'),ty,pos,aft,g⟩=true:=by exact λ_=>rfl):StepA P n ops (IG Z w00 sl A l) i :=
  Bw hp k hk hi (λS s w hd hI=>⟨s d',w,Gm (Ln hn),Same.refl _ _,hI.dep hd k' hk' hm⟩) hw
theorem g_mv{v:Value}{e:Nat}(hp:Ph Z sl A l)(k:Nat)(hk:l[k]? = some (i,d,JM v))(hi:ops[i]? = some ⟨some d,.move (.tmp e),ty,pos,aft,g⟩)(m:Nat)(he:sl[m]? = some (e,v))(hn:Nat.blt e n=true)
    (hw:∀s,Hb ops n s ⟨some d,.move (.tmp e),ty,pos,aft,g⟩=true:=by exact λ_=>rfl):StepA P n ops (IG Z w00 sl A l) i :=
  Bw hp k hk hi (λS s w hd hI=>⟨v,w,Oo ((Ln hn).trans (by
    have:∀{sl:List (Nat × Value)},AllEq s sl->(e,v)∈sl->s e=v:=fun {sl}=>by
      induction sl with
      | nil=>intro _ h;cases h
      | cons x sl ih => intro h hm
                        rcases oQ.1 hm with rfl|hm
                        ·exact h.1
                        exact ih h.2 hm
    exact this hI.1 (List.mem_of_getElem? he))),Same.refl _ _,O⟩) hw
theorem VX{N:Nat}{o:Obj}(dl:List (Nat × Value))(hp:Ph Z sl A l)(k:Nat)(hk:l[k]? = some (i,d,N3 N o))(hi:ops[i]? = some ⟨some d,op,ty,pos,aft,g⟩)
    (hdl:∀S s w,(∀d∈Yh ops i,S d=true)->IG Z w00 sl A l S s w->AllEq s dl) (hr:∀s w,(execOp (ev n (Xm s dl)) ⟨some d,op,ty,pos,aft,g⟩).run P w=.ok (.value (.slice (some ⟨w.heap.size,0,none⟩) N N)) (w.alloc o))
    (hw:∀s,Hb ops n s ⟨some d,op,ty,pos,aft,g⟩=true:=by exact λ_=>rfl):StepA P n ops (IG Z w00 sl A l) i :=
  Bw hp k hk hi (λS s w hd hI=>⟨_,_,by have:=hr s w;rwa [<-(hdl S s w hd hI).eq]at this,(Same.alloc w o).mono Oa,w.heap.size,rfl,heap_alloc_new w o⟩) hw
theorem g_al{t:TypeId}{z:Value}{o:Obj}(hp:Ph (λb w=>w.heap[b]? = some o) sl A l)(hi:ops[A.1]? = some ⟨some A.2,.alloc t,ty,pos,aft,g⟩)(hz:∀w,(zeroValue t).run P w=.ok z w)(ho:(.cells z.cells t:Obj)=o)
    (hw:∀s,Hb ops n s ⟨some A.2,.alloc t,ty,pos,aft,g⟩=true:=by exact λ_=>rfl):StepA P n ops (IG (λb w=>w.heap[b]? = some o) w00 sl A l) A.1:=λS s w hS hd _ hI=>by
  subst ho;exact XI hi (Xh hz) (hI.putA hp hS ((Same.alloc w _).mono Oa) (heap_alloc_new w _)) (hw s)
variable {st:Nat}{J1 J2:(Nat->Bool)->(Nat->Value)->World->Prop}
theorem Does.mono{Q Q':(Nat->Value)->World->Prop}(h:Does P n ops i s w Q)(hq:∀s w,Q s w->Q' s w):Does P n ops i s w Q':=λK hk=>h K λs w h=>hk s w (hq s w h)
theorem StepA.ahead(h:StepA P n ops J1 i)(hm:(Yh ops st).contains i=true:=by kernel_rfl)(hl:decide (i<st/\st<ops.length)=true:=by kernel_rfl):StepA P n ops (Fz st J1 J2) i:=λS s w hS hd hc hI=>by
  have hl:=of_decide_eq_true hl;have hst:S st=false:=by
    cases e:S st with
    | false=>rfl
    | true=>rw[hc st hl.2 e i (List.contains_iff_mem.1 hm)]at hS;cases hS
  unfold Fz at hI ⊢;rw[if_neg (by rw[hst];decide)]at hI;exact (h S s w hS hd hc hI).mono λs w h=>by rw[if_neg (by rw[Sn Aa,hst];decide)];exact h
theorem StepA.behind(h:StepA P n ops J2 i)(hm:(Yh ops i).contains st=true:=by kernel_rfl)(hne:decide (st≠i)=true:=by kernel_rfl):StepA P n ops (Fz st J1 J2) i:=λS s w hS hd hc hI=>by
  have hst:=hd st (List.contains_iff_mem.1 hm);unfold Fz at hI ⊢;rw[if_pos hst]at hI;exact (h S s w hS hd hc hI).mono λs w h=>by rw[if_pos (by rw[Sn (of_decide_eq_true hne)];exact hst)];exact h
theorem StepA.both(h1:StepA P n ops J1 i)(h2:StepA P n ops J2 i)(hne:decide (st≠i)=true):StepA P n ops (Fz st J1 J2) i:=λS s w hS hd hc hI=>by
  unfold Fz at hI ⊢;rw[show IM i S st=S st from Sn (of_decide_eq_true hne)];by_cases hst:S st=true
  ·rw[if_pos hst]at hI
   exact (h2 S s w hS hd hc hI).mono λs w h=>by rw[if_pos hst];exact h
  rw[if_neg hst]at hI;exact (h1 S s w hS hd hc hI).mono λs w h=>by rw[if_neg hst];exact h
theorem StepA.at(h:∀S s w,S st=false->(∀d∈Yh ops st,S d=true)->Clo ops S->J1 S s w->Does P n ops st s w (J2 (IM st S))):StepA P n ops (Fz st J1 J2) st:=λS s w hS hd hc hI=>by
  unfold Fz at hI ⊢;rw[if_neg (by rw[hS];decide)]at hI;exact (h S s w hS hd hc hI).mono λs w h=>by rw[if_pos (by unfold IM;simp)];exact h
theorem below{Q:Nat->Prop}{m:Nat}(h:∀i,i<m->Q i)(hm:Q m):∀i,i<m+1->Q i:=λi hi=>by
  rcases Nat.lt_or_ge i m with h'|h'
  ·exact h i h'
  obtain rfl : i = m := by omega
  exact hm
theorem XY{Q:Nat->Prop}:∀i,i<0->Q i:=λi hi=>absurd hi (Nat.not_lt_zero i)
end
attribute [irreducible] StepA Does
end Go.Scarf
