/- A part of the proof. -/
import Derived.Test.YtidlkjpohhbbcaaGreatDoorQ33
set_option linter.all false
set_option maxHeartbeats 8000000
set_option maxRecDepth 10000
set_option synthInstance.maxHeartbeats 0
set_option synthInstance.maxSize 9999
namespace Go.Scarf
open List renaming length->aL
open Go.RowKit Go.Proofs Go.Proofs.Tryz
variable {s:Sd}{S:Nat->Prop}{w w':World}{t:List Mm}{a b y:Tree}{i:List Nat}{cs:List Value}
structure SdZ (s:Sd):Prop where
  sz:La s.val<=1000000
  ks:Rg s.val<=1000000
  mx:Ob s.val<=16000000
def EC(A:Option Addr)(n c:Nat)(w0:World):Calls prog 39 #[.slice A n c] w0 (Za λv w'=>v=.agg #[J 5,I [],aQ,.slice A n c]/\Same [] w0 w'):=by
 refine Ea func39 ntmps39 ?_;intro hF;refine rn 3 ?_;rintro b1 w hb1 hF -;refine rn 5<|Ba (w':=w) (v:=.agg #[J 5,I [],aQ,.slice A n c]) Ua ?_;refine rn 1 ?_;rintro w hF -;refine rn 3 ?_;exact⟨O,hF.same⟩
theorem SK(s:Sd)(x:Sv)(S:Nat->Prop)(w0:World)(hX:Rep S w0 (Ad s) x.cells)(hs:SdZ s):GF 41 #[.agg x.cells.toArray] (Na (Ed s)) w0:=by
 have hx:=Lc hX;refine Ea func41 ntmps41 ?_;intro hF;refine rn 3 ?_;rintro b1 w hb1 hF -;refine rn 1 ?_;rintro b2 w hb2 hF -;refine rn 11 ⟨λhc0=>?_,λhc0=>?_⟩;have h0:s.has=false:=by rw[<-hx.1];simpa using hc0
 refine rn 2<|Ia (EC none 0 0 _) ?_;rintro w hF -;refine rn 1 ?_;rintro w hF -;refine rn 3 ?_;have e:Ed s=.node 5 [] [] []:=by unfold Ed;rw[tQ bR]
 rw[e];exact⟨_,O,Rep.tree_mk (ks:=[]) (xs:=[]) ⟨Ja,Ja⟩ Da (Rep.nil_slice 0 Aa none)<|Rep.nil_slice 0 Aa none,hF.same⟩;have h0:s.has=true:=by rw[<-hx.1];simpa using hc0
 refine rn 6 ?_;refine Fc (cloneR_c s.val _ _ x.v.cells (hF.rep hx.2.2.2.2) (by have:=hs.sz;omega) (by have:=hs.ks;omega)) ?_;rintro _ w ⟨ct,rfl,hRt,hE⟩;obtain⟨q,rfl,-⟩:=Pe hRt;have hY:=RX.made (ids:=[b2,b1]) hF.same.size (λx hx=>hF.lt_ids (aS hx)) hRt;have hF:=hF.ext hE;clear hE hRt;refine rn 1 ?_;intro b3 w hb3 hF hE;have hY:=hY.alloc hE hb3;refine Ia (EC (some ⟨b3,0,none⟩) 1 1 _) ?_;intro w hF hE;have hY:=hY.ext hE;refine rn 1 ?_;intro w hF hE;have hY:=hY.store hE qK;refine rn 3 ?_;have e:Ed s=.node 5 [] [] [s.val]:=by unfold Ed;rw[uQ h0]
 rw[e]
 ·exact⟨_,O,Rep.tree_mk (ks:=[]) (xs:=[s.val]) ⟨Ja,Ja⟩ Da (Rep.nil_slice 0 Aa none) ((hF.rowS 0 O (n:=1) (RepL.cons_mk (c2:=[]) hY.done RepL.nil_mk) O Aa).weaken λb hb hl=>hb.elim id λe=>by rw[e];exact⟨hF.ge (i:=0) O,hF.lt (i:=0) O,_,_,hF.heap (i:=0) O⟩),hF.same⟩
theorem rside_c(s:Sd)(x:Sv)(k:Int)(S:Nat->Prop)(w0:World)(hX:Rep S w0 (Ad s) x.cells)(hs:SdZ s):Calls prog 52 #[.agg x.cells.toArray,J k] w0 (Za λv w'=>v=.bool (Uo s k)/\Same [] w0 w'):=by
 have hx:=Lc hX;refine Ea func52 ntmps52 ?_;intro hF;refine rn 3 ?_;rintro b1 w hb1 hF -;refine rn 7 ?_;refine Ia (MH s.val (by have:=hs.sz;omega) (by have:=hs.mx;omega) _ _ x.v.cells<|hF.rep hx.2.2.2.2) ?_;rintro w hF -;refine rn 10 ⟨λhg0=>?_,λhg0=>?_⟩;refine rn 16 ⟨yQ Value.bool ?_,hF.same⟩;have h1:=hx.1;have h2:=hx.2.1;unfold Uo;simp_all;refine rn 3 ⟨λhg1=>?_,λhg1=>?_⟩;refine rn 4 ⟨λhg2=>?_,λhg2=>?_⟩;refine rn 11 ⟨yQ Value.bool ?_,hF.same⟩;have h1:=hx.1;have h2:=hx.2.1;unfold Uo;simp_all;refine rn 11 ⟨yQ Value.bool ?_,hF.same⟩;have h1:=hx.1;have h2:=hx.2.1;unfold Uo;simp_all;refine rn 14 ⟨yQ Value.bool ?_,hF.same⟩;have h1:=hx.1;have h2:=hx.2.1;unfold Uo;simp_all
theorem rzero_c(y:Tree)(x:Tv)(S:Nat->Prop)(w0:World)(hX:Rep S w0 (Na y) x.cells)(hn:x.n+x.m<=1000000000000):Calls prog 64 #[.agg x.cells.toArray] w0 (Za λv w'=>v=.bool (Dq y)/\Same [] w0 w'):=by
  refine Ea func64 ntmps64 ?_;intro hF;refine rn 3 ?_;intro b1 w hb1 hF hE;refine rn 10 ⟨λhg0=>?_,λhg0=>?_⟩
  ·
   refine rn 6 ⟨λhg1=>?_,λhg1=>?_⟩
   ·
    refine rn 7 ⟨λhg2=>?_,λhg2=>?_⟩
    ·
     refine rn 9 ⟨yQ Value.bool ?_,hF.same⟩;unfold Dq;obtain⟨h1,h2,h3,h4,-,-⟩:=Dd hX;have e1:(y.keys=[])↔x.n=0:=by rw[h3];exact List.length_eq_zero_iff.symm
     have e2:(y.items=[])↔x.m=0:=by rw[h4];exact List.length_eq_zero_iff.symm
     have ez:(decide (y.kind=0)&&(decide (y.text=[])&&(decide (y.keys=[])&&decide (y.items=[]))))=(decide (x.k=0)&&(decide (x.t=[])&&(decide (x.n=0)&&decide (x.m=0)))):=by simp only[h1,h2,e1,e2]
     rw[ez];clear ez e1 e2 h1 h2 h3 h4 hX hF hn;simp_all
     all_goals first|omega|(rw[Bool.eq_iff_iff];simp;omega)
    refine rn 9 ⟨yQ Value.bool ?_,hF.same⟩;unfold Dq;obtain⟨h1,h2,h3,h4,-,-⟩:=Dd hX;have e1:(y.keys=[])↔x.n=0:=by rw[h3];exact List.length_eq_zero_iff.symm
    have e2:(y.items=[])↔x.m=0:=by rw[h4];exact List.length_eq_zero_iff.symm
    have ez:(decide (y.kind=0)&&(decide (y.text=[])&&(decide (y.keys=[])&&decide (y.items=[]))))=(decide (x.k=0)&&(decide (x.t=[])&&(decide (x.n=0)&&decide (x.m=0)))):=by simp only[h1,h2,e1,e2]
    rw[ez];clear ez e1 e2 h1 h2 h3 h4 hX hF hn;simp_all
    all_goals first|omega|(rw[Bool.eq_iff_iff];simp;omega)
   refine rn 15 ⟨yQ Value.bool ?_,hF.same⟩;unfold Dq;obtain⟨h1,h2,h3,h4,-,-⟩:=Dd hX;have e1:(y.keys=[])↔x.n=0:=by rw[h3];exact List.length_eq_zero_iff.symm
   have e2:(y.items=[])↔x.m=0:=by rw[h4];exact List.length_eq_zero_iff.symm
   have ez:(decide (y.kind=0)&&(decide (y.text=[])&&(decide (y.keys=[])&&decide (y.items=[]))))=(decide (x.k=0)&&(decide (x.t=[])&&(decide (x.n=0)&&decide (x.m=0)))):=by simp only[h1,h2,e1,e2]
   rw[ez];clear ez e1 e2 h1 h2 h3 h4 hX hF hn;simp_all
   all_goals first|omega|(rw[Bool.eq_iff_iff];simp;omega)
  refine rn 20 ⟨yQ Value.bool ?_,hF.same⟩;unfold Dq;obtain⟨h1,h2,h3,h4,-,-⟩:=Dd hX;have e1:(y.keys=[])↔x.n=0:=by rw[h3];exact List.length_eq_zero_iff.symm
  have e2:(y.items=[])↔x.m=0:=by rw[h4];exact List.length_eq_zero_iff.symm
  have ez:(decide (y.kind=0)&&(decide (y.text=[])&&(decide (y.keys=[])&&decide (y.items=[]))))=(decide (x.k=0)&&(decide (x.t=[])&&(decide (x.n=0)&&decide (x.m=0)))):=by simp only[h1,h2,e1,e2]
  rw[ez];clear ez e1 e2 h1 h2 h3 h4 hX hF hn;simp_all
  all_goals first|omega|(rw[Bool.eq_iff_iff];simp;omega)
structure MmZ (m:Mm):Prop where
  sd:SdZ m.sd
  pr:aL m.pr<=1000000000
def SdZ.nm(h:SdZ s){x:Sv}(hx:Rep S w (Ad s) x.cells):x.v.n+x.v.m<=1000000000000:=by
  have h1:=Lc hx;have h2:=h.ks;have h3:=Ck s.val;have h4:=Pf s.val.items;have h5:=h.sz;have h6:aL s.val.keys<=Rg s.val:=by cases s.val;rw[Rg];exact Nat.le_add_right _ _
  omega
def Vq{i:Nat}(hi:i<aL t):Po t i=(Di t[i]&&(decide (i=0) || !(Jf t[i].pr (t[i-1]' Aa).pr || decide (t[i].pr=(t[i-1]' Aa).pr)))):=by
  cases hm:Di t[i]with
  | false=>rw[BS hi hm,Bool.false_and]
  | true =>
    rw[Bool.true_and];cases i with
    | zero=>rw[Ax hi hm (λj e=>by cases e)];rfl
    | succ k =>
      cases hb:(Jf t[k+1].pr t[k].pr || decide (t[k+1].pr=t[k].pr))with
      | true=>rw[OH hi hb];simp[hb]
      | false=>rw[Ax hi hm (λj e hj=>by cases e;exact hb)];simp[hb]
theorem HT(t:List Mm)(A:Option Addr)(c:Nat)(S:Nat->Prop)(w0:World)(hX:Rep S w0 (Jd t) [.slice A (aL t) c])(hm:∀m∈t,MmZ m):Calls prog 28 #[.slice A (aL t) c] w0 (Za λv w'=>v=.bool (Tf t)/\Same [] w0 w'):=by
 have htl:=S_ hX;refine Ea func28 ntmps28 ?_;intro hF;refine rn 12<|Sa (λμ σ w=>∃(i:Nat),μ=aL t-i/\(i<=aL t)/\(∀k<i,Po t k=true)/\AllEq σ [(0,.slice A (aL t) c),(3,J<|(i:Int))]/\FR w0 [] [] w) _ ⟨0,O,dZ _,Aa,Va,hF⟩ ?_;rintro μ σ w ⟨i,rfl,hi,hall,hzz,hF⟩;refine Wf hzz 10 ⟨λhc0=>?_,λhc0=>?_⟩;refine rn 5 ?_;have hil:i<aL t:=Aa
 refine rn 3 ?_;obtain⟨ad0,q0,hA0,hk0,hx0,hp0⟩:=hX.mm_elem (i:=i) hil;refine Ba (v:=.pointer<|some<|ad0.add<|i*6) (Ca (i:=(i:Int)) Kf hA0)<|Ba (v:=.pointer<|some<|(ad0.add<|i*6).add 0) (Oa (a:=ad0.add<|i*6) Pj)<|Ba (v:=I<|t[i].pr) (Xa sZ<|hF.cell0<|hk0 0 Bf) ?_;refine Fc (W8 t[i].pr (by have:=(hm _<|eQ hil).pr;omega) _) ?_;rintro _ w ⟨nv,rfl,hE⟩;have hF:=hF.ext hE;refine rn 11 ?_;obtain⟨ad1,q1,hA1,hk1,hx1,hp1⟩:=hX.mm_elem (i:=i) hil;refine Ba (v:=.pointer<|some<|ad1.add<|i*6) (Ca (i:=(i:Int)) Kf hA1)<|Ba (v:=.pointer<|some<|(ad1.add<|i*6).add 1) (Oa (a:=ad1.add<|i*6) Sl)<|Ba (v:=.agg (q1.cells).toArray) (Ma (l:=q1.cells) rZ vZ O O<|Sc (hF.cells0 hk1) 1 O) ?_;refine Ia (rside_c t[i].sd q1 0 S _ (hF.rep hx1) (hm _<|eQ hil).sd) ?_;rintro w hF -;refine rn 4<|Eb (λσ w=>∃(g:Bool),(g = !Po t i)/\AllEq σ [(0,.slice A (aL t) c),(3,J<|(i:Int)),(70,.bool g)]/\FR w0 [] [] w) ?_ ?_;refine Rb (zs:=.of []) (bQ [0,1,2,3,4,5,6,7,8,9,10,11,12,13,14,15,16,17,18,19,20]<|.act 21<|bQ [22,23,24,25,26,27,28,29,30,31,32,33,34,35,36,37,38,39,40,41,42] .nil) hF ?_;intro w hF;refine rn 4 ⟨λhg2=>?_,λhg2=>?_⟩;refine rn 18<|Yy ?_ hF;refine rn 22 ?_;exact Ha ⟨true,by rw[Vq hil];unfold Di;simp_all,Va,hF⟩;refine rn 5 ⟨λhg3=>?_,λhg3=>?_⟩;refine rn 14<|Yy ?_ hF;refine rn 22 ?_;exact Ha ⟨true,by rw[Vq hil];unfold Di;simp_all,Va,hF⟩;refine rn 2 ?_;obtain⟨ad4,q4,hA4,hk4,hx4,hp4⟩:=hX.mm_elem (i:=i) hil;refine Ga O (v:=.pointer<|some<|ad4.add<|i*6) (λw hC=>Ca (i:=(i:Int)) Kf hA4)<|Ga O (v:=.pointer<|some<|(ad4.add<|i*6).add 1) (λw hC=>Oa (a:=ad4.add<|i*6) Sl)<|Ga O (v:=.pointer<|some<|((ad4.add<|i*6).add 1).add 0) (λw hC=>Oa (a:=(ad4.add<|i*6).add 1) WQ)<|Ga O (v:=.bool q4.h) (λw hC=>Xa isAgg4<|(Sc (l:=[.bool q4.h,J q4.v.k,I q4.v.t,.slice q4.v.A q4.v.n q4.v.c,.slice q4.v.B q4.v.m q4.v.e]) (hC.cells0 hk4) 1 O) 0 Bf) ?_
 refine rn 3 ⟨λhg5=>?_,λhg5=>?_⟩;refine rn 2 ?_;obtain⟨ad6,q6,hA6,hk6,hx6,hp6⟩:=hX.mm_elem (i:=i) hil;refine Ga O (v:=.pointer<|some<|ad6.add<|i*6) (λw hC=>Ca (i:=(i:Int)) Kf hA6)<|Ga O (v:=.pointer<|some<|(ad6.add<|i*6).add 1) (λw hC=>Oa (a:=ad6.add<|i*6) Sl)<|Ga O (v:=.pointer<|some<|((ad6.add<|i*6).add 1).add 1) (λw hC=>Oa (a:=(ad6.add<|i*6).add 1) J4)<|Ga O (v:=.agg (q6.v.cells).toArray) (λw hC=>Ma (l:=q6.v.cells) qZ uZ O O<|Sc (Sc (l:=[.bool q6.h,J q6.v.k,I q6.v.t,.slice q6.v.A q6.v.n q6.v.c,.slice q6.v.B q6.v.m q6.v.e]) (hC.cells0 hk6) 1 O) 1 O) ?_;refine Rc (rzero_c t[i].sd.val q6.v S _ (hF.rep (Lc hx6).2.2.2.2) ((hm _<|eQ hil).sd.nm hx6)) ?_;rintro w hF -;refine rn 5 ⟨λhg7=>?_,λhg7=>?_⟩;refine rn 18 ?_;exact Ha ⟨true,bS,Va,hF⟩;refine rn 4 ⟨λhg8=>?_,λhg8=>?_⟩;refine rn 2 ?_;obtain⟨ad9,q9,hA9,hk9,hx9,hp9⟩:=hX.mm_elem (i:=i) hil;refine Ga O (v:=.pointer<|some<|ad9.add<|i*6) (λw hC=>Ca (i:=(i:Int)) Kf hA9)<|Ga O (v:=.pointer<|some<|(ad9.add<|i*6).add 0) (λw hC=>Oa (a:=ad9.add<|i*6) Pj)<|Ga O (v:=I<|t[i].pr) (λw hC=>Xa sZ<|hC.cell0<|hk9 0 Bf) ?_;refine rn 2<|CB O (AB<|((i-1:Nat):Int)) ?_;obtain⟨ad10,q10,hA10,hk10,hx10,hp10⟩:=hX.mm_elem (i:=(i-1)) Aa;refine Ga rfl (v:=.pointer<|some<|ad10.add<|(i-1)*6) (λw hC=>Ca (i:=((i-1:Nat):Int)) Kf (hx:=rfl) hA10 (hy:=rfl))<|Ga rfl (v:=.pointer<|some<|(ad10.add<|(i-1)*6).add 0) (λw hC=>Oa (a:=ad10.add<|(i-1)*6) Pj (hx:=rfl))<|Ga rfl (v:=I<|(t[i-1]' Aa).pr) (λw hC=>Xa sZ (hx:=rfl)<|hC.cell0<|hk10 0 Bf)<|Ga rfl (v:=.bool (Jf (t[i].pr) ((t[i-1]' Aa).pr) || decide ((t[i].pr:Str)=(t[i-1]' Aa).pr))) (λw hC=>TK rfl rfl) ?_
 refine rn 3 ?_;exact Ha ⟨(Jf (t[i].pr) ((t[i-1]' Aa).pr) || decide ((t[i].pr:Str)=(t[i-1]' Aa).pr)),wD,Va,hF⟩;refine rn 15 ?_;exact Ha ⟨false,bS,Va,hF⟩;refine rn 6<|Yy ?_ hF;refine rn 8 ⟨λhg11=>?_,λhg11=>?_⟩;refine rn 2 ?_;obtain⟨ad12,q12,hA12,hk12,hx12,hp12⟩:=hX.mm_elem (i:=i) hil;refine Ga O (v:=.pointer<|some<|ad12.add<|i*6) (λw hC=>Ca (i:=(i:Int)) Kf hA12)<|Ga O (v:=.pointer<|some<|(ad12.add<|i*6).add 0) (λw hC=>Oa (a:=ad12.add<|i*6) Pj)<|Ga O (v:=I<|t[i].pr) (λw hC=>Xa sZ<|hC.cell0<|hk12 0 Bf) ?_;refine rn 2<|CB O (AB<|((i-1:Nat):Int)) ?_;obtain⟨ad13,q13,hA13,hk13,hx13,hp13⟩:=hX.mm_elem (i:=(i-1)) Aa;refine Ga rfl (v:=.pointer<|some<|ad13.add<|(i-1)*6) (λw hC=>Ca (i:=((i-1:Nat):Int)) Kf (hx:=rfl) hA13 (hy:=rfl))<|Ga rfl (v:=.pointer<|some<|(ad13.add<|(i-1)*6).add 0) (λw hC=>Oa (a:=ad13.add<|(i-1)*6) Pj (hx:=rfl))<|Ga rfl (v:=I<|(t[i-1]' Aa).pr) (λw hC=>Xa sZ (hx:=rfl)<|hC.cell0<|hk13 0 Bf)<|Ga rfl (v:=.bool (Jf (t[i].pr) ((t[i-1]' Aa).pr) || decide ((t[i].pr:Str)=(t[i-1]' Aa).pr))) (λw hC=>TK rfl rfl) ?_;refine rn 3 ?_;exact Ha ⟨(Jf (t[i].pr) ((t[i-1]' Aa).pr) || decide ((t[i].pr:Str)=(t[i-1]' Aa).pr)),wD,Va,hF⟩;refine rn 15 ?_;exact Ha ⟨false,bS,Va,hF⟩;rintro σ w ⟨g,hg,hzz,hF⟩;refine Aj hzz 2 ⟨λhc1=>?_,λhc1=>?_⟩;refine rn 6 ⟨yQ Value.bool ?_,hF.same⟩;exact (Rz hil qX).symm;refine rn 5<|Zb (Wd<|((i+1:Nat):Int)) ?_;refine rn 2 ?_;refine Ha ⟨_,?_,i+1,rfl,Aa,(λj hj=>by rcases Nat.lt_succ_iff_lt_or_eq.1 hj with h|h;exact hall j h;rw[h];simp_all),Va,hF⟩
 omega;refine rn 11 ⟨yQ Value.bool ?_,hF.same⟩;obtain rfl:i=aL t:=Aa
 exact (R5 hall).symm
theorem H_:∀(xs:List Tree),(∀y∈xs,Rg y+1<=La y)->Xj xs+aL xs<=Ra xs
  | [],_=>by simp[Xj,Ra]
  | x :: xs, h => by
    have h1:=h x aZ;have h2:=H_ xs λy hy=>h y<|iZ _ hy;simp only[Xj,Ra,kQ];omega
theorem N1(s:Str)(l:List Nd):∀(d n:Nat),Rg (Ld s l d n)+1<=La (Ld s l d n)
  | 0, n => by
    unfold Ld;split <;> simp[Rg,Xj,La,Ra]
  | d + 1, n => by
    have hk:=E7 s l (d+1) n;have hi:∀y∈(Ld s l (d+1) n).items,Rg y+1<=La y:=λy hy=>by
      unfold Ld at hy;split at hy
      ·cases hy
      obtain⟨j, -, rfl⟩ := nQ.1 hy;exact N1 s l d j.toNat
    generalize Ld s l (d+1) n=v at hk hi ⊢;obtain⟨k,t,ks,xs⟩:=v;have:=H_ xs hi;simp only[Tree.keys,Tree.items]at hk;simp only[Rg,La];omega
def FG(hy:∀a∈y.items,∀b∈a.items,Rg b+1<=La b):Rg (Yb y).1.sd.val<=La (Yb y).1.sd.val:=by
  have hz:Rg noS.val<=La noS.val:=by simp[noS,zeroT,Rg,Xj]
  unfold Yb;split
  ·split
   ·rename_i a b e
    split
    ·dsimp only
     split
     ·rename_i x ex
      have:=hy b (by rw[e];simp) x (by rw[ex];simp);dsimp only;omega
     exact hz
    exact hz
   exact hz
  exact hz
def read_z{s:Str}(hl:aL s<=65536):∀m∈Ll (Ab s).1,MmZ m:=λm hm=>by
  obtain⟨-,-,hB⟩:=F7 hl;obtain⟨h1,h2,h3⟩:=hB m hm;obtain⟨-,l,d,n,hv⟩:=CG hl;have hk:Rg m.sd.val<=La m.sd.val:=by
    obtain⟨y,hy,rfl⟩:=nQ.1 hm;refine FG λa ha b hb=>?_;rcases hv with h|h
    ·rw[h]at hy;cases hy
    rw[h]at hy;obtain⟨d1,n1,rfl⟩:=Ml s l d n y hy;obtain⟨d2,n2,rfl⟩:=Ml s l d1 n1 a ha;obtain⟨d3,n3,rfl⟩:=Ml s l d2 n2 b hb;exact N1 s l d3 n3
  exact⟨⟨Aa,Aa,Aa⟩,Aa⟩
theorem JR(t:List Mm)(A:Option Addr)(c:Nat)(S:Nat->Prop)(w0:World)(hX:Rep S w0 (Jd t) [.slice A (aL t) c])(hZ:∀m∈t,MmZ m)(htl:aL t<=1000000)(hsz:La (Wh t)<=1000000000)(hmx:Ob (Wh t)<=16777216):Calls prog 9 #[.slice A (aL t) c] w0 (Za λv w'=>v=.tuple #[I ((Cm t).1),J (Cm t).2]/\Same [] w0 w'):=by
 refine Ea func9 ntmps9 ?_;intro hF;refine rn 9<|Ia (HT t A c S _ (hF.rep hX) hZ) ?_;rintro w hF -;refine rn 11 ⟨λhc0=>?_,λhc0=>?_⟩;have h0:Tf t=false:=aS hc0
 refine rn 7 ?_;have e:Cm t=([],1):=by unfold Cm;rw[tQ bR]
 rw[e];exact⟨O,hF.same⟩;have h0:Tf t=true:=aS hc0
 refine rn 4<|Ia (EC none 0 0 _) ?_;rintro w hF -;refine rn 1 ?_;rintro b1 w hb1 hF -;refine rn 9<|Sa (λμ σ w=>∃(j:Nat),∃(AI:Option Addr),∃(cI:Nat),∃(its:List (Nat × Obj)),∃(vals:List Value),μ=aL t-j/\(j<=aL t)/\(SlB 36 4 AI j cI vals its)/\(KX ([b1]++ids its) w (((t.take j).map Fm).map Na) vals)/\AllEq σ [(0,.slice A (aL t) c),(5,V b1),(6,J<|(j:Int))]/\FR w0 [] ([(b1,.cells #[J 5,I [],aQ,.slice AI j cI] 36)]++(its++[])) w) _ ⟨0,none,0,[],[],O,dZ _,SlB.nil _ _,RepL.nil_mk,Va,hF⟩ ?_;rintro μ σ w ⟨j,AI,cI,its,vals,rfl,hj,hS,hV,hzz,hF⟩;have hLC:∀x∈([b1]++ids its),w0.heap.size<=x/\x<w.heap.size:=K6 (pre:=[_]) hF (by simp[ids]);refine Wf hzz 10 ⟨λhc1=>?_,λhc1=>?_⟩;refine rn 4 ?_;have hjl:j<aL t:=Aa
 refine Gb ⟨[19],λwq=>FR w0 [] [] wq,[]⟩ (bQ [0,1,2,3,4,5,6,8,9,10,11,12]<|cQ [7,13,14,15,16,17]<|.free 18<|.act 19 .nil) hF ?_;intro w hF hE;have hV:=hV.ext hE;refine⟨λwq=>FR w0 [] [(b1,.cells #[J 5,I [],aQ,.slice AI j cI] 36)] wq,hF.mid 0 1,?_⟩;refine rn 4 ?_;obtain⟨ad0,q0,hA0,hk0,hx0,hp0⟩:=hX.mm_elem (i:=j) hjl;refine Ga O (v:=.pointer<|some<|ad0.add<|j*6) (λw hC=>Ca (i:=(j:Int)) Kf hA0)<|Ga O (v:=.pointer<|some<|(ad0.add<|j*6).add 0) (λw hC=>Oa (a:=ad0.add<|j*6) Pj)<|Ga O (v:=I<|t[j].pr) (λw hC=>Xa sZ<|hC.cell0<|hk0 0 Bf) ?_;refine rn 2 ?_;obtain⟨ad1,q1,hA1,hk1,hx1,hp1⟩:=hX.mm_elem (i:=j) hjl;refine Ga O (v:=.pointer<|some<|ad1.add<|j*6) (λw hC=>Ca (i:=(j:Int)) Kf hA1)<|Ga O (v:=.pointer<|some<|(ad1.add<|j*6).add 1) (λw hC=>Oa (a:=ad1.add<|j*6) Sl)<|Ga O (v:=.agg (q1.cells).toArray) (λw hC=>Ma (l:=q1.cells) rZ vZ O O<|Sc (hC.cells0 hk1) 1 O) ?_;refine Rc (rofT_c t[j].pr _) ?_;intro w hF hE;have hV:=hV.ext hE;refine Lk (SK t[j].sd q1 _ _ (hF.rep hx1) (hZ _<|eQ hjl).sd) ?_;rintro _ w ⟨ct,rfl,hW,hE⟩;obtain⟨xw,rfl,-⟩:=Pe hW;have hW:KX ([b1]++ids its) _ [Na<|Ed t[j].sd] xw.cells:=RepL.cons_mk (c2:=[]) (KX.made (i:=([b1]++ids its)) hF hE (K6 (pre:=[_]) hF λx hx=>(mQ.1 hx).elim (λh=>.inl (by rw[pQ.1 h];simp[ids])) .inr)<|hW.weaken λb hb _=>.inr hb) RepL.nil_mk;have hV:=hV.ext hE;have hF:=hF.ext hE;refine⟨hF.su,?_⟩;refine rn 1 ?_;intro b2 w hb2 hF hE;have hV:=hV.ext hE;have hW:=hW.ext hE;refine Rc (EC (some ⟨b2,0,none⟩) 2 2 _) ?_;intro w hF hE;have hV:=hV.ext hE;have hW:=hW.ext hE;refine rn 1 ?_;intro b3 w hb3 hF hE;have hV:=hV.ext hE;have hW:=hW.ext hE;have hIt:=IS (i:=([b1]++ids its)) (g:=b2) hF 1 rfl hp0 hW<|hF.notin 1 rfl λx hx=>(mQ.1 hx).elim (λh=>by rw[pQ.1 h];simp[ids]) (λh=>by unfold ids at h;simp[ids,h])
 refine Uv hS (len':=(j+1)) (ys:=vals++[J 5,I [],aQ,W b2 2 2]) (O) (O) ?_;intro A2 c2 its_2 w hS2_its hF hE hnew;have hsub:∀x∈its.map (·.1),x∈([b1]++ids its):=λx hx=>kZ _ hx;have hV:=(hV.append hIt).grow hE hnew hsub;clear hsub hIt;refine rn 2 ?_;intro w hF hE;have hV:=hV.store hE Da;refine rn 5<|Zb (Wd<|((j+1:Nat):Int)) ?_;refine rn 2 ?_;refine Ha ⟨_,?_,j+1,A2,c2,its_2,vals++[J 5,I [],aQ,W b2 2 2],rfl,Aa,hS2_its,by rw[iQ hjl,jQ,jQ];exact hV.sub zM,Va,hF.su⟩;omega;refine rn 5 ?_;obtain rfl:j=aL t:=Aa
 have hrow:=KX.rowB (pre:=[_]) (its:=its) (post:=[]) (ts:=t.map Fm) hF hS (by rw[List.take_length]at hV;exact hV) Da;have hT:Rep (λ_=>True) _ (Na<|Wh t) [J 5,I [],aQ,.slice AI (aL t) cI]:=Rep.tree_mk (ks:=[]) (xs:=t.map Fm) ⟨Ja,Ja⟩ Da (Rep.nil_slice 0 Aa none) (by rw[Jc];exact hrow);refine Ia (rcanon_c (Wh t) hsz hmx (λ_=>True) _ _ hT) ?_;intro w hF hE;have hV:=hV.ext hE;refine rn 7 ?_;have e:Cm t=(Mt<|Zc<|Wh t,Vs<|Zc<|Wh t):=by unfold Cm;rw[uQ h0]
 rw[e];exact⟨O,hF.same⟩
def Q7(hy:y.items=[a,b]):Yb y=if y.kind=5 then (if a.kind=4/\b.kind=5/\aL b.items<=1 then (⟨a.text,match b.items with|[x]=>⟨true,x⟩|_=>noS⟩,true) else (Kj,false)) else (Kj,false):=by
  unfold Yb;rw[hy];rfl
def Vx(h:¬(y.kind=5/\aL y.items=2)):true = !(Yb y).2:=by rw[Gy h];rfl
def Vw(hy:y.items=[a,b])(h:¬(a.kind=4/\b.kind=5)):true = !(Yb y).2:=by
  rw[Q7 hy,if_neg (c:=a.kind=4/\b.kind=5/\aL b.items<=1) λe=>h ⟨e.1,e.2.1⟩];split <;> rfl
def item_bb(hk:y.kind=5)(hy:y.items=[a,b])(h0:a.kind=4)(h1:b.kind=5){m:Nat}(hm:m=aL b.items):decide ((1:Int)<(m:Int)) = !(Yb y).2:=by
  rw[Q7 hy,uQ hk];by_cases h:aL b.items<=1
  ·rw[uQ ⟨h0,h1,h⟩,fZ Aa];rfl
  rw[tQ λe=>h e.2.2,gZ Aa];rfl
def RZ(h:(Yb y).2=true):y.kind=5/\aL y.items=2:=by
  by_cases h2:y.kind=5/\aL y.items=2
  ·exact h2
  rw[Gy h2]at h;cases h
def OJ(hy:y.items=[a,b])(h:(Yb y).2=true):(Yb y).1=⟨a.text,match b.items with|[x]=>⟨true,x⟩|_=>noS⟩:=by
  rw[Q7 hy]at h ⊢;split at h
  ·rename_i h1
   rw[uQ h1];split at h
   ·rename_i h2;rw[uQ h2]
   cases h
  cases h
def AU(hy:y.items=[a,b])(h:(Yb y).2=true)(hb:0<aL b.items)(h1:aL b.items=1):(Yb y).1=⟨a.text,⟨true,b.items[0]⟩⟩:=by
  rw[OJ hy h];obtain⟨x,hx⟩:=List.length_eq_one_iff.1 h1;simp only[hx,List.getElem_cons_zero]
def DM(hy:y.items=[a,b])(h:(Yb y).2=true)(h1:aL b.items≠1):(Yb y).1=⟨a.text,noS⟩:=by
  rw[OJ hy h];split
  ·rename_i x hx;rw[hx]at h1;exact absurd rfl h1
  rfl
def Z7{x:Tv}(h:Rep S w (Na y) x.cells)(hm:x.m=2):∃(a b:Tree)(d:Addr)(x0 x1:Tv),y.items=[a,b]/\x.B=some d/\(∀j (hj:j<aL x0.cells),w.cell? ((d.add (0*4)).add j)=some x0.cells[j])/\(∀j (hj:j<aL x1.cells),w.cell? ((d.add (1*4)).add j)=some x1.cells[j])/\Rep S w (Na a) x0.cells/\Rep S w (Na b) x1.cells/\x0.k=a.kind/\x0.t=a.text/\x1.k=b.kind/\x1.m=aL b.items:=by
  obtain⟨-,-,-,h4,-,h6⟩:=Dd h;obtain⟨a,b,hy⟩:=Z9 (l:=y.items) Aa;rw[hy]at h6;obtain⟨d,x0,hB,hk0,hX0⟩:=h6.tree_at (i:=0) Da;obtain⟨d',x1,hB',hk1,hX1⟩:=h6.tree_at (i:=1) Da;rw[hB]at hB';obtain rfl:=lQ hB';simp only[List.getElem_cons_zero,List.getElem_cons_succ]at hX0 hX1;exact⟨a,b,d,x0,x1,hy,hB,hk0,hk1,hX0,hX1,(Dd hX0).1,(Dd hX0).2.1,(Dd hX1).1,(Dd hX1).2.2.2.1⟩
def KX.single{d:D}(h:Rep (Kp i w) w d cs):KX i w [d] cs:=by
  have:=RepL.cons_mk h<|RepL.nil_mk (S:=Kp i w) (w:=w)
  rwa [qQ]at this
def KX.new{ds:List D}{b:Nat}(h:KX i w ds cs)(hs:Same [] w w')(hb:b=w.heap.size):KX (b::i) w' ds cs:=h.step hs Da λx hx=>(oQ.1 hx).elim (λe=>.inr Aa) .inl
theorem rload_c(s:Str)(hl:aL s<=65536)(w0:World):Calls prog 11 #[I s] w0 (Za λv w'=>∃A c,v=.tuple #[.slice A (aL (Ih s).1) c,.bool (Ih s).2]/\Rep (λ_=>True) w' (Jd (Ih s).1) [.slice A (aL (Ih s).1) c]/\Same [] w0 w'):=by
 have hMP:=F7 hl;refine Ea func11 ntmps11 ?_;intro hF;refine rn 9<|Xb (rreadV_c s hl _) (Df en_45 O O) ?_;rintro _ w ⟨ct,rfl,hRv,hE⟩;obtain⟨rv,rfl,-⟩:=Pe hRv;have hv:KX [] w [Na (Ab s).1] rv.cells:=RepL.cons_mk (c2:=[]) (hRv.weaken λb hb hl=>⟨hl,Da⟩) RepL.nil_mk;obtain⟨hp1,hp2,hp3,hp4,-,-⟩:=Dd hRv;clear hRv;have hF:=hF.ext hE;refine rn 5 ?_;intro b1 w hb1 hF hE;have hv:=hv.ext hE;refine rn 11 ⟨λhg0=>?_,λhg0=>?_⟩;refine rn 14 ?_;rw[Rl jR];exact⟨none,0,O,Rep.nil_slice 0 Aa none,hF.same⟩;refine rn 7 ⟨λhc0=>?_,λhc0=>?_⟩;have h0:¬((Ab s).2.2=0/\(Ab s).1.kind=5):=by rintro⟨h1,h2⟩;simp_all
 refine rn 7 ?_;rw[Rl jR];exact⟨none,0,O,Rep.nil_slice 0 Aa none,hF.same⟩;have h0:(Ab s).2.2=0/\(Ab s).1.kind=5:=by constructor <;> simp_all
 refine rn 14<|Sa (λμ σ w=>∃(j:Nat),∃(AO:Option Addr),∃(cO:Nat),∃(out:List (Nat × Obj)),∃(valsO:List Value),μ=aL (Ab s).1.items-j/\(j<=aL (Ab s).1.items)/\(SlB 44 6 AO j cO valsO out)/\(KX (ids out) w [Na (Ab s).1] rv.cells)/\(KX (ids out) w ((((Ab s).1.items.take j).map λy=>(Yb y).1).map Sw) valsO)/\((((Ab s).1.items.take j).all λy=>(Yb y).2)=true)/\AllEq σ [(0,I s),(4,V b1),(7,.slice AO j cO),(8,J<|(j:Int))]/\FR w0 [] ([(b1,.cells (rv.cells).toArray 36)]++(out++[])) w) _ ⟨0,none,0,[],[],O,dZ _,SlB.nil _ _,hv,RepL.nil_mk,O,Fz,hF⟩ ?_;rintro μ σ w ⟨j,AO,cO,out,valsO,rfl,hj,hS,hv,hO,hall,hzz,hF⟩;have hilen:aL (Ab s).1.items<=1000000:=by have:=hMP.1.n;simpa[Ll]using this
 refine Wf hzz 11 ⟨λhc1=>?_,λhc1=>?_⟩;refine rn 5 ?_;have hjl:j<aL (Ab s).1.items:=Aa
 obtain⟨aad,a_,aA,ak,aX⟩:=Rep.tree_at (i:=j) (Dd hv.one).2.2.2.2.2 hjl;have hA:KX (ids out) w [Na (Ab s).1.items[j]] a_.cells:=RepL.cons_mk (c2:=[]) aX RepL.nil_mk;obtain⟨hq1,-,-,hq4,-,-⟩:=Dd aX;clear aX;refine rn 4<|Ba (v:=.pointer<|some<|aad.add<|j*4) (Ca (i:=(j:Int)) Fd aA)<|Ba (v:=.agg (a_.cells).toArray) (Ma (l:=a_.cells) qZ uZ O O ak) ?_;refine rn 1 ?_;intro b2 w hb2 hF hE;have hv:=hv.ext hE;have hO:=hO.ext hE;have hA:=hA.ext hE;refine rn 4<|Eb (λσ w=>∃(bb:Bool),(bb = !(Yb (Ab s).1.items[j]).2)/\(KX (ids out) w [Na (Ab s).1] rv.cells)/\(KX (ids out) w ((((Ab s).1.items.take j).map λy=>(Yb y).1).map Sw) valsO)/\(KX (ids out) w [Na (Ab s).1.items[j]] a_.cells)/\AllEq σ [(0,I s),(4,V b1),(7,.slice AO j cO),(8,J<|(j:Int)),(9,V b2),(71,.bool bb)]/\FR w0 [] ([(b2,.cells (a_.cells).toArray 36),(b1,.cells (rv.cells).toArray 36)]++(out++[])) w) ?_ ?_;refine rn 6 ⟨λhg1=>?_,λhg1=>?_⟩;refine rn 31 ?_;exact Ha ⟨true,zK,hv,hO,hA,ae6,hF⟩;refine rn 7 ⟨λhg2=>?_,λhg2=>?_⟩;refine rn 25 ?_;exact Ha ⟨true,zK,hv,hO,hA,ae6,hF⟩;refine rn 2 ?_;have hm2:a_.m=2:=Aa
 obtain⟨ya1,yb1,d1,x1,z1,hy1,hB1,hk1,hl1,hX1,hZ1,e1,f1,g1,m1⟩:=Z7 hA.one hm2;refine Ba (v:=.pointer<|some<|d1.add<|0*4) (Ca (i:=0) Fd hB1)<|Ba (v:=.pointer<|some<|(d1.add<|0*4).add 0) (Oa (a:=d1.add<|0*4) H4)<|Ba (v:=J x1.k) (Xa pZ<|hk1 0 Bf) ?_;refine rn 4 ⟨λhg3=>?_,λhg3=>?_⟩;refine rn 17 ?_;exact Ha ⟨true,zK,hv,hO,hA,ae6,hF⟩;refine rn 2<|Ba (v:=.pointer<|some<|d1.add<|1*4) (Ca (i:=1) Fd hB1)<|Ba (v:=.pointer<|some<|(d1.add<|1*4).add 0) (Oa (a:=d1.add<|1*4) H4)<|Ba (v:=J z1.k) (Xa pZ<|hl1 0 Bf) ?_;refine rn 4 ⟨λhg4=>?_,λhg4=>?_⟩;refine rn 9 ?_;exact Ha ⟨true,zK,hv,hO,hA,ae6,hF⟩;refine rn 2<|Ba (v:=.pointer<|some<|d1.add<|1*4) (Ca (i:=1) Fd hB1)<|Ba (v:=.pointer<|some<|(d1.add<|1*4).add 3) (Oa (a:=d1.add<|1*4) M4)<|Ba (v:=.slice z1.B z1.m z1.e) (Xa isAgg34<|hl1 3 Bf) ?_;refine rn 4 ?_;exact Ha ⟨decide ((1:Int)<((z1.m:Nat):Int)),item_bb Aa hy1 Aa Aa m1,hv,hO,hA,ae6,hF⟩;rintro σ w ⟨bb,hbb,hv,hO,hA,hzz,hF⟩;refine Aj hzz 2 ⟨λhc2=>?_,λhc2=>?_⟩;have h2:(Yb (Ab s).1.items[j]).2=false:=by cases h:(Yb (Ab s).1.items[j]).2 <;> simp_all
 refine rn 7 ?_;rw[Rl (λh=>by have:=List.all_eq_true.1 h.2.2.1 _<|eQ hjl;rw[h2]at this;cases this)];exact⟨none,0,O,Rep.nil_slice 0 Aa none,hF.same⟩;refine rn 3 ?_;have hI2:(Yb (Ab s).1.items[j]).2=true:=by cases h:(Yb (Ab s).1.items[j]).2 <;> simp_all
 have hm2:a_.m=2:=by have:=(RZ hI2).2;omega
 obtain⟨ya2,yb2,d2,x2,z2,hy2,hB2,hk2,hl2,hX2,hZ2,e2,f2,g2,m2⟩:=Z7 hA.one hm2;refine rn 3<|Ba (v:=.pointer<|some<|d2.add<|0*4) (Ca (i:=0) Fd hB2)<|Ba (v:=.pointer<|some<|(d2.add<|0*4).add 1) (Oa (a:=d2.add<|0*4) LR)<|Ba (v:=I x2.t) (Xa sZ<|hk2 1 Bf) ?_;refine Ba (w':=w) (v:=.agg #[I x2.t,.bool false,J 0,I [],aQ,aQ]) Ua<|rn 1 ?_;intro b3 w hb3 hF hE;have hv:=hv.new hE hb3;have hO:=hO.new hE hb3;have hA:=hA.new hE hb3;refine rn 2 ?_;have hpl:=X4 hX2;have hF:FR w0 [] ([(b3,.cells #[I ya2.text,.bool false,J 0,I [],aQ,aQ] 44),(b2,.cells (a_.cells).toArray 36),(b1,.cells (rv.cells).toArray 36)]++(out++[])) w:=by rw[f2]at hF;exact hF
 refine rn 1<|Eb (λσ w=>∃(z:Sv),(KX (b3::ids out) w [Sw (Yb (Ab s).1.items[j]).1]<|Lp ya2.text z)/\(KX (b3::ids out) w [Na (Ab s).1] rv.cells)/\(KX (b3::ids out) w ((((Ab s).1.items.take j).map λy=>(Yb y).1).map Sw) valsO)/\AllEq σ [(0,I s),(4,V b1),(7,.slice AO j cO),(8,J<|(j:Int)),(10,V b3)]/\FR w0 [] ([(b3,.cells #[I ya2.text,.bool z.h,J z.v.k,I z.v.t,.slice z.v.A z.v.n z.v.c,.slice z.v.B z.v.m z.v.e] 44),(b2,.cells (a_.cells).toArray 36),(b1,.cells (rv.cells).toArray 36)]++(out++[])) w) ?_ ?_;refine rn 1 ?_;obtain⟨ya3,yb3,d3,x3,z3,hy3,hB3,hk3,hl3,hX3,hZ3,e3,f3,g3,m3⟩:=Z7 hA.one hm2;obtain⟨rfl,rfl⟩:ya2=ya3/\yb2=yb3:=by rw[hy2]at hy3;simpa using hy3
 refine rn 3<|Ba (v:=.pointer<|some<|d3.add<|1*4) (Ca (i:=1) Fd hB3)<|Ba (v:=.pointer<|some<|(d3.add<|1*4).add 3) (Oa (a:=d3.add<|1*4) M4)<|Ba (v:=.slice z3.B z3.m z3.e) (Xa isAgg34<|hl3 3 Bf) ?_;refine rn 5 ⟨λhc3=>?_,λhc3=>?_⟩;refine rn 3<|Ba (v:=.pointer<|some<|d3.add<|1*4) (Ca (i:=1) Fd hB3)<|Ba (v:=.pointer<|some<|(d3.add<|1*4).add 3) (Oa (a:=d3.add<|1*4) M4)<|Ba (v:=.slice z3.B z3.m z3.e) (Xa isAgg34<|hl3 3 Bf) ?_;obtain⟨d5,x5,hB5,hk5,hX5⟩:=Rep.tree_at (i:=0) (Dd hZ3).2.2.2.2.2 Aa;have hX5:KX (b3::ids out) _ [Na yb2.items[0]] x5.cells:=RepL.cons_mk (c2:=[]) hX5 RepL.nil_mk;refine Ba (v:=.pointer<|some<|d5.add<|0*4) (Ca (i:=0) Fd hB5)<|Ba (v:=.agg (x5.cells).toArray) (Ma (l:=x5.cells) qZ uZ O O hk5) ?_;refine Ba (w':=w) (v:=.agg #[.bool true,J x5.k,I x5.t,.slice x5.A x5.n x5.c,.slice x5.B x5.m x5.e]) Ua<|rn 1 ?_;refine Ye 0 (l:=[.bool true,J x5.k,I x5.t,.slice x5.A x5.n x5.c,.slice x5.B x5.m x5.e]) (cs':=#[I ya2.text,.bool true,J x5.k,I x5.t,.slice x5.A x5.n x5.c,.slice x5.B x5.m x5.e]) hF vZ O (v:=.agg #[.bool true,J x5.k,I x5.t,.slice x5.A x5.n x5.c,.slice x5.B x5.m x5.e]) O O Eo O Bf O ?_;intro w hF hE;have hv:=hv.store hE Da;have hO:=hO.store hE Da;have hA:=hA.store hE Da;have hX5:=hX5.store hE Da;refine rn 1 ?_;exact Ha ⟨⟨true,x5⟩,(KX.single (by rw[AU hy2 hI2 Aa Aa];exact V8 (m:=⟨ya2.text,⟨true,yb2.items[0]⟩⟩) (x:=⟨true,x5⟩) (Rep.side_mk (s:=⟨true,yb2.items[0]⟩) hX5.one) hpl)),hv,hO,ae5,hF⟩;refine rn 1 ?_;exact Ha ⟨⟨false,Z8⟩,(KX.single (by rw[DM hy2 hI2 Aa];exact V8 (m:=⟨ya2.text,noS⟩) (x:=⟨false,Z8⟩) Ul hpl)),hv,hO,ae5,hF⟩;rintro σ w ⟨z,hz,hv,hO,hzz,hF⟩;refine Aj hzz 1 ?_;have hall2:(((Ab s).1.items.take (j+1)).all λy=>(Yb y).2)=true:=by rw[iQ hjl,List.all_append,hall];simp[hI2]
 refine rn 3<|X5 1 hF (Md (cs:=#[I ya2.text,.bool z.h,J z.v.k,I z.v.t,.slice z.v.A z.v.n z.v.c,.slice z.v.B z.v.m z.v.e]) underlying22 sizeOf44 zeroValue44 Ja Ja Ua) ?_;intro b4 w hb4 hF hE;have hv:=hv.ext hE;have hO:=hO.ext hE;have hz:=hz.ext hE;refine I6 (news:=[I ya2.text,.bool z.h,J z.v.k,I z.v.t,.slice z.v.A z.v.n z.v.c,.slice z.v.B z.v.m z.v.e]) (len':=(j+1)) (ys:=valsO++Lp ya2.text z) U1 hF hS O O (O) (λ_=>⟨_,O,Kc<|hF.cellsAll 0 O⟩) zB qN (O) (O) Aa ?_;intro A5 c5 out_5 w hS5_out hF hE hnew;have hsub:∀x∈out.map (·.1),x∈b3::ids out:=λx hx=>iZ _ hx;have hO:=(hO.append hz).grow hE hnew hsub;have hv:=hv.grow hE hnew hsub;clear hsub hz;refine rn 6<|Zb (Wd<|((j+1:Nat):Int)) ?_;refine rn 2 ?_;refine Ha ⟨_,?_,j+1,A5,c5,out_5,valsO++Lp ya2.text z,rfl,Aa,hS5_out,hv.sub zM,by rw[iQ hjl,jQ,jQ];exact hO.sub zM,hall2,Fz,hF.drop 3⟩;omega;refine rn 5 ?_;obtain rfl:j=aL (Ab s).1.items:=Aa
 have hol:aL (Ll (Ab s).1)=aL (Ab s).1.items:=by simp[Ll]
 have hXO:=KX.rowM (pre:=[_]) (its:=out) (post:=[]) (ts:=Ll (Ab s).1) hF hS (by rw[List.take_length]at hO;exact hO) hol;have hSv:=JR (Ll (Ab s).1) AO cO (λ_=>True) w (by rw[hol];exact hXO) (read_z hl) Aa hMP.1.sz hMP.2.1;rw[hol]at hSv;refine Xb (hSv) (Df en_9 O O) ?_;rintro _ w ⟨rfl,hE⟩;have hXO:=hXO.ext hE;have hF:=hF.ext hE;refine rn 14 ⟨λhg6=>?_,λhg6=>?_⟩;refine rn 14 ?_;rw[Rl λh=>Ey h.2.2.2 qX];exact⟨none,0,O,Rep.nil_slice 0 Aa none,hF.same⟩;refine rn 7 ⟨λhc4=>?_,λhc4=>?_⟩;refine rn 7 ?_;rw[Rl λh=>Ey h.2.2.2 qX];exact⟨none,0,O,Rep.nil_slice 0 Aa none,hF.same⟩;refine rn 10 ?_;rw[List.take_length]at hall;have hsv:Cm (Ll (Ab s).1)=(s,0):=Prod.ext qX qX;have e:Ih s=(Ll (Ab s).1,true):=by unfold Ih;rw[uQ ⟨h0.1,h0.2,hall,hsv⟩]
 rw[e];exact⟨_,_,by rw[hol],by rw[hol];exact hXO,hF.same⟩
def sdR27{m:Int}(hm:0<=m)(h2:m<=200)(h:Sy s.val m=true):SdZ s:=by
  obtain⟨h1,-,h3⟩:=Y3 hm h;have:=Hz _ h3;exact⟨Aa,Aa,Aa⟩
def mmR27(h:FewM t):∀m∈t,MmZ m:=λm hm=>⟨sdR27 Ja Ja (h.m m hm).1,by have:=(h.m m hm).2;omega⟩
theorem Y1:∀(t:List Mm)(N:Nat),(∀m∈t,La m.sd.val<=N)->Ra (t.map Fm)<=aL t*(3+N)
  | [],N,_=>dZ _
  | m :: t, N, h => by
    have h1:=Y1 t N λx hx=>h x<|iZ _ hx;have h3:=h m aZ;have h2:La (Fm m)<=3+La m.sd.val:=by
      unfold Fm Ed ofT;simp only[La,Ra];split
      ·simp only[Ra];omega
      simp only[Ra];omega
    simp only[lZ,Ra,kQ,Nat.add_mul];omega
def few_mmx(h:FewM t):MmsP t/\Ob (Wh t)<=16777216:=by
  have hn:=h.n;have h1:∀m∈t,La m.sd.val<=60/\Ob m.sd.val<=2048/\aL m.pr<=2048:=λm hm=>by
    obtain⟨h2,h3⟩:=h.m m hm;obtain⟨h4,-,h5⟩:=Y3 Ja h2;exact⟨Aa,Hz _ h5,h3⟩
  have hx:Ob (Wh t)<=16777216:=by
    unfold Wh;rw[Ob];refine Nat.max_le.2 ⟨Da,Nat.max_le.2 ⟨by simp[Sg],No λx hx=>?_⟩⟩;obtain⟨m,hm,rfl⟩:=nQ.1 hx;obtain⟨-,h3,h4⟩:=h1 m hm;unfold Fm Ed ofT;simp only[Ob,Sg,Sf];split
    ·simp only[Sf,cZ];omega
    simp only[Sf,cZ];omega
  refine⟨⟨h.ok,Aa,?_,fQ hx Ja⟩,hx⟩;have h2:=Y1 t 60 λm hm=>(h1 m hm).1;unfold Wh;rw[La];omega
theorem FR.over{S':Nat->Prop}{w0:World}{bs_:List (Nat × Obj)}(hF:FR w0 [] bs_ w)(hO:Over S' w w')(hd:∀b,S' b->w0.heap.size<=b/\∀p∈bs_,p.1≠b):FR w0 [] bs_ w' :=
  hF.touch hO.same λb hb=>⟨λh=>by have:=(hd b (Nk.1 hb).2).1;omega,(hd b (Nk.1 hb).2).2⟩
def AZ{s:Str}(hl:aL s<=65536):aL (Ih s).1<=1000000:=by
  unfold Ih;split
  ·exact (OI hl).n
  exact dZ _
theorem Y4(w0:World)(hG:Gl w0)(t:List Mm)(A:Option Addr)(c:Nat)(rt:Rep (λ_=>True) w0 (Jd t) [.slice A (aL t) c])(s:Str)(hs64:aL s<=9223372036854775807):Calls prog 3 #[.slice A (aL t) c,I s] w0 (Za λv w'=>v=.bool true/\Same [] w0 w'):=by
 refine Ea func3 ntmps3 ?_;intro hF;refine rn 7<|Ia (UT _<|hG.ext hF.same) ?_;rintro w hF -;refine rn 6<|Fc (few27_c t A c _ _<|hF.rep rt) ?_;rintro _ w ⟨q0,rfl,hf,hE⟩;have hF:=hF.ext hE;refine rn 10 ⟨λhg0=>?_,λhg0=>?_⟩;refine rn 14 ?_;exact⟨O,hF.same⟩;refine rn 7 ⟨λhc0=>?_,λhc0=>?_⟩;refine rn 7 ?_;exact⟨O,hF.same⟩;refine rn 3 ?_;have hft:=hf qX;have hls:aL s<=4096:=by simp_all <;> omega
 have hmx:=few_mmx hft;have hxl:aL (Ih s).1<=1000000:=AZ Aa;refine rn 2<|Ia (HK t A c _ _ (hF.rep rt) hmx.1<|hG.ext hF.same) ?_;rintro w hF -;refine rn 10<|Ia (JR t A c _ _ (hF.rep rt) (mmR27 hft) hmx.1.n hmx.1.sz hmx.2) ?_;rintro w hF -;refine rn 10<|Xb (X_ s Aa _<|hG.ext hF.same) (Df en_10 O O) ?_;have hsz:=hF.same.size;rintro _ w ⟨A1,c1,rfl,hRt,hE⟩;obtain⟨S1,hS1,hS,hX⟩:∃S1:Nat->Prop,(∀x,S1 x->w0.heap.size<=x)/\(∀x,S1 x->Hp w x)/\Rep S1 w (Jd (Ih s).1) [.slice A1 (aL (Ih s).1) c1]:=⟨_,λx h=>fQ hsz h.1,λx h=>h.2.2,hRt⟩;have hF:=hF.ext hE;clear hE hRt;refine rn 10<|Fc (rload_c s Aa _) ?_;rintro _ w ⟨A2,c2,rfl,hY,hE⟩;have hX:=hX.ext hE;have hS:=λx h=>Pq hE<|hS x h;have hF:=hF.ext hE;refine rn 11<|Ia (BF (Ih s).1 A1 A2 c1 c2 _ _ _ hX hY) ?_;intro w hF hE;have hX:=hX.ext hE;have hS:=λx h=>Pq hE<|hS x h;have hY:=hY.ext hE;refine rn 6<|Fc (LY (aL (Ih s).1) A1 c1 S1 _ ⟨_,O,hX⟩ hS hxl) ?_;rintro _ w ⟨rfl,hO⟩;have hF:=hF.over hO λb hb=>⟨hS1 b hb,Da⟩;clear hO;refine rn 8<|Ba (v:=.bool true) (Ud (Bw O O) O) ?_;refine rn 4<|Ba (v:=.bool true) (Ud El O) ?_;refine rn 7<|Ba (v:=.bool true) (JB (x_eqlb underlying4 O O)<|beq_self_eq_true _) ?_;refine rn 5 ?_;exact⟨O,hF.same⟩
end Go.Scarf
