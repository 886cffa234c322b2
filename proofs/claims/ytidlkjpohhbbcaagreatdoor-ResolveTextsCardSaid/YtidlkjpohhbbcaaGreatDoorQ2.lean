/- A part of the proof. -/
import Derived.Test.YtidlkjpohhbbcaaGreatDoorRl
set_option linter.all false
set_option maxHeartbeats 8000000
set_option maxRecDepth 10000
set_option synthInstance.maxHeartbeats 0
set_option synthInstance.maxSize 9999
namespace Go.Scarf
open List renaming length->aL
open Go.RowKit Go.Proofs Go.Proofs.Tryz
variable {a:Addr}{d:D}
def tkA(x:Tk):Value:=.agg #[J x.k,J (x.f:Nat),J (x.t:Nat)]
def S6(k to_ a:Int){ad:Addr}{w0:World}(hc:w0.cell? ad=some (J a)):Calls prog 260 #[J k,J to_,.pointer (some ad)] w0 (Za λv w'=>v=.tuple #[.agg #[J k,J a,J to_],J 0]/\Same [] w0 w'):=by
 refine Ea func260 ntmps260 ?_;intro hF;refine rn 3 ?_;rintro b1 w hb1 hF -;refine rn 6<|Ba (v:=J<|(a:Int)) (Xa pZ<|hF.cell0 hc) ?_;refine rn 1<|Ba (w':=w) (v:=.agg #[J<|(a:Int),J to_]) Ua ?_;refine Ba (w':=w) (v:=.agg #[J k,J<|(a:Int),J to_]) Ua<|rn 1 ?_;rintro w hF -;refine rn 4 ?_;exact⟨O,hF.same⟩
def QN(a e:Int)(w0:World):Calls prog 261 #[J a,J e] w0 (Za λv w'=>v=.tuple #[.agg #[J 0,J a,J a],J e]/\Same [] w0 w'):=by
 refine Ea func261 ntmps261 ?_;intro hF;refine rn 3 ?_;rintro b1 w hb1 hF -;refine rn 7<|Ba (w':=w) (v:=.agg #[J a,J a]) Ua ?_;refine Ba (w':=w) (v:=.agg #[J 0,J a,J a]) Ua<|rn 2 ?_;rintro w hF -;refine rn 4 ?_;exact⟨O,hF.same⟩
def IR(l:Str)(w0:World):Calls prog 263 #[I l] w0 (Za λv w'=>∃b:Nat,v=.func (.func 297) #[] #[V b]/\w'.heap[b]? = some (.cells #[I l] 9)/\w0.heap.size<=b/\Same [] w0 w'):=by
 refine Ea func263 ntmps263 ?_;intro hF;refine rn 3 ?_;rintro b1 w hb1 hF -;refine rn 5<|Ba (v:=.func (.func 297) #[] #[V b1]) Pi ?_;refine rn 4 ?_;exact⟨b1,O,hF.heap (i:=0) O,hF.ge (i:=0) O,hF.same⟩
def TZ(l:Str)(c:UInt8)(ad:Addr)(w0:World)(hc:w0.cell? ad=some (I l)):Calls prog 297 #[.int .u8 (c.toNat:Int),.pointer (some ad)] w0 (Za λv w'=>v=.bool (decide (0<=Lib.indexByte l c))/\Same [] w0 w'):=by
 refine Ea func297 ntmps297 ?_;intro hF;refine rn 7<|Ba (v:=I l) (Xa sZ<|hF.cell0 hc) ?_;refine rn 1<|Ia (Hm l c) ?_;rintro w hF -;refine rn 5 ?_;exact⟨O,hF.same⟩
def smallB_c(c:UInt8)(w0:World):Calls prog 265 #[.int .u8 (c.toNat:Int)] w0 (Za λv w'=>v=.bool (smallB c)/\Same [] w0 w'):=by
  refine Ea func265 ntmps265 ?_;intro hF;refine rn 11 ⟨λhg0=>?_,λhg0=>?_⟩
  ·
   refine rn 7 ⟨yQ Value.bool ?_,hF.same⟩;rw[Bool.eq_iff_iff];simp only[smallB,vQ,xQ];omega
  refine rn 7 ⟨yQ Value.bool ?_,hF.same⟩;unfold smallB;rw[fZ Aa];rfl
def word_c(s:Str)(w0:World):Calls prog 266 #[I s] w0 (Za λv w'=>v=J (Ik s)/\Same [] w0 w'):=by
  refine Ea func266 ntmps266 ?_;intro hF;refine rn 19 ⟨λhc0=>?_,λhc0=>?_⟩
  ·
   refine rn 6 ?_;exact⟨by rw[Ik,uQ hc0],hF.same⟩
  refine rn 7 ⟨λhc1=>?_,λhc1=>?_⟩
  ·
   refine rn 6 ?_;exact⟨by rw[Ik,tQ hc0,uQ hc1],hF.same⟩
  refine rn 7 ⟨λhc2=>?_,λhc2=>?_⟩
  ·
   refine rn 6 ?_;exact⟨by rw[Ik,tQ hc0,tQ hc1,uQ hc2],hF.same⟩
  refine rn 9 ?_;exact⟨by rw[Ik,tQ hc0,tQ hc1,tQ hc2],hF.same⟩
theorem E8:∀(l:Str)(c:UInt8),-1<=Lib.indexByte l c/\Lib.indexByte l c<=aL l
  | [],_=>⟨Int.le_refl _,by simp[Lib.indexByte]⟩
  | b :: l, c => by
    have ih:=E8 l c;rw[Lib.indexByte,kQ];split
    ·omega
    split
    ·omega
    omega
def HB{l:Str}(h:0<aL l):l.headD 0=l[0]:=by
  cases l with
  | nil=>simp at h
  | cons=>rfl
def tk_num(s:Str)(a n:Nat):(s.take (a+n)).drop a=(s.drop a).take n:=by rw[List.drop_take];congr 1;omega
def M_{p:UInt8->Bool}{s:Str}{i:Nat}(h:∀j (hj:j<aL s),j<i->p s[j]=true)(hi:i<aL s)(hp:p s[i]=false):Hd p s=i:=by
  induction s generalizing i with
  | nil=>simp at hi
  | cons c s ih =>
    cases i with
    | zero=>rw[Hd,tQ (by have hp':p c=false:=hp;rw[hp'];decide)]
    | succ i =>
      have h0:=h 0 Da Aa;rw[Hd,uQ (by exact h0),ih (i:=i) (λj hj hji=>by exact h (j+1) qM Aa) (aS hi) (by exact hp)]
theorem U7{p:UInt8->Bool}:∀{s:Str},(∀j (hj:j<aL s),p s[j]=true)->Hd p s=aL s
  | [],_=>rfl
  | c :: s, h => by
    rw[Hd,uQ (by exact h 0 Da),U7 λj hj=>by exact h (j+1) qM];rfl
def runA_c(s l:Str)(hl:aL s<=140737488355328)(ad:Addr)(w0:World)(hc:w0.cell? ad=some (I l)):Calls prog 262 #[I s,.func (.func 297) #[] #[.pointer (some ad)]] w0 (Za λv w'=>v=J (Hd (λc=>decide (0<=Lib.indexByte l c)) s:Nat)/\Same [] w0 w'):=by
 refine Ea func262 ntmps262 ?_;intro hF;refine rn 14<|Sa (λμ σ w=>∃(i:Nat),μ=aL s-i/\(i<=aL s/\∀j (hj:j<aL s),j<i->(λc=>decide (0<=Lib.indexByte l c)) s[j]=true)/\AllEq σ [(0,I s),(1,.func (.func 297) #[] #[.pointer<|some ad]),(7,J<|(aL ((s):Str):Int)),(8,J<|(i:Int))]/\FR w0 [] [] w) _ ⟨0,O,⟨dZ _,λj hj h=>absurd h<|Nat.not_lt_zero _⟩,Va,hF⟩ ?_;rintro μ σ w ⟨i,rfl,hi,hzz,hF⟩;refine Wf hzz 7 ⟨λhc0=>?_,λhc0=>?_⟩;refine rn 15<|Ba (v:=.int .u8<|(((s:Str)[i]' Aa).toNat:Int)) (Cb (i) jX O O Aa) ?_;refine Vg hF (TZ l (s[i]' Aa) ad _<|hF.cell0 hc) (Wn O en_297 O O) ?_;intro w hF;refine rn 4 ⟨λhc1=>?_,λhc1=>?_⟩;refine rn 7 ?_;exact⟨by rw[M_ hi.2 Aa (aS hc1)],hF.same⟩;refine rn 4<|Zb (Wd<|((i+1:Nat):Int)) ?_;refine rn 2 ?_;refine Ha ⟨_,?_,i+1,rfl,(⟨Aa,λj hj h=>(Nat.lt_or_ge j i).elim (hi.2 j hj) (λh1=>by obtain rfl:j=i:=Aa;simpa using hc1)⟩),Va,hF⟩;omega;refine rn 10 ?_;exact⟨by rw[U7 λj hj=>hi.2 j hj Aa],hF.same⟩
def runS_c(s:Str)(hl:aL s<=140737488355328)(w0:World):Calls prog 262 #[I s,.func (.func 265) #[] #[]] w0 (Za λv w'=>v=J (Hd smallB s:Nat)/\Same [] w0 w'):=by
 refine Ea func262 ntmps262 ?_;intro hF;refine rn 14<|Sa (λμ σ w=>∃(i:Nat),μ=aL s-i/\(i<=aL s/\∀j (hj:j<aL s),j<i->smallB s[j]=true)/\AllEq σ [(0,I s),(1,.func (.func 265) #[] #[]),(7,J<|(aL ((s):Str):Int)),(8,J<|(i:Int))]/\FR w0 [] [] w) _ ⟨0,O,⟨dZ _,λj hj h=>absurd h<|Nat.not_lt_zero _⟩,Va,hF⟩ ?_;rintro μ σ w ⟨i,rfl,hi,hzz,hF⟩;refine Wf hzz 7 ⟨λhc0=>?_,λhc0=>?_⟩;refine rn 15<|Ba (v:=.int .u8<|(((s:Str)[i]' Aa).toNat:Int)) (Cb (i) jX O O Aa) ?_;refine Vg hF (smallB_c (s[i]' Aa) _) (Wn O en_265 O O) ?_;intro w hF;refine rn 4 ⟨λhc1=>?_,λhc1=>?_⟩;refine rn 7 ?_;exact⟨by rw[M_ hi.2 Aa (aS hc1)],hF.same⟩;refine rn 4<|Zb (Wd<|((i+1:Nat):Int)) ?_;refine rn 2 ?_;refine Ha ⟨_,?_,i+1,rfl,(⟨Aa,λj hj h=>(Nat.lt_or_ge j i).elim (hi.2 j hj) (λh1=>by obtain rfl:j=i:=Aa;simpa using hc1)⟩),Va,hF⟩;omega;refine rn 10 ?_;exact⟨by rw[U7 λj hj=>hi.2 j hj Aa],hF.same⟩
def IU(s:Str)(a:Nat)(hU:UniC s)(hl:aL s<=1000000)(ha:a<aL s)(w0:World)(hG:Gl w0):Calls prog 231 #[I s,J (a:Int)] w0 (Za λv w'=>v=.tuple #[tkA (Ae s a).1,J (Ae s a).2]/\Same [] w0 w'):=by
 have h0:0<aL (s.drop a):=by rw[zQ];omega
 have hhd:=HB h0;have hib:-1<=Lib.indexByte [123,125,91,93,44,58] ((s.drop a)[0]' h0)/\Lib.indexByte [123,125,91,93,44,58] ((s.drop a)[0]' h0)<=6:=by have:=E8 [123,125,91,93,44,58]<|(s.drop a)[0]' h0;simpa using this
 refine Ea func231 ntmps231 ?_;intro hF;refine rn 3 ?_;rintro b1 w hb1 hF -;refine rn 1 ?_;rintro b2 w hb2 hF -;refine rn 7<|Ba (v:=I<|(s:Str).drop (a)) (Qf (a) jX) ?_;refine rn 5<|Ba (v:=.func (.func 260) #[] #[V b1]) Pi ?_;refine rn 11 ?_;refine Ba (v:=.int .u8<|((((s:Str).drop (a):Str)[0]' qY).toNat:Int)) (Cb (0) jX O O qY) ?_;refine rn 7<|Ia (Hm [123,125,91,93,44,58]<|(s.drop a)[0]' h0) ?_;rintro w hF -;refine rn 12 ⟨λhc0=>?_,λhc0=>?_⟩;refine rn 4<|Zb Uh ?_;refine rn 1<|Zb (Wd<|((a+1:Nat):Int)) ?_;refine Vg hF (S6 (2+Lib.indexByte [123,125,91,93,44,58] ((s.drop a)[0]' h0)) (((a+1:Nat):Int)) (a:Int)<|hF.cell 1 O O) (Fh O O6 O O O) ?_;intro w hF;refine rn 3 ?_;rintro w hF -;refine rn 4 ⟨?_,hF.same⟩;rw[Ae,hhd,Xc];rw[uQ hc0];rfl;refine rn 3<|Ia (Hm [32,9,10,13]<|(s.drop a)[0]' h0) ?_;rintro w hF -;refine rn 5 ⟨λhc1=>?_,λhc1=>?_⟩;refine rn 1<|Rb (zs:=.of [9]) (bQ [0,1,2]<|.act 3<|.act 4<|.free 5<|.act 6<|.free 7<|.free 8<|.act 9<|.free 10 .nil) hF ?_;intro w hF;refine rn 3<|Lk (IR [32,9,10,13] _) ?_;rintro _ w ⟨ba,rfl,hAm,-,hE⟩;have hF:=hF.ext hE;refine⟨hF,?_⟩;refine Rc (runA_c (s.drop a) [32,9,10,13] qY _ _ (by rw[Db hAm 0];rfl)) ?_;rintro w hF -;refine Ga O (v:=J<|((a+Hd (λc=>decide (0<=Lib.indexByte [32,9,10,13] c)) (s.drop a):Nat):Int)) (λw hC=>Cl O O (by have:=Rk (λc=>decide (0<=Lib.indexByte [32,9,10,13] c))<|s.drop a;rw[zQ]at this;exact Gd Aa Aa Aa)) ?_;refine Nr O (S6 (1) (((a+Hd (λc=>decide (0<=Lib.indexByte [32,9,10,13] c)) (s.drop a):Nat):Int)) (a:Int)<|hF.cell 1 O O) (Fh O O6 O O O) ?_;rintro _ w ⟨rfl,hE⟩;have hF:=hF.ext hE;refine⟨hF,?_⟩;refine rn 3 ?_;rintro w hF -;refine rn 4 ⟨?_,hF.same⟩;rw[Ae,hhd,Xc];rw[tQ hc0,uQ (by unfold blankB;exact gZ hc1)];rfl
 refine rn 8 ⟨λhc2=>?_,λhc2=>?_⟩;refine rn 4<|Ia (end_c s a hU Aa Aa _<|hG.ext hF.same) ?_;rintro w hF -;refine rn 15 ⟨λhc3=>?_,λhc3=>?_⟩;refine rn 5<|Vg hF (QN (((Wc s a).2.1:Nat)) ((Wc s a).2.2) _) (Fh O SN O O O) ?_;intro w hF;refine rn 3 ?_;rintro w hF -;refine rn 4 ⟨?_,hF.same⟩;rw[Ae,hhd,Xc];rw[tQ hc0,tQ zF,uQ Aa,tQ hc3];rfl;refine rn 6<|Vg hF (S6 (8) (((Wc s a).2.1:Nat)) (a:Int)<|hF.cell 1 O O) (Fh O O6 O O O) ?_;intro w hF;refine rn 3 ?_;rintro w hF -;refine rn 4 ⟨?_,hF.same⟩;rw[Ae,hhd,Xc];rw[tQ hc0,tQ zF,uQ Aa,uQ Aa];rfl;refine rn 1<|Eb (λσ w=>∃(g:Bool),(g=true↔(((s.drop a)[0]' h0).toNat=45\/(48<=((s.drop a)[0]' h0).toNat/\((s.drop a)[0]' h0).toNat<=57)))/\AllEq σ [(0,I s),(3,V b1),(4,V b2),(6,I<|(s:Str).drop (a)),(7,.func (.func 260) #[] #[V b1]),(8,.func (.func 261) #[] #[]),(72,.bool g)]/\FR w0 [] [(b2,.cells #[J 0,J 0,J 0] 140),(b1,.cells #[J<|(a:Int)] 3)] w) ?_ ?_;refine rn 5 ⟨λhg0=>?_,λhg0=>?_⟩;refine rn 9 ?_;exact Ha ⟨true,jP,Va,hF⟩;refine rn 4 ⟨λhg1=>?_,λhg1=>?_⟩;refine rn 6 ?_;exact Ha ⟨decide ((((((s:Str).drop (a):Str)[0]' qY).toNat:Int):Int)<=(57:Int)),jP,Va,hF⟩;refine rn 6 ?_;exact Ha ⟨false,jP,Va,hF⟩;rintro σ w ⟨g,hg,hzz,hF⟩;refine Aj hzz 2 ⟨λhc4=>?_,λhc4=>?_⟩;refine rn 1<|Rb (zs:=.of []) (.free 0<|.free 1<|.act 2<|.act 3<|.free 4<|.free 5 .nil) hF ?_;intro w hF;refine rn 2<|Lk (IR [45,43,46,48,49,50,51,52,53,54,55,56,57,101,69] _) ?_;rintro _ w ⟨ba,rfl,hAm,-,hE⟩;have hF:=hF.ext hE;refine⟨hF,?_⟩;refine Rc (runA_c (s.drop a) [45,43,46,48,49,50,51,52,53,54,55,56,57,101,69] qY _ _ (by rw[Db hAm 0];rfl)) ?_
 rintro w hF -;refine Ga O (v:=J<|((a+Hd (λc=>decide (0<=Lib.indexByte [45,43,46,48,49,50,51,52,53,54,55,56,57,101,69] c)) (s.drop a):Nat):Int)) (λw hC=>Cl O O (by have:=Rk (λc=>decide (0<=Lib.indexByte [45,43,46,48,49,50,51,52,53,54,55,56,57,101,69] c))<|s.drop a;rw[zQ]at this;exact Gd Aa Aa Aa)) ?_;refine rn 9 ?_;refine Ba (v:=I<|((s:Str).take (a+Hd (λc=>decide (0<=Lib.indexByte [45,43,46,48,49,50,51,52,53,54,55,56,57,101,69] c)) (s.drop a))).drop (a)) (Eh (a) (a+Hd (λc=>decide (0<=Lib.indexByte [45,43,46,48,49,50,51,52,53,54,55,56,57,101,69] c)) (s.drop a)) jX O O O jF jF) ?_;refine Ia (Ly _ (by rw[zQ,jZ];omega)) ?_;rintro w hF -;refine rn 4 ?_;rintro b3 w hb3 hF -;refine rn 10 ⟨λhc5=>?_,λhc5=>?_⟩;refine rn 5<|Vg hF (QN ((a:Int)) ((Wb<|((s:Str).take (a+Hd (λc=>decide (0<=Lib.indexByte [45,43,46,48,49,50,51,52,53,54,55,56,57,101,69] c)) (s.drop a))).drop (a)).2) _) (Fh O SN O O O) ?_;intro w hF;refine rn 3 ?_;rintro w hF -;refine rn 4 ⟨?_,hF.same⟩;rw[Ae,hhd,Xc];rw[tQ hc0,tQ zF,tQ Aa,uQ<|hg.1 hc4];rw[tk_num]at hc5 ⊢;have hc6:¬(Wb<|(s.drop a).take (Hd numB<|s.drop a)).2=0:=hc5;rw[tQ hc6];rfl;refine rn 6<|Vg hF (S6 (9) (((a+Hd (λc=>decide (0<=Lib.indexByte [45,43,46,48,49,50,51,52,53,54,55,56,57,101,69] c)) (s.drop a):Nat):Int)) (a:Int)<|hF.cell 2 O O) (Fh O O6 O O O) ?_;intro w hF;refine rn 3 ?_;rintro w hF -;refine rn 4 ⟨?_,hF.same⟩;rw[Ae,hhd,Xc];rw[tQ hc0,tQ zF,tQ Aa,uQ<|hg.1 hc4];rw[tk_num]at hc5
 have hc6:(Wb<|(s.drop a).take (Hd numB<|s.drop a)).2=0:=Decidable.of_not_not hc5;rw[uQ hc6];rfl;refine rn 6 ?_;refine Ia (runS_c (s.drop a) qY _) ?_;rintro w hF -;refine rn 8 ?_;refine Ba (v:=I<|((s:Str).drop (a):Str).take (Hd smallB<|s.drop a)) (Do (Hd smallB<|s.drop a) jX (h2:=by have:=Rk smallB<|s.drop a;omega)) ?_;refine Ia (word_c _ _) ?_;rintro w hF -;refine rn 10 ⟨λhc6=>?_,λhc6=>?_⟩;refine rn 6 ?_;refine Ba (v:=J<|((a+Hd smallB (s.drop a):Nat):Int)) (Cl O O (by have:=Rk smallB<|s.drop a;rw[zQ]at this;exact Gd Aa Aa Aa)) ?_;refine Vg hF (S6 (Ik<|(s.drop a).take (Hd smallB<|s.drop a)) (((a+Hd smallB (s.drop a):Nat):Int)) (a:Int)<|hF.cell 1 O O) (Fh O O6 O O O) ?_;intro w hF;refine rn 3 ?_;rintro w hF -;refine rn 4 ⟨?_,hF.same⟩;rw[Ae,hhd,Xc];rw[tQ hc0,tQ zF,tQ Aa,tQ (λe=>by rw[hg.2 e]at hc4;cases hc4),uQ hc6];rfl;refine rn 6<|Vg hF (QN ((a:Int)) (2) _) (Fh O SN O O O) ?_;intro w hF;refine rn 3 ?_;rintro w hF -;refine rn 4 ⟨?_,hF.same⟩;rw[Ae,hhd,Xc];rw[tQ hc0,tQ zF,tQ Aa,tQ (λe=>by rw[hg.2 e]at hc4;cases hc4),tQ hc6];rfl
theorem Sc{w:World}{L l:List Value}(h:∀j (hj:j<aL L),w.cell? (a.add j)=some L[j])(off:Nat)(hl:(L.drop off).take (aL l)=l):∀j (hj:j<aL l),w.cell? ((a.add off).add j)=some l[j]:=λj hj=>by
  have e:(a.add off).add j=a.add (off+j):=by
    unfold Addr.add;grind
  grind
theorem FR.cellsE{w0 w:World}{E:List Nat}{bs_:List (Nat × Obj)}(hF:FR w0 E bs_ w){cs:List Value}(hb:a.block∉E)(h:∀j (hj:j<aL cs),w0.cell? (a.add j)=some cs[j]):∀j (hj:j<aL cs),w.cell? (a.add j)=some cs[j]:=λj hj=>by
  rw[<-h j hj];exact World.cell?_of_block (w:=w0)<|hF.same.block _ (World.block_lt_of_cell? _ _<|h j hj) (by rw[Tb];exact hb)
section
variable {S:Nat->Prop}{w:World}{l r:List Tk}{t:Tk}{A:Option Addr}{len c:Nat}
def Rep.tok_head(h:Rep S w (Le l) [.slice A len c])(hl:l=t::r) :
    ∃ad,A=some ad/\S (ad.add (0*3)).block/\∀j (hj:j<aL [Value.int .i64 t.k,J (t.f:Nat),J (t.t:Nat)]),w.cell? ((ad.add (0*3)).add j)=some [Value.int .i64 t.k,J (t.f:Nat),J (t.t:Nat)][j]:=by
  subst hl;obtain⟨ad,hA,hk⟩:=Rep.tok_elem h (i:=0)<|Nat.succ_pos _;refine⟨ad,hA,?_,hk⟩;obtain⟨A',c',e,-,-,hr⟩:=Rep.slice_inv h;simp only[List.cons.injEq,Value.slice.injEq,and_true]at e;obtain⟨rfl,-,-⟩:=e;obtain⟨ad',rfl,es,hc,hl⟩:=hr Da;obtain rfl:=lQ hA;obtain⟨c1,c2,rfl,h1,-⟩:=RepL.cons_inv hl;obtain rfl:=S4 h1;have:=(hc 0 Da).2
  rwa [Tb]
def Rep.tok_tail(h:Rep S w (Le l) [.slice A (aL l) c])(hl:l=t::r):Rep S w (Le r) [.slice (if c=1 then A else A.map (·.add (1*3))) (aL l-1) (c-1)]:=by
  subst hl;obtain⟨A',c',e,g1,g2,hr⟩:=Rep.slice_inv h;simp only[List.cons.injEq,Value.slice.injEq,and_true]at e;obtain⟨rfl,-,rfl⟩:=e;simp only[rQ,kQ]at g1;refine Rep.slice_mk Da (by simp only[kQ];omega) Aa λhne=>?_;have hr0:0<aL r:=by cases r with|nil=>simp at hne|cons=>simp
  rw[tQ Aa];obtain⟨ad,rfl,es,hc,hl⟩:=hr Da;obtain⟨c1,c2,rfl,h1,h2⟩:=RepL.cons_inv hl;obtain rfl:=S4 h1;refine⟨_,O,c2,λi hi=>?_,h2⟩;have:=hc (3+i) qM;rw[Tb,Jo];refine⟨this.1.trans ?_,this.2⟩;rw[List.getElem_append_right Da];simp
def DB{p:Ps}(h:¬((aL p.rest:Int)=0)):∃t r,p.rest=t::r:=by
  cases hp:p.rest with
  | nil=>exact absurd (by rw[hp];rfl) h
  | cons t r=>exact⟨t,r,rfl⟩
def tk_more{p:Ps}{k:Int}(hk:k≠0)(h:¬(p.kind≠k)):∃t r,p.rest=t::r:=by
  unfold Ps.kind at h;cases hp:p.rest with
  | nil=>rw[hp]at h;exact absurd (λe=>hk e.symm) h
  | cons t r=>exact⟨t,r,rfl⟩
def JF{p:Ps}(h:(aL p.rest:Int)=0):p.rest=[]:=List.eq_nil_of_length_eq_zero Aa
end
theorem kindOf_c(k:Int)(w0:World):Calls prog 170 #[J k] w0 (Za λv w'=>v=J (Tc k)/\Same [] w0 w'):=by
  refine Ea func170 ntmps170 ?_;intro hF;refine rn 19 ⟨λhc0=>?_,λhc0=>?_⟩
  ·
   refine rn 6 ?_;exact⟨by unfold Tc;simp_all,hF.same⟩
  refine rn 8 ⟨λhc1=>?_,λhc1=>?_⟩
  ·
   refine rn 9 ?_;exact⟨by unfold Tc;simp_all,hF.same⟩
  refine rn 6 ⟨λhc2=>?_,λhc2=>?_⟩
  ·
   refine rn 6 ?_;exact⟨by unfold Tc;simp_all,hF.same⟩
  refine rn 7 ⟨λhc3=>?_,λhc3=>?_⟩
  ·
   refine rn 6 ?_;exact⟨by unfold Tc;simp_all,hF.same⟩
  refine rn 7 ⟨λhc4=>?_,λhc4=>?_⟩
  ·
   refine rn 6 ?_;exact⟨by unfold Tc;simp_all,hF.same⟩
  refine rn 7 ⟨λhc5=>?_,λhc5=>?_⟩
  ·
   refine rn 6 ?_;exact⟨by unfold Tc;simp_all,hF.same⟩
  refine rn 7 ⟨λhc6=>?_,λhc6=>?_⟩
  ·
   refine rn 6 ?_;exact⟨by unfold Tc;simp_all,hF.same⟩
  refine rn 9 ?_;exact⟨by unfold Tc;simp_all,hF.same⟩
def kind_c(s:Str)(p:Ps)(Ar A:Option Addr)(cr c pb:Nat)(S:Nat->Prop)(w0:World)(hb:w0.heap[pb]? = some (.cells (Qq s Ar cr p A c).toArray 138))(hT:Rep S w0 (Le p.rest) [.slice Ar (aL p.rest) cr])(hS:∀b,S b->b≠pb):Calls prog 171 #[V pb] w0 (Za λv w'=>v=J p.kind/\Same [] w0 w'):=by
 refine Lb func171 ntmps171 O O ?_;have hF:FR w0 [pb] [(pb,.cells #[I s,.slice Ar (aL p.rest) cr,J<|(p.lf:Nat),J<|(p.lt:Nat),.slice A (aL p.nodes) c,J<|(p.at_:Nat),J p.err] 138)] w0:=FR.open_ jK Da;refine rn 17 ⟨λhc0=>?_,λhc0=>?_⟩;refine rn 6 ?_;exact⟨by simp[Ps.kind,JF hc0],Same.refl _ _⟩;refine rn 3 ?_;obtain⟨t,r,hpr⟩:=DB hc0;obtain⟨ad,hA,hSa,hk⟩:=hT.tok_head hpr;subst hA;refine rn 5<|Ba (v:=.pointer<|some<|ad.add<|0*3) (Ca (i:=0) Xi O)<|Ba (v:=.pointer<|some<|(ad.add<|0*3).add 0) (Oa (a:=ad.add<|0*3) Jy)<|Ba (v:=J t.k) (Xa pZ<|hk 0 Bf) ?_;refine rn 4 ?_;exact⟨by simp[Ps.kind,hpr],Same.refl _ _⟩
def BY(s:Str)(p:Ps)(Ar A:Option Addr)(cr c pb:Nat)(S:Nat->Prop)(w0:World)(hb:w0.heap[pb]? = some (.cells (Qq s Ar cr p A c).toArray 138))(hT:Rep S w0 (Le p.rest) [.slice Ar (aL p.rest) cr])(hS:∀b,S b->b≠pb):Calls prog 177 #[V pb] w0 (Za λv w'=>v=J (p.here (aL s):Nat)/\Same [] w0 w'):=by
 refine Lb func177 ntmps177 O O ?_;have hF:FR w0 [pb] [(pb,.cells #[I s,.slice Ar (aL p.rest) cr,J<|(p.lf:Nat),J<|(p.lt:Nat),.slice A (aL p.nodes) c,J<|(p.at_:Nat),J p.err] 138)] w0:=FR.open_ jK Da;refine rn 17 ⟨λhc0=>?_,λhc0=>?_⟩;refine rn 11 ?_;exact⟨by simp[Ps.here,JF hc0],Same.refl _ _⟩;refine rn 3 ?_;obtain⟨t,r,hpr⟩:=DB hc0;obtain⟨ad,hA,hSa,hk⟩:=hT.tok_head hpr;subst hA;refine rn 5<|Ba (v:=.pointer<|some<|ad.add<|0*3) (Ca (i:=0) Xi O)<|Ba (v:=.pointer<|some<|(ad.add<|0*3).add 1) (Oa (a:=ad.add<|0*3) Fi)<|Ba (v:=.pointer<|some<|((ad.add<|0*3).add 1).add 0) (Oa (a:=(ad.add<|0*3).add 1) Zx) ?_;refine Ba (v:=J<|(t.f:Nat)) (Xa pZ (hx:=O)<|Sc (hF.cellsE bH hk) 1 (l:=[J (t.f:Nat),J (t.t:Nat)]) O 0<|Nat.zero_lt_succ _)<|rn 4 ?_;exact⟨by simp[Ps.here,hpr],Same.refl _ _⟩
def fail_c(s:Str)(p:Ps)(Ar A:Option Addr)(cr c pb:Nat)(S:Nat->Prop)(e:Int)(w0:World)(hb:w0.heap[pb]? = some (.cells (Qq s Ar cr p A c).toArray 138))(hT:Rep S w0 (Le p.rest) [.slice Ar (aL p.rest) cr])(hS:∀b,S b->b≠pb):Calls prog 114 #[V pb,J e] w0 (Za λv w'=>v=.bool false/\w'.heap[pb]? = some (.cells (Qq s Ar cr (p.fail (aL s) e) A c).toArray 138)/\Same [pb] w0 w'):=by
 refine Lb func114 ntmps114 O O ?_;have hF:FR w0 [pb] [(pb,.cells #[I s,.slice Ar (aL p.rest) cr,J<|(p.lf:Nat),J<|(p.lt:Nat),.slice A (aL p.nodes) c,J<|(p.at_:Nat),J p.err] 138)] w0:=FR.open_ jK Da;refine rn 10<|Ia (BY s p Ar A cr c pb S _ (hF.heap (i:=0) O) hT hS) ?_;rintro w hF -;refine rn 4 ?_;rintro w hF -;refine rn 3 ?_;rintro w hF -;refine rn 8 ?_;exact⟨O,hF.heap (i:=0) O,hF.same⟩
def ZZ(s:Str)(p:Ps)(Ar A:Option Addr)(cr c pb:Nat)(S:Nat->Prop)(t:Tk)(r:List Tk)(w0:World)(hb:w0.heap[pb]? = some (.cells (Qq s Ar cr p A c).toArray 138))(hT:Rep S w0 (Le p.rest) [.slice Ar (aL p.rest) cr])(hS:∀b,S b->b≠pb)(hpr:p.rest=t::r):Calls prog 172 #[V pb] w0 (Za λv w'=>v=.tuple #[]/\∃Ar' cr',w'.heap[pb]? = some (.cells (Qq s Ar' cr' p.skip A c).toArray 138)/\Rep S w' (Le p.skip.rest) [.slice Ar' (aL p.skip.rest) cr']/\Same [pb] w0 w'):=by
 refine Lb func172 ntmps172 O O ?_;have hF:FR w0 [pb] [(pb,.cells #[I s,.slice Ar (aL p.rest) cr,J<|(p.lf:Nat),J<|(p.lt:Nat),.slice A (aL p.nodes) c,J<|(p.at_:Nat),J p.err] 138)] w0:=FR.open_ jK Da;obtain⟨ad,hA,hSa,hk⟩:=hT.tok_head hpr;have hTt:=hT.tok_tail hpr;have hln:aL p.rest=aL r+1:=by rw[hpr];rfl
 refine Gb ⟨[16,19],λwq=>FR w0 [pb] [] wq,[1,9,10,11,13,14,17]⟩ (bQ [0,1,2,3,4,5,6,7,8,9,10,11,12,13,14,15]<|.act 16<|.free 17<|.free 18<|.act 19 .nil) hF ?_;rintro w hF -;refine⟨λwq=>FR w0 [pb] _ wq,hF,?_⟩;refine rn 6<|Ga O (v:=.pointer<|some<|ad.add<|0*3) (λw hC=>Ca (i:=0) Xi hA)<|Ga O (v:=.pointer<|some<|(ad.add<|0*3).add 1) (λw hC=>Oa (a:=ad.add<|0*3) Fi) ?_;refine Ga O (λw hC=>Ma (l:=[J<|(t.f:Nat),J<|(t.t:Nat)]) oZ tZ O O<|Sc (hC.cellsE bH hk) 1 O)<|rn 4 ?_;refine Wl O (v:=.slice ((if cr=1 then Ar else Ar.map (·.add (1*3)))) ((aL p.rest-1))<|(cr-1)) (λw hC=>Gq 1 Xi O O Aa) (λw hC=>Gq 1 Xi O O Aa)<|rn 2 ?_;refine Jj 0 (l:=[J<|(t.f:Nat),J<|(t.t:Nat)]) (cs':=#[I s,.slice Ar (aL p.rest) cr,J<|(t.f:Nat),J<|(t.t:Nat),.slice A (aL p.nodes) c,J<|(p.at_:Nat),J p.err]) hF tZ O (v:=.agg #[J<|(t.f:Nat),J<|(t.t:Nat)]) O O Eo O Bf O ?_ O;rintro w hF -;refine⟨hF.su,?_⟩;refine rn 3 ?_;rintro w hF -;refine rn 2 ?_;have e:p.skip = { p with lf:=t.f,lt:=t.t,rest:=r }:=by unfold Ps.skip;rw[hpr]
 have el:aL r=aL p.rest-1:=Aa
 rw[e];refine⟨O,(if cr=1 then Ar else Ar.map (·.add (1*3))),cr-1,?_,?_,hF.same⟩;have:=hF.heap (i:=0) rfl;simp only[Qq,el];exact this;show Rep S w (Le r) [.slice _ (aL r) _];rw[el];exact hTt.same hF.same λb hb hs=>hS b hs (aS hb)
def takes_c(s:Str)(p:Ps)(Ar A:Option Addr)(cr c pb:Nat)(S:Nat->Prop)(k:Int)(hk0:k≠0)(w0:World)(hb:w0.heap[pb]? = some (.cells (Qq s Ar cr p A c).toArray 138))(hT:Rep S w0 (Le p.rest) [.slice Ar (aL p.rest) cr])(hS:∀b,S b->b≠pb):Calls prog 232 #[V pb,J k] w0 (Za λv w'=>(p.kind≠k/\v=.bool false/\w'.heap[pb]? = some (.cells (Qq s Ar cr p A c).toArray 138)/\Same [pb] w0 w')\/(p.kind=k/\v=.bool true/\∃Ar' cr',w'.heap[pb]? = some (.cells (Qq s Ar' cr' p.skip A c).toArray 138)/\Rep S w' (Le p.skip.rest) [.slice Ar' (aL p.skip.rest) cr']/\Same [pb] w0 w')):=by
 refine Lb func232 ntmps232 O O ?_;have hF:FR w0 [pb] [(pb,.cells #[I s,.slice Ar (aL p.rest) cr,J<|(p.lf:Nat),J<|(p.lt:Nat),.slice A (aL p.nodes) c,J<|(p.at_:Nat),J p.err] 138)] w0:=FR.open_ jK Da;refine rn 9<|Ia (kind_c s p Ar A cr c pb S _ (hF.heap (i:=0) O) hT hS) ?_;rintro w hF -;refine rn 5 ⟨λhc0=>?_,λhc0=>?_⟩;refine rn 6 ?_;exact .inl ⟨hc0,O,hF.heap (i:=0) O,hF.same⟩;refine rn 5 ?_;have hT2:=hT.same hF.same λb hb hs=>hS b hs (aS hb);obtain⟨t,r,hpr⟩:=tk_more hk0 hc0;refine Fc (ZZ s p Ar A cr c pb S t r _ (hF.heap (i:=0) O) hT2 hS hpr) ?_;rintro v w ⟨rfl,Ar',cr',hb2,hT3,hE⟩;have hF:=hF.change 0 rfl hE hb2;refine rn 8 ?_;exact .inr ⟨Decidable.not_not.1 hc0,O,Ar',cr',hF.heap (i:=0) O,hT3,hF.same⟩
def Kp(ids_:List Nat)(w:World)(x:Nat):Prop:=x<w.heap.size/\x∉ids_
def KX(ids_:List Nat)(w:World)(ds:List D)(cs:List Value):Prop:=RepL (Kp ids_ w) w ds cs
section
variable {w w' w0:World}{i i' E Ds:List Nat}{ds es:List D}{cs ct:List Value}{bs_ sl sl':List (Nat × Obj)}{S:Nat->Prop}
def KX.step(h:KX i w ds cs)(hs:Same E w w')(he:∀b∈E,b∈i)(hi:∀x∈i',x∈i\/w.heap.size<=x):KX i' w' ds cs :=
  RepL.weaken (λb hb _=>⟨Nat.lt_of_lt_of_le hb.1 hs.size,λhm=>(hi b hm).elim hb.2 (λh=>by have:=hb.1;omega)⟩) (RepL.same h hs λb hb hn=>hn.2<|he b hb)
def KX.ext(h:KX i w ds cs)(hs:Same [] w w'):KX i w' ds cs:=h.step hs Da (λ_ hx=>.inl hx)
def KX.store(h:KX i w ds cs)(hs:Same E w w')(he:∀b∈E,b∈i):KX i w' ds cs:=h.step hs he (λ_ hx=>.inl hx)
def KX.sub(h:KX i w ds cs)(hi:∀x∈i',x∈i):KX i' w ds cs:=h.step (Same.refl [] w) Da (λx hx=>.inl<|hi x hx)
def KX.grow(h:KX i w ds cs)(hE:Same (sl.map (·.1)) w w')(hn:∀p∈sl',p.1∈sl.map (·.1)\/w.heap.size<=p.1)(hi:∀x∈sl.map (·.1),x∈i):KX (i++ids sl') w' ds cs :=
  h.step hE hi λx hx=>by
    rcases mQ.1 hx with h1|h1
    ·exact .inl h1
    obtain⟨p, hp, rfl⟩ := nQ.1 h1;rcases hn p hp with h2|h2
    ·exact .inl<|hi _ h2
    exact .inr h2
def KX.append(h:KX i w ds cs)(k:KX i w es ct):KX i w (ds++es) (cs++ct):=RepL.append h k
def KX.any(h:KX i w ds cs):RepL (λ_=>True) w ds cs:=RepL.weaken (λ_ _ _=>trivial) h
def KX.made(hF:FR w0 [] bs_ w)(hs:Same [] w w')(hi:∀x∈i,w0.heap.size<=x/\x<w.heap.size)(h:Rep (λb=>b<w0.heap.size\/Btw w w' b) w' d cs):Rep (Kp i w') w' d cs :=
  h.weaken λb hb hl=>⟨hl,λhm=>by
    have h1:=hi b hm;rcases hb with h2|h2
    ·omega
    have:=h2.1;omega⟩
def KX.low(hF:FR w0 [] bs_ w)(hi:∀x∈i,w0.heap.size<=x)(h:Rep S w0 d cs):Rep (Kp i w) w d cs :=
  (hF.rep h.low).weaken λb hb hl=>⟨hl,λhm=>by have:=hi b hm;omega⟩
end
def Rep.tree_at{S:Nat->Prop}{w:World}{l:List Tree}{B:Option Addr}{n e:Nat}(h:Rep S w (.slice (Hc l)) [.slice B n e]){i:Nat}(hi:i<aL l) :
    ∃(ad:Addr)(a:Tv),B=some ad/\(∀j (hj:j<aL a.cells),w.cell? ((ad.add (i*4)).add j)=some a.cells[j])/\Rep S w (Na l[i]) a.cells:=by
  obtain⟨ad,cs,hA,hl,hk,hx⟩:=h.tree_elem hi;obtain⟨a,rfl,-⟩:=Pe hx;exact⟨ad,a,hA,hk,hx⟩
def ofT(s:Str):Tree:=.node 4 s [] []
def Fm(m:Mm):Tree:=.node 5 [] [] [ofT m.pr,Ed m.sd]
def Wh(t:List Mm):Tree:=.node 5 [] [] (t.map Fm)
def Cm(t:List Mm):Str × Int:=if Tf t=true then (Mt (Zc (Wh t)),Vs (Zc (Wh t))) else ([],1)
def Kj:Mm:=⟨[],noS⟩
def Yb(v:Tree):Mm × Bool:=if v.kind=5 then (match v.items with
  | [a,b]=>if a.kind=4/\b.kind=5/\aL b.items<=1 then (⟨a.text,match b.items with|[x]=>⟨true,x⟩|_=>noS⟩,true) else (Kj,false)
  | _=>(Kj,false)) else (Kj,false)
def Gy{v:Tree}(h:¬(v.kind=5/\aL v.items=2)):Yb v=(Kj,false):=by
  unfold Yb;by_cases hk:v.kind=5
  ·rw[uQ hk]
   split
   ·rename_i a b e;exact absurd ⟨hk,by rw[e];rfl⟩ h
   rfl
  rw[tQ hk]
def Z9{l:List Tree}(h:aL l=2):∃a b,l=[a,b]:=by
  match l,h with
  | [a,b],_=>exact⟨a,b,rfl⟩
def X4{S:Nat->Prop}{w:World}{t:Tree}{cs:List Value}(h:Rep S w (Na t) cs):aL t.text<=9223372036854775807:=by
  obtain⟨k,s,ks,xs⟩:=t;obtain⟨A,c,B,e,-,-,h2,-,-⟩:=h.tree_inv;exact h2
def Ix{S:Nat->Prop}{w:World}:Rep S w (Ad Kj.sd) (Sv.mk false Z8).cells:=Ul
def CV{l:List Tree}(h:aL l=1):∃a,l=[a]:=by
  match l,h with
  | [a],_=>exact⟨a,rfl⟩
theorem item_c2(y:Tree)(x:Tv)(S:Nat->Prop)(w0:World)(hX:Rep S w0 (Na y) x.cells):Calls prog 44 #[.agg x.cells.toArray] w0 (Za λv w'=>∃z:Sv,v=.tuple #[.agg (Lp (Yb y).1.pr z).toArray,.bool (Yb y).2]/\Rep S w' (Ad (Yb y).1.sd) z.cells/\aL (Yb y).1.pr<=9223372036854775807/\Same [] w0 w'):=by
 obtain⟨hp1,hp2,hp3,hp4,-,hpB⟩:=Dd hX;refine Ea func44 ntmps44 ?_;intro hF;refine rn 3 ?_;rintro b1 w hb1 hF -;refine Wm (cs:=#[I [],.bool false,J 0,I [],aQ,aQ]) hF zeroValue44 O ?_;rintro b2 w hb2 hF -;refine rn 11 ⟨λhg0=>?_,λhg0=>?_⟩
 ·
  refine rn 12 ?_;rintro w hF -;refine rn 4 ?_;have e:Yb y=(Kj,false):=Gy (by intro h;have h1:=hp1;have h4:=hp4;simp_all;try omega);rw[e];exact⟨⟨false,Z8⟩,O,Ix,by simp[Kj],hF.same⟩
 refine rn 8 ⟨λhc0=>?_,λhc0=>?_⟩
 ·
  refine rn 4 ?_;rintro w hF -;refine rn 4 ?_;have e:Yb y=(Kj,false):=Gy (by intro h;have h1:=hp1;have h4:=hp4;simp_all;try omega);rw[e];exact⟨⟨false,Z8⟩,O,Ix,by simp[Kj],hF.same⟩
 refine rn 2 ?_;obtain⟨hk5,hm2⟩:y.kind=5/\aL y.items=2:=by have h1:=hp1;have h4:=hp4;constructor <;> (simp_all;try omega)
 obtain⟨ya,yb,hy2⟩:=Z9 hm2;rw[hy2]at hpB;obtain⟨nad,n_,nA,nk,nX⟩:=hpB.tree_at (i:=0) Da;obtain⟨had,h_,hA,hk,hX2⟩:=hpB.tree_at (i:=1) Da;obtain⟨na1,na2,-⟩:=Dd nX;obtain⟨ha1,ha2,ha3,ha4,ha5,ha6⟩:=Dd hX2;simp only[List.getElem_cons_zero,List.getElem_cons_succ]at na1 na2 nX ha1 ha2 ha3 ha4 ha5 ha6 hX2;refine rn 1<|Eb (λσ w=>∃(bn:Nat),∃(bh:Nat),AllEq σ [(2,V b2),(4,V bn),(5,V bh)]/\FR w0 [] [(bn,.cells (n_.cells).toArray 36),(bh,.cells (h_.cells).toArray 36),(b2,.cells #[I [],.bool false,J 0,I [],aQ,aQ] 44),(b1,.cells (x.cells).toArray 36)] w) ?_ ?_
 ·
  refine Rb (zs:=.of [11]) (bQ [0,1,2,3,4,5,6,7]<|.alt 8 (cQ [9,10,11] .nil)<|cQ [9,8,10,11] .nil) hF ?_;intro w hF;refine rn 1 ?_;refine f_Y O (yll isAgg34 C0 1)<|Ga O (v:=.pointer<|some<|nad.add<|0*4) (λw hC=>Ca (i:=0) Fd nA)<|Ga O (v:=.agg (n_.cells).toArray) (λw hC=>Ma (l:=n_.cells) qZ uZ O O<|hC.cells0 nk) ?_;refine rn 1 ?_;refine f_Y O (yll isAgg34 C0 1)<|Ga O (v:=.pointer<|some<|had.add<|1*4) (λw hC=>Ca (i:=1) Fd hA)<|Ga O (v:=.agg (h_.cells).toArray) (λw hC=>Ma (l:=h_.cells) qZ uZ O O<|hC.cells0 hk) ?_
  repeat' first
   |refine R7 ?_ ?_|refine Bs 8<|Y5 O (v:=λb=>V b) (o:=.cells #[J 0,I [],aQ,aQ] 36) hF (Ql kX) ?_;rintro b301 w hb301 hF -;refine⟨hF.drop 1,?_⟩|refine Bs 8<|Y5 O (v:=λb=>V b) (o:=.cells #[J 0,I [],aQ,aQ] 36) hF (Ql kX) ?_;rintro b301 w hb301 hF -;refine⟨hF.drop 2,?_⟩|refine Bs 9<|Y5 O (v:=λb=>V b) (o:=.cells #[J 0,I [],aQ,aQ] 36) hF (Ql kX) ?_;rintro b302 w hb302 hF -;refine⟨hF.drop 2,?_⟩|refine Bs 9<|Y5 O (v:=λb=>V b) (o:=.cells #[J 0,I [],aQ,aQ] 36) hF (Ql kX) ?_;rintro b302 w hb302 hF -;refine⟨hF.drop 1,?_⟩|refine Bs 10<|FZ O hF uZ O O sI1 ?_;rintro w hF -;refine⟨hF.drop 2,?_⟩|refine Bs 10<|FZ O hF uZ O O sI0 ?_;rintro w hF -;refine⟨hF.drop 2,?_⟩|refine Bs 11<|z_sg O hF uZ O O sI0 ?_;rintro w hF -|refine Bs 11<|z_sg O hF uZ O O sI1 ?_;rintro w hF -|refine rn 1 ?_;exact Ha ⟨b301,b302,ae3,(((hF.front 3 O).front 3 O).front 2 O).front 3 O⟩|refine rn 1 ?_;exact Ha ⟨b301,b302,ae3,(((hF.front 3 O).front 3 O).front 3 O).front 3 O⟩
 rintro σ w ⟨bn,bh,hzz,hF⟩;refine Aj hzz 9 ⟨λhg1=>?_,λhg1=>?_⟩
 ·
  refine rn 17 ?_;rintro w hF -;refine rn 4 ?_;have e:Yb y=(Kj,false):=by unfold Yb;rw[uQ hk5,hy2];simp only;rw[tQ kU]
  rw[e];exact⟨⟨false,Z8⟩,O,Ix,by simp[Kj],hF.same⟩
 refine rn 6 ⟨λhg2=>?_,λhg2=>?_⟩
 ·
  refine rn 12 ?_;rintro w hF -;refine rn 4 ?_;have e:Yb y=(Kj,false):=by unfold Yb;rw[uQ hk5,hy2];simp only;rw[tQ kU]
  rw[e];exact⟨⟨false,Z8⟩,O,Ix,by simp[Kj],hF.same⟩
 refine rn 8 ⟨λhc1=>?_,λhc1=>?_⟩
 ·
  refine rn 4 ?_;rintro w hF -;refine rn 4 ?_;have e:Yb y=(Kj,false):=by unfold Yb;rw[uQ hk5,hy2];simp only;rw[tQ kU]
  rw[e];exact⟨⟨false,Z8⟩,O,Ix,by simp[Kj],hF.same⟩
 refine rn 8 ?_;rintro w hF -;refine rn 12 ⟨λhc2=>?_,λhc2=>?_⟩
 ·
  obtain⟨yx,hyx⟩:=CV (l:=yb.items) (by rw[<-ha4];omega);rw[hyx]at ha6;obtain⟨xad,x_,xA,xk,xX⟩:=ha6.tree_at (i:=0) Da;simp only[List.getElem_cons_zero]at xX;refine rn 3<|Ba (v:=.pointer<|some<|xad.add<|0*4) (Ca (i:=0) Fd xA)<|Ba (v:=.agg (x_.cells).toArray) (Ma (l:=x_.cells) qZ uZ O O<|hF.cells0 xk) ?_;refine Ba (w':=w) (v:=.agg #[.bool true,J x_.k,I x_.t,.slice x_.A x_.n x_.c,.slice x_.B x_.m x_.e]) Ua<|rn 1 ?_;refine Ye 2 (l:=[.bool true,J x_.k,I x_.t,.slice x_.A x_.n x_.c,.slice x_.B x_.m x_.e]) (cs':=#[I n_.t,.bool true,J x_.k,I x_.t,.slice x_.A x_.n x_.c,.slice x_.B x_.m x_.e]) hF vZ O (v:=.agg #[.bool true,J x_.k,I x_.t,.slice x_.A x_.n x_.c,.slice x_.B x_.m x_.e]) O O Eo O Bf O ?_;rintro w hF -;refine rn 6 ?_;rintro w hF -;refine rn 4 ?_;have hq4:ya.kind=4/\yb.kind=5/\aL yb.items<=1:=by refine⟨?_,?_,?_⟩ <;> (simp_all;try omega)
  have e:Yb y=(⟨ya.text,⟨true,yx⟩⟩,true):=by unfold Yb;rw[uQ hk5,hy2];simp only;rw[uQ hq4,hyx]
  rw[e];rw[na2];exact⟨⟨true,x_⟩,O,hF.rep<|B3 (s:=⟨true,yx⟩) xX,X4 nX,hF.same⟩
 refine rn 6 ?_;rintro w hF -;refine rn 4 ?_;have hq4:ya.kind=4/\yb.kind=5/\aL yb.items<=1:=by refine⟨?_,?_,?_⟩ <;> (simp_all;try omega)
 have hy0:yb.items=[]:=by refine List.eq_nil_of_length_eq_zero ?_;have h5:=hc2;omega
 have e:Yb y=(⟨ya.text,noS⟩,true):=by unfold Yb;rw[uQ hk5,hy2];simp only;rw[uQ hq4,hy0]
 rw[e];rw[na2];exact⟨⟨false,Z8⟩,O,Ul,X4 nX,hF.same⟩
end Go.Scarf
