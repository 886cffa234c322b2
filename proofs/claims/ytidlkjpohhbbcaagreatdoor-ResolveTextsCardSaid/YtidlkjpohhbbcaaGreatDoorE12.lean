/- A part of the proof. -/
import Derived.Test.YtidlkjpohhbbcaaGreatDoorE9
set_option linter.all false
set_option maxHeartbeats 8000000
set_option maxRecDepth 10000
set_option synthInstance.maxHeartbeats 0
set_option synthInstance.maxSize 9999
namespace Go.Scarf
open List renaming length->aL
open Go.RowKit Go.Proofs Go.Proofs.Tryz
variable {d n:Nat}{m:Bool}{k:Int}{ks:List Str}{t:Str}
section
variable {α:Type}{f:α->α->Int}{xs ys:List α}{j:Nat}{Q q r:Int}
end
theorem HM(x:Tree)(hsz:La x<=1000000000)(hm:Ob x<=1073741824)(S:Nat->Prop)(w0:World)(cs:List Value)(hR:Rep S w0 (Na x) cs):GF 73 #[.agg cs.toArray] (Na (Zc x)) w0:=by
 have hl:aL cs=4:=hR.length.trans<|Bb x;have ho:=hR.one_;refine Ea func73 ntmps73 ?_;intro hF;refine rn 2<|Gk (v:=.agg<|List.toArray cs) (cs:=(List.toArray cs)) hF O O ?_;rintro b1 w hb1 hF -;refine rn 1 ?_;rintro b2 w hb2 hF -;refine rn 4<|Ba (v:=.agg<|List.toArray cs) (Ma (l:=cs) qZ uZ O hl<|hF.cellsAll 1 O) ?_;refine Ia (ropen_t x hsz hm S _ cs<|hF.rep hR) ?_;rintro w hF -;refine rn 11 ⟨λhc0=>?_,λhc0=>?_⟩;refine rn 2<|Ba (w':=w) (v:=.agg #[J 0,I [],aQ,aQ]) Ua ?_;refine rn 1 ?_;rintro w hF -;refine rn 3 ?_;have ho_:De x=false:=Sq qW;refine⟨_,O,?_,hF.same⟩;rw[Zc,ho_];exact Sk _ _;refine rn 4<|Ba (v:=.agg<|List.toArray cs) (Ma (l:=cs) qZ uZ O hl<|hF.cellsAll 1 O) ?_;refine Fc (CX x S _ cs (hF.rep hR) (Am<|Km qW) hsz) ?_;rintro _ w ⟨ct,rfl,hRt,hE⟩;have hlct:aL ct=4:=hRt.length.trans<|Bb _;have hoct:=hRt.one_;have hXX:=RX.made (ids:=[b2,b1]) hF.same.size (λx hx=>hF.lt_ids qK) hRt;have hF:=hF.ext hE;clear hE hRt;refine Ye 0 (l:=ct) (cs':=(List.toArray ct)) hF (by rw[hlct];exact uZ) O (v:=.agg<|List.toArray ct) O O (hoct) O wN (Ij (by rw[hlct];rfl)) ?_;intro w hF hE;have hXX:=hXX.store hE qK;refine rn 2<|Rf<|Yd λ_ hr=>Nc (HQ hr (l:=ct) O qZ uZ hlct<|hF.cellsAll 0 O) ?_;have ho_:De x=true:=Km qW;refine⟨_,O,?_,hF.same⟩;rw[Zc,ho_]
 ·exact hXX.done
def u8_quo(h:n<256):IntKind.u8.wrap (((n:Nat):Int).tdiv 16)=((n/16:Nat):Int):=by
  have:((n:Nat):Int).tdiv 16=((n/16:Nat):Int):=rfl;rw[this,IntKind.wrap_u8];omega
theorem CD{k:Nat}(h:k<aL ([48,49,50,51,52,53,54,55,56,57,97,98,99,100,101,102]:Str)):([48,49,50,51,52,53,54,55,56,57,97,98,99,100,101,102]:Str)[k]=dg k:=by
  have:∀k<16,([48,49,50,51,52,53,54,55,56,57,97,98,99,100,101,102]:Str)[k]? = some (dg k):=Ja
  have h2:=this k h;grind
def u8_rem:((n:Nat):Int).tmod 16=((n%16:Nat):Int):=rfl
def VG(s:Str)(hl:aL s<=1099511627776)(w0:World):Calls prog 110 #[I s] w0 (Za λv w'=>v=.tuple #[I (qS s),J (if Lib.validD s=true then 0 else 2)]/\Same [] w0 w'):=by
 refine Ea func110 ntmps110 ?_;intro hF;refine rn 9<|Fc (W8 s Aa _) ?_;rintro _ w ⟨nn,rfl,hE⟩;have hF:=hF.ext hE;refine rn 15 ⟨λhc0=>?_,λhc0=>?_⟩;refine rn 7 ?_;have hv:Lib.validD s=false:=Sq qW;exact⟨by rw[qS,hv];rfl,hF.same⟩;refine rn 10 ?_;rintro b1 w hb1 hF -;refine rn 10 ?_;have hS0:SlB 5 1 (some ⟨b1,0,none⟩) 1 1 (Lib.byteCells [34]) [(b1,.cells #[.int .u8 34] 5)]:=⟨by simp[Lib.byteCells],.inr ⟨b1,_,rfl,rfl,gQ _,Ja,Da,by simp[Lib.byteCells]⟩⟩;have hF:=hF.toseg 0 rfl;refine Sa (λμ σ w=>∃(j:Nat),∃(acc:Str),∃(A:Option Addr),∃(c:Nat),∃(sb:List (Nat × Obj)),μ=aL s-j/\(j<=aL s)/\(1<=aL acc/\aL acc<=6*j+1)/\(acc=34::Zr (s.take j))/\(SlB 5 1 A (aL acc) c (Lib.byteCells acc) sb)/\AllEq σ [(0,I s),(6,I [48,49,50,51,52,53,54,55,56,57,97,98,99,100,101,102]),(7,.slice A (aL acc) c),(8,J<|(j:Int))]/\FR w0 [] ([]++(sb++[])) w) _ ⟨0,[34],_,_,_,O,dZ _,Da,O,hS0,Fz,hF⟩ ?_;rintro μ σ w ⟨j,acc,A,c,sb,rfl,hj,ha,hq,hS,hzz,hF⟩;refine Wf hzz 10 ⟨λhc1=>?_,λhc1=>?_⟩;refine rn 8<|Ba (v:=.int .u8<|(((s:Str)[j]' Aa).toNat:Int)) (Cb (j) jX O O Aa) ?_;refine rn 9 ⟨λhg0=>?_,λhg0=>?_⟩;refine rn 10 ?_;rintro b2 w hb2 hF -;refine I6 (news:=[.int .u8 92,.int .u8<|(((s:Str)[j]' Aa).toNat:Int)]) (len':=aL (acc++Uf (s[j]' Aa))) (ys:=Lib.byteCells<|acc++Uf (s[j]' Aa)) Ok hF hS O O (O) (λ_=>⟨_,O,Kc<|hF.cellsAll 0 O⟩) zB qN (by rw[LS Aa];simp) (by rw[LS Aa];simp[Lib.byteCells,CD]) Aa ?_;intro A1 c1 o_1 w hS1_o hF hE hnew;refine rn 6<|Zb (Wd<|((j+1:Nat):Int)) ?_;refine rn 2 ?_;refine Ha ⟨_,?_,j+1,acc++Uf (s[j]' Aa),A1,c1,o_1,O,Aa,qD,jT,hS1_o,Fz,hF.drop 1⟩;omega;refine rn 6 ⟨λhc2=>?_,λhc2=>?_⟩
 refine rn 4 ?_;rintro b3 w hb3 hF -;refine I6 (news:=[.int .u8 92,.int .u8<|(((s:Str)[j]' Aa).toNat:Int)]) (len':=aL (acc++Uf (s[j]' Aa))) (ys:=Lib.byteCells<|acc++Uf (s[j]' Aa)) Ok hF hS O O (O) (λ_=>⟨_,O,Kc<|hF.cellsAll 0 O⟩) zB qN (by rw[LS Aa];simp) (by rw[LS Aa];simp[Lib.byteCells,CD]) Aa ?_;intro A2 c2 o_2 w hS2_o hF hE hnew;refine rn 6<|Zb (Wd<|((j+1:Nat):Int)) ?_;refine rn 2 ?_;refine Ha ⟨_,?_,j+1,acc++Uf (s[j]' Aa),A2,c2,o_2,O,Aa,qD,jT,hS2_o,Fz,hF.drop 1⟩;omega;refine rn 7 ⟨λhc3=>?_,λhc3=>?_⟩;refine rn 2 ?_;refine Xp [] [] (txt:=[92,98]) (len':=aL (acc++Uf (s[j]' Aa))) (ys:=Lib.byteCells<|acc++Uf (s[j]' Aa)) Ok jX O hF hS O O Ja qM (by rw[Xl 8 (t:=[92,98]) Ja qA qW];simp) (by rw[Xl 8 (t:=[92,98]) Ja qA qW];simp[Lib.byteCells,CD]) ?_;intro A3 c3 o_3 w hS3_o hF hE hnew;refine rn 6<|Zb (Wd<|((j+1:Nat):Int)) ?_;refine rn 2 ?_;refine Ha ⟨_,?_,j+1,acc++Uf (s[j]' Aa),A3,c3,o_3,O,Aa,qD,jT,hS3_o,Fz,hF⟩;omega;refine rn 7 ⟨λhc4=>?_,λhc4=>?_⟩;refine rn 2 ?_;refine Xp [] [] (txt:=[92,102]) (len':=aL (acc++Uf (s[j]' Aa))) (ys:=Lib.byteCells<|acc++Uf (s[j]' Aa)) Ok jX O hF hS O O Ja qM (by rw[Xl 12 (t:=[92,102]) Ja qA qW];simp) (by rw[Xl 12 (t:=[92,102]) Ja qA qW];simp[Lib.byteCells,CD]) ?_;intro A4 c4 o_4 w hS4_o hF hE hnew;refine rn 6<|Zb (Wd<|((j+1:Nat):Int)) ?_;refine rn 2 ?_;refine Ha ⟨_,?_,j+1,acc++Uf (s[j]' Aa),A4,c4,o_4,O,Aa,qD,jT,hS4_o,Fz,hF⟩
 omega;refine rn 7 ⟨λhc5=>?_,λhc5=>?_⟩;refine rn 2 ?_;refine Xp [] [] (txt:=[92,110]) (len':=aL (acc++Uf (s[j]' Aa))) (ys:=Lib.byteCells<|acc++Uf (s[j]' Aa)) Ok jX O hF hS O O Ja qM (by rw[Xl 10 (t:=[92,110]) Ja qA qW];simp) (by rw[Xl 10 (t:=[92,110]) Ja qA qW];simp[Lib.byteCells,CD]) ?_;intro A5 c5 o_5 w hS5_o hF hE hnew;refine rn 6<|Zb (Wd<|((j+1:Nat):Int)) ?_;refine rn 2 ?_;refine Ha ⟨_,?_,j+1,acc++Uf (s[j]' Aa),A5,c5,o_5,O,Aa,qD,jT,hS5_o,Fz,hF⟩;omega;refine rn 7 ⟨λhc6=>?_,λhc6=>?_⟩;refine rn 2 ?_;refine Xp [] [] (txt:=[92,114]) (len':=aL (acc++Uf (s[j]' Aa))) (ys:=Lib.byteCells<|acc++Uf (s[j]' Aa)) Ok jX O hF hS O O Ja qM (by rw[Xl 13 (t:=[92,114]) Ja qA qW];simp) (by rw[Xl 13 (t:=[92,114]) Ja qA qW];simp[Lib.byteCells,CD]) ?_;intro A6 c6 o_6 w hS6_o hF hE hnew;refine rn 6<|Zb (Wd<|((j+1:Nat):Int)) ?_;refine rn 2 ?_;refine Ha ⟨_,?_,j+1,acc++Uf (s[j]' Aa),A6,c6,o_6,O,Aa,qD,jT,hS6_o,Fz,hF⟩;omega;refine rn 7 ⟨λhc7=>?_,λhc7=>?_⟩;refine rn 2 ?_;refine Xp [] [] (txt:=[92,116]) (len':=aL (acc++Uf (s[j]' Aa))) (ys:=Lib.byteCells<|acc++Uf (s[j]' Aa)) Ok jX O hF hS O O Ja qM (by rw[Xl 9 (t:=[92,116]) Ja qA qW];simp) (by rw[Xl 9 (t:=[92,116]) Ja qA qW];simp[Lib.byteCells,CD]) ?_;intro A7 c7 o_7 w hS7_o hF hE hnew;refine rn 6<|Zb (Wd<|((j+1:Nat):Int)) ?_;refine rn 2 ?_;refine Ha ⟨_,?_,j+1,acc++Uf (s[j]' Aa),A7,c7,o_7,O,Aa,qD,jT,hS7_o,Fz,hF⟩
 omega;refine rn 7 ⟨λhc8=>?_,λhc8=>?_⟩;refine Gb (.of []) (bQ [0,1,2,3,4,5,6,7,8]<|.act 9<|.act 10<|.free 11 .nil) hF ?_;rintro w hF -;refine⟨λwq=>FR w0 [] [] wq,hF.sub<|List.nil_sublist _,?_⟩;refine rn 3<|Ga O (v:=.int .u8<|(((s[j]' Aa).toNat/16:Nat):Int)) (λw hC=>DQ O O Ja<|u8_quo<|UInt8.toNat_lt _) ?_;refine Ga O (v:=.int .u8<|((([48,49,50,51,52,53,54,55,56,57,97,98,99,100,101,102]:Str)[(s[j]' Aa).toNat/16]' qM).toNat:Int)) (λw hC=>Cb ((s[j]' Aa).toNat/16) jX O O qM) ?_;refine rn 2<|Ga O (v:=.int .u8<|(((s[j]' Aa).toNat%16:Nat):Int)) (λw hC=>BH u8_rem) ?_;refine Ga O (v:=.int .u8<|((([48,49,50,51,52,53,54,55,56,57,97,98,99,100,101,102]:Str)[(s[j]' Aa).toNat%16]' qM).toNat:Int)) (λw hC=>Cb ((s[j]' Aa).toNat%16) jX O O qM) ?_;refine rn 1 ?_;rintro b4 w hb4 hF -;refine f_app (news:=[.int .u8 92,.int .u8 117,.int .u8 48,.int .u8 48,.int .u8<|((([48,49,50,51,52,53,54,55,56,57,97,98,99,100,101,102]:Str)[(s[j]' Aa).toNat/16]' qM).toNat:Int),.int .u8<|((([48,49,50,51,52,53,54,55,56,57,97,98,99,100,101,102]:Str)[(s[j]' Aa).toNat%16]' qM).toNat:Int)]) (len':=aL (acc++Uf (s[j]' Aa))) (ys:=Lib.byteCells<|acc++Uf (s[j]' Aa)) O Ok hF hS O O (O) (λ_=>⟨_,O,Kc<|hF.cellsAll 0 O⟩) zB qN (by rw[FQ Aa Aa Aa Aa Aa Aa];simp) (by rw[FQ Aa Aa Aa Aa Aa Aa];simp[Lib.byteCells,CD]) Aa ?_;intro A8 c8 o_8 w hS8_o hF hE hnew;refine⟨hF.mid 1 0,?_⟩;refine rn 6<|Zb (Wd<|((j+1:Nat):Int)) ?_;refine rn 2 ?_;refine Ha ⟨_,?_,j+1,acc++Uf (s[j]' Aa),A8,c8,o_8,O,Aa,qD,jT,hS8_o,Fz,hF.drop 1⟩;omega;refine rn 4 ?_;rintro b5 w hb5 hF -;refine I6 (news:=[.int .u8<|(((s:Str)[j]' Aa).toNat:Int)]) (len':=aL (acc++Uf (s[j]' Aa))) (ys:=Lib.byteCells<|acc++Uf (s[j]' Aa)) Ok hF hS O O (O) (λ_=>⟨_,O,Kc<|hF.cellsAll 0 O⟩) zB qN (by rw[RA Aa Aa Aa];simp) (by rw[RA Aa Aa Aa];simp[Lib.byteCells,CD]) Aa ?_
 intro A9 c9 o_9 w hS9_o hF hE hnew;refine rn 6<|Zb (Wd<|((j+1:Nat):Int)) ?_;refine rn 2 ?_;refine Ha ⟨_,?_,j+1,acc++Uf (s[j]' Aa),A9,c9,o_9,O,Aa,qD,jT,hS9_o,Fz,hF.drop 1⟩;omega;refine rn 6 ?_;rintro b6 w hb6 hF -;refine I6 (news:=[.int .u8 34]) (len':=aL (acc++[34])) (ys:=Lib.byteCells<|acc++[34]) Ok hF hS O O (O) (λ_=>⟨_,O,Kc<|hF.cellsAll 0 O⟩) zB qN Da (by simp[Lib.byteCells]) Aa ?_;intro A10 c10 o_10 w hS10_o hF hE hnew;refine Ba (v:=I<|acc++[34]) (x_convSl (s:=acc++[34]) hS10_o hF underlying121 iX jX O)<|rn 5 ?_;have hv:Lib.validD s=true:=Km qW;exact⟨by rw[BZ hv hq Aa,hv];rfl,hF.same⟩
def repL_n(n:Nat):aL (Lib.repeatL [32] n)=n:=by
  induction n with
  | zero=>rfl
  | succ n ih =>
    simp[Lib.repeatL,ih]
    try omega
def rep_snoc(n:Nat):Lib.repeatL [32] n++[32]=Lib.repeatL [32] (n+1):=by
  induction n with
  | zero=>rfl
  | succ n ih =>
    rw[Lib.repeatL,sQ,ih];rfl
def HG(n:Nat)(hn:n<=1099511627776)(w0:World):Calls prog 111 #[J (n:Nat)] w0 (Za λv w'=>v=I (Lib.repeatL [32] n)/\Same [] w0 w'):=by
 refine Ea func111 ntmps111 ?_;intro hF;refine rn 17<|Sa (λμ σ w=>∃(j:Nat),∃(s:Str),μ=n-j/\(j<=n)/\(s=Lib.repeatL [32] j)/\AllEq σ [(0,J<|(n:Nat)),(3,I s),(4,J<|(j:Int))]/\FR w0 [] [] w) _ ⟨0,[],O,dZ _,O,Va,hF⟩ ?_;rintro μ σ w ⟨j,s,rfl,hj,hs,hzz,hF⟩;refine Wf hzz 9 ⟨λhc0=>?_,λhc0=>?_⟩;refine rn 6 ?_;refine Ba (v:=I<|(s)++([32])) (Gf O O (by rw[hs,repL_n];simp;omega)) ?_;refine rn 6<|Zb (Wd<|((j+1:Nat):Int)) ?_;refine rn 2 ?_;refine Ha ⟨_,?_,j+1,s++[32],O,Aa,by rw[hs];exact rep_snoc j,Va,hF⟩;omega;refine rn 9 ?_;have ej:j=n:=Aa
 subst ej;exact⟨by rw[hs],hF.same⟩
def QW(m:Bool)(ind d:Nat)(k:Int)(ks:List Str)(xs:List Tree):List Str:=if k=6 then Hl m ind xs ks (d+1) else Gp m ind xs (d+1)
def tG(m:Bool)(ind d:Nat)(k:Int)(ks:List Str)(xs:List Tree)(j:Nat):Str:=(if k=6 then 123 else 91)::Zg m ind d true ((QW m ind d k ks xs).take j)
theorem PD(m:Bool)(ind d:Nat)(k:Int)(ks:List Str)(xs:List Tree):aL (QW m ind d k ks xs)=aL xs:=by grind [QW,Rm,Aq]
theorem Yv(m:Bool)(ind d:Nat):∀(ps:List Str)(j:Nat)(h:j<aL ps)(b:Bool),Zg m ind d b (ps.take (j+1))=Zg m ind d b (ps.take j)++((if b=true/\j=0 then [] else [44])++(Lf m ind (d+1)++ps[j]))
  | p::ps,0,h,b=>by cases b <;> simp[Zg]
  | p :: ps, j + 1, h, b => by
    have h1:j<aL ps:=aS h
    rw[List.take_succ_cons,List.take_succ_cons,Zg,Zg,Yv m ind d ps j h1 false];simp
theorem PI(m:Bool)(ind d:Nat):∀(ps:List Str)(j:Nat)(b:Bool),aL (Zg m ind d b (ps.take j))<=aL (Zg m ind d b ps)
  | [],j,b=>by simp
  | p::ps,0,b=>by simp[Zg]
  | p :: ps, j + 1, b => by
    have:=PI m ind d ps j false;rw[List.take_succ_cons,Zg,Zg];simp only[dQ];omega
theorem ZQ(m:Bool)(ind d:Nat)(k:Int)(ks:List Str)(xs:List Tree):tG m ind d k ks xs 0=[if k=6 then 123 else 91]:=by grind [tG,Zg]
def tG_succ{ind:Nat}{xs:List Tree}{j:Nat}(h6:k=6->aL ks=aL xs)(h:j<aL xs) :
    (k=6/\∃hk:j<aL ks,tG m ind d k ks xs (j+1)=tG m ind d k ks xs j++((if j=0 then [] else [44])++(Lf m ind (d+1)++(qS ks[j]++([58]++((if m then [32] else [])++Ve m ind xs[j] (d+1))))))) \/
    (¬k=6/\tG m ind d k ks xs (j+1)=tG m ind d k ks xs j++((if j=0 then [] else [44])++(Lf m ind (d+1)++Ve m ind xs[j] (d+1)))):=by
  have h1:j<aL (QW m ind d k ks xs):=by rw[PD];exact h
  by_cases hk:k=6
  ·have hl : j<aL ks := by have := h6 hk;omega
   refine .inl ⟨hk,hl,?_⟩;have h2:(QW m ind d k ks xs)[j]=qS ks[j]++([58]++((if m then [32] else [])++Ve m ind xs[j] (d+1))):=by
     have e:QW m ind d k ks xs=Hl m ind xs ks (d+1):=uQ hk;rw[List.getElem_of_eq e,S0 m ind (d+1) xs ks j h hl,DJ]
   rw[tG,Yv m ind d _ j h1 true,h2,tG];simp
  refine .inr ⟨hk, ?_⟩;have h2:(QW m ind d k ks xs)[j]=Ve m ind xs[j] (d+1):=by
    have e:QW m ind d k ks xs=Gp m ind xs (d+1):=tQ hk;have e2:=Aq m ind (d+1) xs;rw[List.getElem_of_eq<|e.trans e2,List.getElem_map]
  rw[tG,Yv m ind d _ j h1 true,h2,tG];simp
theorem TM{ind:Nat}{xs:List Tree}(hk:k=5\/k=6):Ve m ind (.node k t ks xs) d=tG m ind d k ks xs (aL xs)++((if aL xs=0 then [] else Lf m ind d)++[if k=6 then 125 else 93]):=by
  have hl:=PD m ind d k ks xs;have hn:(QW m ind d k ks xs=[])↔xs.length=0:=by rw[<-hl];exact List.length_eq_zero_iff.symm
  rw[tG,eZ Aa];rcases hk with rfl|rfl
  ·rw[Ve, tQ Aa, tQ Aa, uQ rfl, Nm]
   have e:QW m ind d 5 ks xs=Gp m ind xs (d+1):=tQ Aa;have e5:(if (5:Int)=6 then (123:UInt8) else 91)=91:=rfl;have e6:(if (5:Int)=6 then (125:UInt8) else 93)=93:=rfl;rw[<-e,e5,e6];by_cases h:aL xs=0
   ·rw[uQ h, uQ (hn.2 h)]
    simp
   rw[tQ h,tQ λq=>h<|hn.1 q];simp
  rw[Ve, tQ Aa, tQ Aa, tQ Aa, uQ rfl, Nm];have e:QW m ind d 6 ks xs=Hl m ind xs ks (d+1):=uQ rfl;have e5:(if (6:Int)=6 then (123:UInt8) else 91)=123:=rfl;have e6:(if (6:Int)=6 then (125:UInt8) else 93)=125:=rfl;rw[<-e,e5,e6];by_cases h:aL xs=0
  ·rw[uQ h, uQ (hn.2 h)]
   simp
  rw[tQ h,tQ λq=>h<|hn.1 q];simp
theorem tG_le{ind:Nat}{xs:List Tree}(hk:k=5\/k=6)(j:Nat):aL (tG m ind d k ks xs j)+1<=aL (Ve m ind (.node k t ks xs) d):=by grind [TM,PI,QW,tG,Zg,PD]
theorem X7(n:Nat):aL (Lib.repeatL [32] n)=n:=by
  induction n with
  | zero=>rfl
  | succ n ih =>
    simp[Lib.repeatL,ih]
    try omega
def Ty(m:Bool)(ind:Nat):Int:=if m then (ind:Int) else -1
def BM(x:Tree):Prop:=∀(m:Bool) (ind d:Nat) S w0 cs,Rep S w0 (Na x) cs->Uc rnodeB x=true->Ob x<=16777216->ind*(d+Nb x)<=1000000000->d+Nb x<=1000000000->aL (Ve m ind x d)<=4398046511104 ->
  Calls prog 72 #[.agg cs.toArray,J (Ty m ind),J (d:Nat)] w0 (Za λv w'=>v=I (Ve m ind x d)/\Same [] w0 w')
theorem VD{ind:Nat}(h:0<=Ty m ind):m=true:=by grind [Ty]
theorem J5{ind:Nat}(h:¬0<=Ty m ind):m=false:=by grind [Ty]
def EZ{ind:Nat}(hm:m=true)(hb:ind*d<=1000000000):IntKind.i64.wrap (Ty m ind*((d:Nat):Int))=((ind*d:Nat):Int):=by
  subst hm;have e:Ty true ind=((ind:Nat):Int):=rfl;rw[e];exact Gd Da Aa Aa
theorem I4{l:List Str}{j:Nat}(h:j<aL l):l.getD j []=l[j]:=qK
def kG(m:Bool)(k:Int)(ks:List Str)(j:Nat):Str:=if k=6 then qS (ks.getD j [])++([58]++(if m then [32] else [])) else []
def tG_next{ind:Nat}{xs:List Tree}{j:Nat}(h6:k=6->aL ks=aL xs)(h:j<aL xs) :
    tG m ind d k ks xs (j+1)=tG m ind d k ks xs j++((if j=0 then [] else [44])++(Lf m ind (d+1)++(kG m k ks j++Ve m ind xs[j] (d+1)))):=by
  rcases tG_succ (m:=m) (ind:=ind) (d:=d) h6 h with ⟨hk,hj,e⟩|⟨hk,e⟩
  ·rw[e, kG, uQ hk, I4 hj]
   simp
  rw[e, kG, tQ hk];simp
theorem QF(m:Bool)(ind d:Nat):aL (Lf m ind d)<=1+ind*d:=by grind [Lf,X7]
def CN{xs:List Tree}(h:rnodeB (.node k t ks xs)=true):1<=k/\k<=6:=by rcases P2 h with ⟨h,_⟩|⟨h,_⟩|⟨h,_⟩|⟨h,_⟩|⟨h,_⟩|⟨h,_⟩ <;> omega
theorem NW{xs:List Tree}(h:rnodeB (.node k t ks xs)=true)(hk:k=6):aL ks=aL xs:=by
  rcases P2 h with ⟨h,_⟩|⟨h,_⟩|⟨h,_⟩|⟨h,_⟩|⟨h,_⟩|⟨_,_,_,_,h⟩
  all_goals grind
def JN(k:Int)(t:Str)(ks:List Str)(xs:List Tree)(ih:∀x∈xs,BM x)(m:Bool)(ind d:Nat)(S:Nat->Prop)(w0:World)(A:Option Addr)(c:Nat)(B:Option Addr)(e:Nat)(hR:Rep S w0 (Na (.node k t ks xs)) [J k,I t,.slice A (aL ks) c,.slice B (aL xs) e])(hK:Rep S w0 (Ee ks) [.slice A (aL ks) c])(hX:Rep S w0 (.slice (Hc xs)) [.slice B (aL xs) e])(hn:rnodeB (.node k t ks xs)=true/\∀x∈xs,Uc rnodeB x=true)(hmt:aL t<=16777216)(hmk:Sg ks<=16777216)(hmx:Sf xs<=16777216)(hd:ind*(d+(Ac xs+1))<=1000000000)(hd2:d+(Ac xs+1)<=1000000000)(hl:aL (Ve m ind (.node k t ks xs) d)<=4398046511104):Calls prog 72 #[.agg #[J k,I t,.slice A (aL ks) c,.slice B (aL xs) e],J (Ty m ind),J (d:Nat)] w0 (Za λv w'=>v=I (Ve m ind (.node k t ks xs) d)/\Same [] w0 w'):=by
 have hKl:=hK.slice_len;have hXl:=hX.slice_len;have hkk:=CN hn.1;have h6:k=6->aL ks=aL xs:=λh=>NW hn.1 h;have hbL1:ind*(d+1)<=1000000000:=fQ (Nat.mul_le_mul_left ind Aa) hd;have hbL0:ind*d<=1000000000:=fQ (Nat.mul_le_mul_left ind Aa) hd;refine Ea func72 ntmps72 ?_;intro hF;refine rn 3 ?_;rintro b1 w hb1 hF -;refine rn 18 ⟨λhc0=>?_,λhc0=>?_⟩;refine rn 6 ?_;exact⟨by rw[Ve,uQ Aa],hF.same⟩;refine rn 8 ⟨λhc1=>?_,λhc1=>?_⟩;refine rn 11 ?_;exact⟨by rw[Ve,tQ Aa,tQ Aa,tQ Aa,tQ Aa],hF.same⟩;refine rn 6 ⟨λhc2=>?_,λhc2=>?_⟩;refine rn 8 ?_;exact⟨by rw[Ve,tQ Aa,tQ Aa,tQ Aa,tQ Aa],hF.same⟩;refine rn 7 ⟨λhc3=>?_,λhc3=>?_⟩;refine rn 4<|Ia (VG t Aa _) ?_;rintro w hF -;refine rn 14 ?_;exact⟨by rw[Ve,tQ Aa,uQ Aa],hF.same⟩;refine rn 13 ?_;have hk56:k=5\/k=6:=Aa
 refine rn 1<|Eb (λσ w=>∃(o:UInt8),∃(c9:UInt8),(o=if k=6 then 123 else 91)/\(c9=if k=6 then 125 else 93)/\AllEq σ [(1,J<|Ty m ind),(2,J<|(d:Int)),(3,V b1),(9,I<|[o]),(10,I<|[c9])]/\FR w0 [] [(b1,.cells #[J k,I t,.slice A (aL ks) c,.slice B (aL xs) e] 36)] w) ?_ ?_;refine rn 8 ⟨λhc4=>?_,λhc4=>?_⟩;refine rn 8 ?_;exact Ha ⟨123,125,qF,qF,Va,hF⟩;refine rn 1 ?_;exact Ha ⟨91,93,qF,qF,Va,hF⟩;rintro σ w ⟨o,c9,ho,hc9,hzz,hF⟩;refine Aj hzz 11 ⟨λhc5=>?_,λhc5=>?_⟩;refine rn 4 ?_;refine Ba (v:=I<|([o])++([c9])) (Gf O O zJ) ?_;refine rn 4 ?_;exact⟨by rw[TM hk56,uQ Aa,show (aL xs)=0 by omega,ZQ,ho,hc9];rfl,hF.same⟩;refine rn 15<|Sa (λμ σ w=>∃(j:Nat),∃(s:Str),μ=aL xs-j/\(j<=aL xs)/\(s=tG m ind d k ks xs j)/\AllEq σ [(1,J<|Ty m ind),(2,J<|(d:Int)),(3,V b1),(10,I<|[c9]),(11,I s),(12,J<|(j:Int))]/\FR w0 [] [(b1,.cells #[J k,I t,.slice A (aL ks) c,.slice B (aL xs) e] 36)] w) _ ⟨0,[o],O,dZ _,by rw[ZQ,ho],Va,hF⟩ ?_;rintro μ σ w ⟨j,s,rfl,hj,hs,hzq,hF⟩;refine Cg.slots hzq ?_;clear hzq;intro σ;have hsl:aL s+1<=4398046511104:=by rw[hs];exact fQ (tG_le hk56 j) hl
 refine rn 11 ⟨λhc6=>?_,λhc6=>?_⟩;have hjx:j<aL xs:=Aa
 have hsj:=tG_next (m:=m) (ind:=ind) (d:=d) h6 hjx;have hlj:=tG_le (m:=m) (ind:=ind) (d:=d) (t:=t) (ks:=ks) (xs:=xs) hk56<|j+1;have hls:=yQ List.length hsj;simp only[dQ]at hls;refine rn 5<|Eb (λσ w=>∃(s1:Str),(s1=s++(if j=0 then [] else [44]))/\AllEq σ [(1,J<|Ty m ind),(2,J<|(d:Int)),(3,V b1),(10,I<|[c9]),(11,I s1),(12,J<|(j:Int))]/\FR w0 [] [(b1,.cells #[J k,I t,.slice A (aL ks) c,.slice B (aL xs) e] 36)] w) ?_ ?_;refine rn 7 ⟨λhc7=>?_,λhc7=>?_⟩;refine rn 2 ?_;refine Ba (v:=I<|(s)++([44])) (Gf O O zJ) ?_;refine rn 2 ?_;exact Ha ⟨(s)++([44]),(by first|(rw[tQ Aa])|(rw[uQ Aa];simp)),Va,hF⟩;refine rn 1 ?_;exact Ha ⟨s,(by first|(rw[tQ Aa])|(rw[uQ Aa];simp)),Va,hF⟩;rintro σ w ⟨s1,hs1,hzz,hF⟩;have hl1:aL s1<=aL s+1:=by rw[hs1,dQ];split <;> simp
 refine Aj hzz 2<|Eb (λσ w=>∃(s2:Str),(s2=s1++Lf m ind (d+1))/\AllEq σ [(1,J<|Ty m ind),(2,J<|(d:Int)),(3,V b1),(10,I<|[c9]),(11,I s2),(12,J<|(j:Int))]/\FR w0 [] [(b1,.cells #[J k,I t,.slice A (aL ks) c,.slice B (aL xs) e] 36)] w) ?_ ?_;refine rn 7 ⟨λhc8=>?_,λhc8=>?_⟩;have hm:m=true:=VD qW;refine rn 2 ?_;refine Ba (v:=I<|(s1)++([10])) (Gf O O zJ) ?_;refine rn 2<|Zb (Wd<|((d+1:Nat):Int))<|Ba (v:=J<|((ind*(d+1):Nat):Int)) (Ro O O<|EZ hm hbL1) ?_;refine Ia (HG (ind*(d+1)) Aa _) ?_;rintro w hF -;refine Ba (v:=I<|((s1)++([10]))++(Lib.repeatL [32]<|ind*(d+1))) (Gf O O (by rw[X7];(try simp only[dQ,kQ,cZ]);omega)) ?_;refine rn 2 ?_
 ·exact Ha ⟨((s1)++([10]))++(Lib.repeatL [32]<|ind*(d+1)),zG,Va,hF⟩
 have hm:m=false:=J5 qW;refine rn 1 ?_
 ·exact Ha ⟨s1,zG,Va,hF⟩
 rintro σ w ⟨s2,hs2,hzz,hF⟩;have hl2:aL s2<=aL s1+1+ind*(d+1):=by have:=QF m ind<|d+1;rw[hs2,dQ];omega
 refine Aj hzz 2<|Eb (λσ w=>∃(s3:Str),(s3=s2++kG m k ks j)/\AllEq σ [(1,J<|Ty m ind),(2,J<|(d:Int)),(3,V b1),(10,I<|[c9]),(11,I s3),(12,J<|(j:Int))]/\FR w0 [] [(b1,.cells #[J k,I t,.slice A (aL ks) c,.slice B (aL xs) e] 36)] w) ?_ ?_;refine rn 8 ⟨λhc9=>?_,λhc9=>?_⟩;have hk6:k=6:=Aa
 have hjk:j<aL ks:=by have:=h6 hk6;omega
 have hql:=Vz ks[j];have hkm:=Oi<|eQ hjk;refine rn 5 ?_;obtain⟨ad0,hA0,hk0,hx0⟩:=hK.str_elem (i:=j) Aa;refine Ba (v:=.pointer<|some<|ad0.add<|j*1) (Ca (i:=(j:Int)) Ii hA0)<|Ba (v:=I<|ks[j]) (Xa sZ<|hF.cell0 hk0) ?_;refine Ia (VG ks[j] (by have:=Oi<|eQ hjk;omega) _) ?_;rintro w hF -;refine rn 11 ?_;refine Ba (v:=I<|(s2)++(qS ks[j])) (Gf O O zJ) ?_;refine Ba (v:=I<|((s2)++(qS ks[j]))++([58])) (Gf O O zJ) ?_;refine rn 10 ⟨λhc10=>?_,λhc10=>?_⟩;have hm:m=true:=VD qW;refine rn 2 ?_;refine Ba (v:=I<|(((s2)++(qS ks[j]))++([58]))++([32])) (Gf O O zJ) ?_;refine rn 2 ?_
 ·exact Ha ⟨(((s2)++(qS ks[j]))++([58]))++([32]),jB,Va,hF⟩
 have hm:m=false:=J5 qW;refine rn 1 ?_
 ·exact Ha ⟨((s2)++(qS ks[j]))++([58]),jB,Va,hF⟩
 have hk6:¬k=6:=Aa
 refine rn 1 ?_
 ·exact Ha ⟨s2,jB,Va,hF⟩
 rintro σ w ⟨s3,hs3,hzq,hF⟩;refine Eg.slots hzq ?_;clear hzq;intro σ;have hl3:aL s3+aL (Ve m ind xs[j] (d+1))=aL (tG m ind d k ks xs<|j+1):=by rw[hsj,hs3,hs2,hs1,hs];simp only[dQ];omega
 refine rn 6 ?_;obtain⟨ad1,cs1,hA1,hl1,hk1,hx1⟩:=hX.tree_elem (i:=j) Aa;have ho1:=hx1.one_;refine Ba (v:=.pointer<|some<|ad1.add<|j*4) (Ca (i:=(j:Int)) Fd hA1)<|Ba (v:=.agg<|List.toArray cs1) (Ma (l:=cs1) qZ uZ O hl1<|hF.cells0 hk1) ?_;refine rn 2<|Zb (Wd<|((d+1:Nat):Int)) ?_;refine Ia (ih xs[j] (eQ hjx) m ind (d+1) _ _ cs1 (hF.rep hx1) (hn.2 _<|eQ hjx) (by have:=Th<|eQ hjx;omega) (by have h1:=Re<|eQ hjx;exact fQ (Nat.mul_le_mul_left ind Aa) hd) (by have h1:=Re<|eQ hjx;omega) Aa) ?_;rintro w hF -;refine Ba (v:=I<|(s3)++(Ve m ind xs[j] (d+1))) (Gf O O zJ) ?_;refine rn 6<|Zb (Wd<|((j+1:Nat):Int)) ?_;refine rn 2 ?_;refine Ha ⟨_,?_,j+1,(s3)++(Ve m ind xs[j] (d+1)),O,hjx,by rw[hsj,hs3,hs2,hs1,hs];simp,Va,hF⟩;omega;obtain rfl:j=aL xs:=Aa
 refine rn 3<|Eb (λσ w=>∃(s4:Str),(s4=s++Lf m ind d)/\AllEq σ [(10,I<|[c9]),(11,I s4)]/\FR w0 [] [(b1,.cells #[J k,I t,.slice A (aL ks) c,.slice B (aL xs) e] 36)] w) ?_ ?_;refine rn 7 ⟨λhc11=>?_,λhc11=>?_⟩;have hm:m=true:=VD qW;refine rn 2 ?_;refine Ba (v:=I<|(s)++([10])) (Gf O O zJ) ?_;refine rn 2<|Ba (v:=J<|((ind*d:Nat):Int)) (Ro O O<|EZ hm hbL0) ?_;refine Ia (HG (ind*d) Aa _) ?_;rintro w hF -;refine Ba (v:=I<|((s)++([10]))++(Lib.repeatL [32]<|ind*d)) (Gf O O (by rw[X7];(try simp only[dQ,kQ,cZ]);omega)) ?_;refine rn 2 ?_
 ·exact Ha ⟨((s)++([10]))++(Lib.repeatL [32]<|ind*d),zG,Va,hF⟩
 have hm:m=false:=J5 qW;refine rn 1 ?_
 ·exact Ha ⟨s,zG,Va,hF⟩
 rintro σ w ⟨s4,hs4,hzz,hF⟩;have hl4:aL s4<=aL s+1+ind*d:=by have:=QF m ind d;rw[hs4,dQ];omega
 refine Aj hzz 5 ?_;refine Ba (v:=I<|(s4)++([c9])) (Gf O O zJ) ?_;refine rn 4 ?_;exact⟨by rw[TM hk56,tQ Aa,hs4,hs,hc9];simp,hF.same⟩
def GW(x:Tree):BM x:=Tree.ind (Q:=BM) (λk t ks xs ih m ind d S w0 cs hR hn hm hd hd2 hl=>by
  obtain⟨A,c,B,e,rfl,hk,ht,hK,hX⟩:=hR.tree_inv;rw[Ob]at hm;rw[Nb]at hd hd2;exact JN k t ks xs ih m ind d S w0 A c B e hR hK hX (Xe hn) Aa Aa Aa hd hd2 hl) x
theorem IT{x:Tree}(h:Id x=true)(hm:Ob x<=16777216)(m:Bool)(ind d:Nat)(hi:ind<=8)(hd:d<=32):aL (Ve m ind x d)<=4398046511104:=by
  have h1:=Vo h;have h2:=C_ m ind (Ob x) 64 x d (gQ _) Aa;have h3:La x<=4096:=FB<|Zq h;have h4:ind*64<=8*64:=qK
  have h5:La x*(12*Ob x+40+2*(ind*64))<=4096*(12*16777216+40+2*512):=Nat.mul_le_mul h3 Aa;omega
def rtext_r(x:Tree)(m:Bool)(ind d:Nat)(S:Nat->Prop)(w0:World)(cs:List Value)(hR:Rep S w0 (Na x) cs)(h:Id x=true)(hm:Ob x<=16777216)(hi:ind<=8)(hd:d<=32) :
    Calls prog 72 #[.agg cs.toArray,J (Ty m ind),J (d:Nat)] w0 (Za λv w'=>v=I (Ve m ind x d)/\Same [] w0 w'):=by
  have h1:=Vo h;have h2:Uc rnodeB x=true:=by
    have h3:=h;unfold Id at h3;rw[vQ]at h3;exact h3.2
  have h4:ind*(d+Nb x)<=8*64:=Nat.mul_le_mul hi Aa;exact GW x m ind d S w0 cs hR h2 hm Aa Aa<|IT h hm m ind d hi hd
def rcanon_c(x:Tree)(hsz:La x<=1000000000)(hm:Ob x<=16777216)(S:Nat->Prop)(w0:World)(cs:List Value)(hR:Rep S w0 (Na x) cs):Calls prog 42 #[.agg cs.toArray] w0 (Za λv w'=>v=.tuple #[I (Mt (Zc x)),J (Vs (Zc x))]/\Same [] w0 w'):=by
 have hl:aL cs=4:=hR.length.trans<|Bb x;have ho:=hR.one_;refine Ea func42 ntmps42 ?_;intro hF;refine rn 2<|Gk (v:=.agg<|List.toArray cs) (cs:=(List.toArray cs)) hF O O ?_;rintro b1 w hb1 hF -;refine rn 6<|Ba (v:=.agg<|List.toArray cs) (Ma (l:=cs) qZ uZ O hl<|hF.cellsAll 0 O) ?_;refine Ia (MH x hsz Aa _ _ cs<|hF.rep hR) ?_;rintro w hF -;refine rn 11 ⟨λhc0=>?_,λhc0=>?_⟩;refine rn 7 ?_;exact⟨by rw[Mt,Vs,Yq,tQ (aS hc0),tQ (aS hc0)],hF.same⟩;refine rn 4<|Ba (v:=.agg<|List.toArray cs) (Ma (l:=cs) qZ uZ O hl<|hF.cellsAll 0 O) ?_;refine Fc (HM x hsz Aa _ _ cs<|hF.rep hR) ?_;rintro _ w ⟨c2,rfl,hRt,hE⟩;have hlc2:aL c2=4:=hRt.length.trans<|Bb _;have hoc2:=hRt.one_;have hF:=hF.ext hE;refine Ia (rtext_r (Zc x) false 0 0 _ _ c2 hRt (by rw[Yq];simpa using hc0) (fQ (R2 x) hm) Aa Aa) ?_;rintro w hF -;refine rn 5 ?_;exact⟨by rw[Mt,Vs,Yq,uQ (aS hc0),uQ (aS hc0)],hF.same⟩
open Go.RowKit in
def PM{P:Program}{w:World}{ρ:Operand->Value}{dst:Option Nat}{ty:TypeId}{pos:String}{aft:Array Edge}{g:Option (Nat × Bool)}{t kt e:Nat}(ht:P.underlying t=some (.map kt e)) :
    (execOp ρ ⟨dst,.makeMap t none,ty,pos,aft,g⟩).run P w=.ok (.value (.map (some w.heap.size))) (w.alloc (Vc [])):=by simp[execOp,Instr.makeMap,run_underlying ht,newObj,Sem.run,Vc,Fb]
end Go.Scarf
