/- A part of the proof. -/
import Derived.Test.YteedfdfinodcaaaGreatDoorNum
import Derived.Lib.ValidLaws
import Derived.Lib.TrimUEq
import Derived.Lib.MapLaws
set_option linter.all false
set_option maxHeartbeats 8000000
set_option maxRecDepth 10000
set_option synthInstance.maxHeartbeats 0
set_option synthInstance.maxSize 9999
namespace Go.Scarf
open List renaming length->aL
open Go.RowKit Go.Proofs Go.Proofs.Tryz
variable {w:World}{ks:List Str}{j:Nat}{f:Str->Bool}
def Wq(s:Str):Bool:=decide ((De s).2=0)&&decide (Nm (De s).1=s)
def BI(s:Str):Bool:=Wq s&&(R9 (De s).1).2&&decide (0<=(R9 (De s).1).1)
theorem FD(s:Str):Je (De s).1=true:=by
  rw[Ol]
  repeat' split
  all_goals first|rfl|simp_all
def No(s:Str):aL (De s).1.digits<=1000:=(Zc<|FD s).1
theorem Kp(s:Str)(q:Nat):Lib.decodeL (s.drop q)=Utf8.decode (bs s) q:=Lib.decodeL_drop (bs s) q
def Ff(s:Str)(q:Nat):1<=(Utf8.decode (bs s) q).2:=by
  rw[<-Kp];exact Lib.decodeL_width _
theorem S6(s:Str)(q:Nat)(h:q<aL s):q+(Utf8.decode (bs s) q).2<=aL s:=by
  have:=Lib.decodeL_le (s.drop q) (by rw[ne_eq,List.drop_eq_nil_iff];omega);grind [Kp]
def L6(s:Str)(q:Nat)(h:q<aL s)(hv:Lib.validD (s.drop q)=false)(hn:¬((Utf8.decode (bs s) q).1=65533/\(Utf8.decode (bs s) q).2=1)):Lib.validD (s.drop (q+(Utf8.decode (bs s) q).2))=false:=by
  rw[Lib.validD_step _ (by rw[ne_eq,List.drop_eq_nil_iff];omega),Kp,tQ hn,List.drop_drop]at hv;exact hv
theorem Lv(s:Str)(q:Nat)(h:q<aL s):Lib.decodeGo (bs (s.drop q))=Utf8.decode (bs s) q:=by
  have h1:(bs<|s.drop q).size≠0:=by grind [Ep]
  rw[Lib.decodeGo,tQ h1];exact Kp s q
def O9(s:Str)(hl:aL s<=140737488355328)(hG:Gl w):Calls prog 94 #[I s] w (Qb λv w'=>v=.bool (Lib.validD s)/\Same [] w w') :=
  Iu (utf8_ValidString (bs s) w (by rw[Ep];omega) hG.tabs)
def SC(s:Str)(hG:Gl w):Calls prog 95 #[I s] w (Qb λv w'=>v=.tuple #[.int .i32 (Lib.decodeGo (bs s)).1,J (Lib.decodeGo (bs s)).2]/\Same [] w w') :=
  Iu (utf8_DecodeRuneInString (bs s) w hG.tabs)
def M4(s:Str)(hl:aL s<=140737488355328)(w0:World)(hG:Gl w0):Calls prog 70 #[I s] w0 (Qb λv w'=>∃n,v=.tuple #[J n,.bool (Lib.validD s)]/\Same [] w0 w'):=by
 refine Ha func70 ntmps70 ?_;intro hF;refine rn 10<|Ta (O9 s hl<|hG.ext hF.same) ?_;rintro w hF -;refine rn 3 ⟨λhc0=>?_,λhc0=>?_⟩
 ·
  refine rn 9 ?_;exact⟨_,by rw[hc0],hF.same⟩
 refine rn 6<|Dy (str:=s) hF bX O ?_;rintro b1 w hb1 hF -;refine rn 3<|Za (λμ σ w=>∃(q:Nat),μ=aL s-q/\(q<=aL s)/\(Lib.validD (s.drop q)=false)/\AllEq σ [(0,I s),(13,V b1)]/\FR w0 [] [(b1,.stringIter (bs s) q)] w) _ ⟨0,O,bZ _,aS hc0,Gc,hF⟩ ?_;rintro μ σ w ⟨q,rfl,hq,hv,hzz,hF⟩;refine Gh hzz 2 ?_;by_cases hn0:(q)<aL (s:Str)
 ·
  refine K4 0 (p:=q) (str:=s) hF O O hn0 ?_;rintro w hF -;refine rn 24 ⟨λhc2=>?_,λhc2=>?_⟩
  ·
   refine rn 1 ?_;have h1:=Ff s q;have hw:¬((Utf8.decode (bs s) q).1=65533/\(Utf8.decode (bs s) q).2=1):=by
     first
     | (intro hh;omega)
     | (rw[Lv s q fX]at hc3;intro hh;omega)
   refine Va ⟨_,?_,q+(Utf8.decode (bs s) q).2,O,S6 s q fX,L6 s q fX hv hw,Gc,hF⟩;omega
  refine rn 6<|Da (v:=I<|(s:Str).drop (q)) (JI (q) bX O O fX) ?_;refine Ta (SC (s.drop q)<|hG.ext hF.same) ?_;rintro w hF -;refine rn 14 ⟨λhc3=>?_,λhc3=>?_⟩
  ·
   refine rn 8 ?_;exact⟨_,by rw[hc0],hF.same⟩
  refine rn 2 ?_;have h1:=Ff s q;have hw:¬((Utf8.decode (bs s) q).1=65533/\(Utf8.decode (bs s) q).2=1):=by
    first
    | (intro hh;omega)
    | (rw[Lv s q fX]at hc3;intro hh;omega)
  refine Va ⟨_,?_,q+(Utf8.decode (bs s) q).2,O,S6 s q fX,L6 s q fX hv hw,Gc,hF⟩;omega
 refine Cs 0 (p:=q) (str:=s) hF O O hn0<|rn 16 ?_;have e:s.drop q=[]:=List.drop_eq_nil_of_le fX;rw[e]at hv;cases hv
def DQ(s:Str)(hl:aL s<=140737488355328)(w0:World)(hG:Gl w0):Calls prog 63 #[I s] w0 (Qb λv w'=>v=.bool (Lib.validD s)/\Same [] w0 w'):=by
 refine Ha func63 ntmps63 ?_;intro hF;refine rn 8<|Yb (M4 s hl _<|hG.ext hF.same) ?_;rintro _ w ⟨n,rfl,hE⟩;have hF:=hF.ext hE;refine rn 14 ?_;exact⟨O,hF.same⟩
theorem QB(s:Str)(hl:aL s<=140737488355328)(w0:World)(hG:Gl w0):Calls prog 62 #[I s] w0 (Qb λv w'=>v=.tuple #[Pr (De s).1,.bool (Wq s)]/\Same [] w0 w'):=by
 refine Ha func62 ntmps62 ?_;intro hF;refine rn 3 ?_;rintro b1 w hb1 hF -;refine rn 6<|Ta (QF s hl _) ?_;rintro w hF -;refine rn 4 ?_;rintro b2 w hb2 hF -;refine rn 4<|Vb (.of []) (bQ [0,1,2,3,4,6]<|.act 5<|.free 7<|.free 8<|.act 9<|.free 10 .nil) hF ?_;rintro w hF -;refine⟨λwq=>FR w0 [] [(b2,.cells #[.bool<|(De s).1.neg,I<|(De s).1.digits,J<|(De s).1.exp] 68)] wq,hF.sub<|.cons_cons _<|.cons _ .slnil,?_⟩;refine rn 5 ⟨λhg0=>?_,λhg0=>?_⟩;refine rn 2 ?_;refine Mf (WN (De s).1 (by have:=No s;omega) _<|hG.ext hF.same) ?_;rintro w hF -;refine rn 3 ?_;rintro w hF -;refine rn 4 ?_;exact⟨by simp_all[Wq,Pr],hF.same⟩;refine rn 2<|f_skip O ?_<|hF.sub<|.cons_cons _<|.cons _ .slnil;refine rn 3 ?_;rintro w hF -;refine rn 4 ?_;exact⟨by simp_all[Wq,Pr],hF.same⟩
theorem hole_c(s:Str)(hl:aL s<=140737488355328)(w0:World)(hG:Gl w0):Calls prog 64 #[I s] w0 (Qb λv w'=>v=.bool (BI s)/\Same [] w0 w'):=by
 refine Ha func64 ntmps64 ?_;intro hF;refine rn 8<|Ta (QB s hl _<|hG.ext hF.same) ?_;rintro w hF -;refine rn 4 ?_;rintro b1 w hb1 hF -;refine rn 6 ?_;refine Ta (AJ (De s).1 (by have:=No s;omega) _<|hG.ext hF.same) ?_;rintro w hF -;refine rn 12 ⟨λhg0=>?_,λhg0=>?_⟩;refine rn 4 ⟨λhg1=>?_,λhg1=>?_⟩;refine rn 7 ?_;exact⟨by simp_all[BI],hF.same⟩;refine rn 7 ?_;exact⟨by simp_all[BI],hF.same⟩;refine rn 10 ?_;exact⟨by simp_all[BI],hF.same⟩
def Wl(ks:List Str)(n:Int):Bool:=decide ks.Nodup&&ks.all Lib.validD&&decide ((aL ks:Int)=n)
def El(ks:List Str):MapL:=ks.map λk=>(k,.bool true)
theorem Vl(ks:List Str)(k:Str):Ad (El ks) k=if k∈ks then some (.bool true) else none:=by
  induction ks with
  | nil=>rfl
  | cons a r ih=>grind [El,Ad]
def CO(ks:List Str)(j:Nat)(h:j<aL ks):El (ks.take j)++[(ks[j],.bool true)]=El (ks.take (j+1)):=by
  unfold El;rw[iQ h,jQ];rfl
theorem X3(h:j<aL ks)(hn:(ks.take j).Nodup)(hi:¬ks[j]∈ks.take j):(ks.take (j+1)).Nodup:=by
  rw[iQ h,List.nodup_append];grind
theorem Ux(h:j<aL ks)(hi:ks[j]∈ks.take j):¬ks.Nodup:=by
  intro hn;obtain⟨i,hi',he⟩:=List.getElem_of_mem hi;rw[List.getElem_take]at he;have hi2:i<j:=qJ
  have:=(List.pairwise_iff_getElem.1 hn) i j fX h hi2;grind
def Q9(h:j<aL ks)(ha:(ks.take j).all f=true)(hv:f ks[j]=true):(ks.take (j+1)).all f=true:=by
  rw[iQ h,List.all_append,ha];simp[hv]
theorem not_all(h:j<aL ks)(hv:f ks[j]=false):ks.all f=false:=qJ
def keyed_c(ks:List Str)(n:Int)(S:Nat->Prop)(A:Option Addr)(c:Nat)(hl:∀k∈ks,aL k<=140737488355328)(w0:World)(hG:Gl w0)(hX:Rep S w0 (Wa ks) [.slice A (aL ks) c]):Calls prog 61 #[.slice A (aL ks) c,J n] w0 (Qb λv w'=>v=.bool (Wl ks n)/\Same [] w0 w'):=by
 have hXl:=hX.slice_len;refine Ha func61 ntmps61 ?_;intro hF;refine rn 9<|Tj (v:=λb=>.map<|some b) hF (L1 tZ O) ?_;rintro b1 w hb1 hF -;refine rn 12 ?_;have hF:FR w0 [] [(b1,Ub<|El<|ks.take 0)] w:=hF;refine Za (λμ σ w=>∃(j:Nat),μ=aL ks-j/\(j<=aL ks)/\((ks.take j).Nodup)/\((ks.take j).all Lib.validD=true)/\AllEq σ [(0,.slice A (aL ks) c),(1,J n),(5,.map<|some b1),(11,.slice A (aL ks) c),(12,J<|(aL ks:Nat)),(13,J<|(j:Int))]/\FR w0 [] [(b1,Ub<|El<|ks.take j)] w) _ ⟨0,O,bZ _,Ca,Ca,Gc,hF⟩ ?_;rintro μ σ w ⟨j,rfl,hj,hd,hv,hzz,hF⟩;refine Gh hzz 7 ⟨λhc0=>?_,λhc0=>?_⟩;refine rn 6 ?_;obtain⟨ad0,hA0,hk0,hx0⟩:=hX.str_elem (i:=j) fX;refine Da (v:=.pointer<|some<|ad0.add<|j*1) (Ea (i:=(j:Int)) Hd hA0)<|Da (v:=I<|ks[j]) (Ma qZ<|hF.cell0 hk0) ?_;refine rn 8 ?_;refine Da (v:=.bool<|decide (ks[j]∈ks.take j)) (Sf tZ bX zeroValue4 O O (hF.heap (i:=0) O) zU) ?_;refine rn 2 ⟨λhg1=>?_,λhg1=>?_⟩;refine rn 13 ?_;have:=Ux (ks:=ks) (j:=j) fX qK;exact⟨xQ Value.bool (by unfold Wl;rw[dZ this];rfl),hF.same⟩;refine rn 1<|Ta (DQ ks[j] (hl _<|eQ _) _ (hG.ext hF.same)) ?_;rintro w hF -;refine rn 5 ⟨λhc1=>?_,λhc1=>?_⟩;refine rn 6 ?_;have:=not_all (f:=Lib.validD) (ks:=ks) (j:=j) fX (aS hc1);exact⟨xQ Value.bool (by unfold Wl;rw[this,Bool.and_false];rfl),hF.same⟩;refine rn 5<|Tm 0 (v:=.bool true) hF tZ bX O O O O (by rw[Vl,tQ qK]) ?_;rintro w hF -;rw[CO ks j fX]at hF;have hF:FR w0 [] [(b1,Ub<|El<|ks.take<|j+1)] w:=hF;refine rn 4<|Tc Fj ?_;refine rn 2<|Va ⟨_,?_,j+1,O,fX,X3 fX hd qK,Q9 fX hv (aS hc1),Gc,hF⟩;omega;refine rn 12 ?_;obtain rfl:j=aL ks:=by_Om
 rw[List.take_length]at hd hv;exact⟨xQ Value.bool (by unfold Wl;rw[hv,eZ hd];rfl),hF.same⟩
mutual
def Rw:Tree->Prop|.node _ t ks xs=>aL t<=140737488355328/\(∀k∈ks,aL k<=140737488355328)/\KJ xs
def KJ:List Tree->Prop|[]=>True|x::xs=>Rw x/\KJ xs
end
theorem Ct:∀{xs:List Tree},KJ xs->∀x∈xs,Rw x
  | [],_,_,h=>absurd h Ca
  | y :: ys, h, x, hx => by
    rw[KJ]at h;rcases oQ.1 hx with rfl|hx
    ·exact h.1
    exact Ct h.2 x hx
def nodeB:Tree->Bool
  | .node k t ks xs =>
    if k=5 then decide (ks=[])&&decide (t=[]) else
    if k=6 then Wl ks (aL xs)&&decide (t=[]) else
    if ks≠[]\/xs≠[] then false else
    if k=1 then decide (t=[]) else
    if k=2 then decide (t=[116,114,117,101]) || decide (t=[102,97,108,115,101]) else
    if k=3 then Wq t else if k=4 then Lib.validD t else if k=7 then BI t else false
def IA(g:Nat)(q:Tree->Bool):Prop:=∀(x:Tree)(S:Nat->Prop)(w0:World)(cs:List Value),Rep S w0 (Sa x) cs->Rw x->Gl w0->Calls prog g #[.agg cs.toArray] w0 (Qb λv w'=>v=.bool (q x)/\Same [] w0 w')
theorem node_c  : IA 34 nodeB:=by
 rintro⟨k,t,ks,xs⟩ S w0 cs hR hk hG;obtain⟨A,c,B,e,rfl,-,-,hK,hX⟩:=hR.tree_inv;rw[Rw]at hk;refine Ha func34 ntmps34 ?_;intro hF;refine rn 3 ?_;rintro b1 w hb1 hF -;refine rn 4<|Fe (zs:=.of []) (bQ [0,1,2,3,4,5,6,7,8,9] .nil) hF ?_;intro w hF;refine rn 27 ⟨λhc0=>?_,λhc0=>?_⟩;refine rn 6 ⟨λhg0=>?_,λhg0=>?_⟩;refine rn 8 ⟨?_,hF.same⟩;clear hF hR hK hX hb1;simp_all[nodeB,List.length_pos_iff];refine rn 8 ⟨?_,hF.same⟩;clear hF hR hK hX hb1;simp_all[nodeB,List.length_pos_iff];refine rn 7 ⟨λhc1=>?_,λhc1=>?_⟩;refine rn 7<|Ta (keyed_c ks (aL xs:Nat) S A c (aS hk.2.1) _ (hG.ext hF.same)<|hF.rep hK) ?_;rintro w hF -;refine rn 2 ⟨λhg1=>?_,λhg1=>?_⟩;refine rn 8 ⟨?_,hF.same⟩;clear hF hR hK hX hb1;simp_all[nodeB,List.length_pos_iff];refine rn 8 ⟨?_,hF.same⟩;clear hF hR hK hX hb1;simp_all[nodeB,List.length_pos_iff];refine rn 9 ⟨λhg2=>?_,λhg2=>?_⟩;refine rn 11 ⟨?_,hF.same⟩;clear hF hR hK hX hb1;simp_all[nodeB,List.length_pos_iff];refine rn 5 ⟨λhc2=>?_,λhc2=>?_⟩;refine rn 6 ⟨?_,hF.same⟩;clear hF hR hK hX hb1;simp_all[nodeB,List.length_pos_iff];refine rn 17 ⟨λhc3=>?_,λhc3=>?_⟩;refine rn 9 ⟨?_,hF.same⟩;clear hF hR hK hX hb1;simp_all[nodeB,List.length_pos_iff];refine rn 7 ⟨λhc4=>?_,λhc4=>?_⟩;refine rn 7 ⟨λhg3=>?_,λhg3=>?_⟩;refine rn 8 ⟨?_,hF.same⟩;clear hF hR hK hX hb1;simp_all[nodeB,List.length_pos_iff];refine rn 8 ⟨?_,hF.same⟩;clear hF hR hK hX hb1;simp_all[nodeB,List.length_pos_iff];refine rn 7 ⟨λhc5=>?_,λhc5=>?_⟩;refine rn 4<|Ta (QB t hk.1 _<|hG.ext hF.same) ?_;rintro w hF -;refine rn 4 ?_;rintro b2 w hb2 hF -;refine rn 10 ⟨?_,hF.same⟩;clear hF hR hK hX hb1;simp_all[nodeB,List.length_pos_iff];refine rn 7 ⟨λhc6=>?_,λhc6=>?_⟩;refine rn 4<|Ta (DQ t hk.1 _<|hG.ext hF.same) ?_;rintro w hF -
 refine rn 4 ⟨?_,hF.same⟩;clear hF hR hK hX hb1;simp_all[nodeB,List.length_pos_iff];refine rn 7 ⟨λhc7=>?_,λhc7=>?_⟩;refine rn 4<|Ta (hole_c t hk.1 _<|hG.ext hF.same) ?_;rintro w hF -;refine rn 4 ⟨?_,hF.same⟩;clear hF hR hK hX hb1;simp_all[nodeB,List.length_pos_iff];refine rn 9 ⟨?_,hF.same⟩;clear hF hR hK hX hb1;simp_all[nodeB,List.length_pos_iff]
def Tree.ind{Q:Tree->Prop}(h:∀k t ks xs,(∀x,x∈xs->Q x)->Q (.node k t ks xs))(x:Tree):Q x :=
  Tree.rec (motive_1:=Q) (motive_2:=λxs=>∀x,x∈xs->Q x) (λk t ks xs ih=>h k t ks xs ih) Ca
    (λy ys h1 h2=>by
      intro z hz;rcases oQ.1 hz with rfl|hz
      ·exact h1
      exact h2 z hz) x
mutual
def Ja:Tree->Nat|.node _ _ _ xs=>1+Oa xs
def Oa:List Tree->Nat|[]=>0|x::xs=>Ja x+Oa xs
end
mutual
def Db:Tree->Nat|.node _ _ _ xs=>Ya xs+1
def Ya:List Tree->Nat|[]=>0|x::xs=>max (Db x) (Ya xs)
end
theorem Kc:∀(xs ys:List Tree),Oa (xs++ys)=Oa xs+Oa ys
  | [],ys=>by simp[Oa]
  | x::xs,ys=>by simp[Oa,Kc xs ys,Nat.add_assoc]
theorem Pk:∀(xs ys:List Tree),Ya (xs++ys)=max (Ya xs) (Ya ys)
  | [],ys=>by simp[Ya]
  | x::xs,ys=>by simp only[List.cons_append,Ya,Pk xs ys];omega
def D3(xs:List Tree)(j:Nat)(hj:j<aL xs):Oa (xs.take (j+1))=Oa (xs.take j)+Ja xs[j]:=by
  rw[iQ hj,Kc];simp[Oa]
def GE(xs:List Tree)(j:Nat)(hj:j<aL xs):Ya (xs.take (j+1))=max (Ya (xs.take j)) (Db xs[j]):=by
  rw[iQ hj,Pk];simp[Ya]
theorem Ld:∀{xs:List Tree}{x:Tree},x∈xs->Ja x<=Oa xs
  | [],_,h=>absurd h Ca
  | y :: ys, x, h => by
    rw[Oa];rcases oQ.1 h with rfl|h
    ·omega
    have:=Ld h;omega
theorem On(x:Tree):1<=Ja x:=by
  cases x;rw[Ja];omega
theorem Vd:∀(xs:List Tree),aL xs<=Oa xs
  | []=>by simp[Oa]
  | x::xs=>by have:=Vd xs;have:=On x;simp only[Oa,kQ];omega
theorem depth_le(x:Tree):Db x<=Ja x:=by
  refine Tree.ind (Q:=λx=>Db x<=Ja x) (λk t ks xs ih=>?_) x;have:Ya xs<=Oa xs:=by
    induction xs with
    | nil=>simp[Ya,Oa]
    | cons y ys ihy=>grind [Ya,Oa]
  grind [Db,Ja]
theorem QL(xs:List Tree):Ya xs<=Oa xs:=by
  have:=depth_le<|.node 0 [] [] xs;grind [Db,Ja]
def SizeC(x:Tree):Prop:=∀S w0 cs,Rep S w0 (Sa x) cs->Calls prog 58 #[.agg cs.toArray] w0 (Qb λv w'=>v=J (wr (Ja x))/\Same [] w0 w')
def LU(k:Int)(t:Str)(ks:List Str)(xs:List Tree)(ih:∀x,x∈xs->SizeC x):SizeC (.node k t ks xs):=by
 intro S w0 cs hR;obtain⟨A,c,B,e,rfl,-,-,-,hX⟩:=hR.tree_inv;have hXl:=hX.slice_len;refine Ha func58 ntmps58 ?_;intro hF;refine rn 3 ?_;rintro b1 w hb1 hF -;refine rn 18<|Za (λμ σ w=>∃(j:Nat),μ=aL xs-j/\(j<=aL xs)/\AllEq σ [(3,J<|wr<|1+Oa (xs.take j)),(7,.slice B (aL xs) e),(8,J<|(aL xs:Nat)),(9,J<|(j:Int))]/\FR w0 [] [(b1,.cells #[J k,I t,.slice A (aL ks) c,.slice B (aL xs) e] 25)] w) _ ⟨0,O,bZ _,ae4,hF⟩ ?_;rintro μ σ w ⟨j,rfl,hj,hzz,hF⟩;refine Gh hzz 7 ⟨λhc0=>?_,λhc0=>?_⟩;refine rn 6 ?_;obtain⟨ad0,cs0,hA0,hl0,hk0,hx0⟩:=hX.tree_elem (i:=j) fX;have ho0:=hx0.one_;refine Da (v:=.pointer<|some<|ad0.add<|j*4) (Ea (i:=(j:Int)) Wc hA0)<|Da (v:=.agg<|List.toArray cs0) (Qa (l:=cs0) nZ rZ O hl0<|hF.cells0 hk0) ?_;refine Zm (l:=cs0) hF cX jB bB (v:=.agg<|List.toArray cs0) O O (ho0) O ?_;rintro b2 w hb2 hF -;refine rn 4<|Da (v:=.agg<|List.toArray cs0) (Qa (l:=cs0) nZ rZ O hl0<|hF.cellsAll 0 O) ?_;refine Ta (ih _ (eQ _) _ _ _<|hF.rep hx0) ?_;rintro w hF -;refine Da (v:=J<|wr<|1+Oa (xs.take<|j+1)) (L2 O O (by rw[HV,D3 xs j fX,Int.natCast_add,Int.add_assoc]))<|rn 5 ?_;refine Tc Fj<|rn 2 ?_;refine Va ⟨_,?_,j+1,O,fX,Gc,hF.drop 1⟩;omega;refine rn 9 ?_;obtain rfl:j=aL xs:=by_Om
 exact⟨by simp[Ja],hF.same⟩
def size_c(x:Tree):SizeC x:=Tree.ind LU x
def UO(x:Tree):Prop:=Ja x<=1000000000->∀S w0 cs,Rep S w0 (Sa x) cs->Calls prog 59 #[.agg cs.toArray] w0 (Qb λv w'=>v=J (Db x:Nat)/\Same [] w0 w')
def ZN(k:Int)(t:Str)(ks:List Str)(xs:List Tree)(ih:∀x,x∈xs->UO x):UO (.node k t ks xs):=by
 intro hsz S w0 cs hR;obtain⟨A,c,B,e,rfl,-,-,-,hX⟩:=hR.tree_inv;have hXl:=hX.slice_len;have hdl:=QL xs;rw[Ja]at hsz;refine Ha func59 ntmps59 ?_;intro hF;refine rn 3 ?_;rintro b1 w hb1 hF -;refine rn 18<|Za (λμ σ w=>∃(j:Nat),μ=aL xs-j/\(j<=aL xs)/\AllEq σ [(3,J<|(Ya (xs.take j):Nat)),(7,.slice B (aL xs) e),(8,J<|(aL xs:Nat)),(9,J<|(j:Int))]/\FR w0 [] [(b1,.cells #[J k,I t,.slice A (aL ks) c,.slice B (aL xs) e] 25)] w) _ ⟨0,O,bZ _,ae4,hF⟩ ?_;rintro μ σ w ⟨j,rfl,hj,hzz,hF⟩;refine Gh hzz 7 ⟨λhc0=>?_,λhc0=>?_⟩;refine rn 6 ?_;obtain⟨ad0,cs0,hA0,hl0,hk0,hx0⟩:=hX.tree_elem (i:=j) fX;have ho0:=hx0.one_;refine Da (v:=.pointer<|some<|ad0.add<|j*4) (Ea (i:=(j:Int)) Wc hA0)<|Da (v:=.agg<|List.toArray cs0) (Qa (l:=cs0) nZ rZ O hl0<|hF.cells0 hk0) ?_;refine Zm (l:=cs0) hF cX jB bB (v:=.agg<|List.toArray cs0) O O (ho0) O ?_;rintro b2 w hb2 hF -;refine rn 4<|Da (v:=.agg<|List.toArray cs0) (Qa (l:=cs0) nZ rZ O hl0<|hF.cellsAll 0 O) ?_;refine Ta (ih _ (eQ _) zY _ _ _<|hF.rep hx0) ?_;rintro w hF -;refine Da (v:=J<|(Ya (xs.take<|j+1):Nat)) (by rw[<-show max ((Ya (xs.take j):Nat):Int) ((Db xs[j]:Nat):Int)=((Ya (xs.take<|j+1):Nat):Int) from by rw[GE xs j fX];omega];exact x_max O O) ?_;refine rn 5<|Tc Fj ?_;refine rn 2<|Va ⟨_,?_,j+1,O,fX,Gc,hF.drop 1⟩;omega;refine rn 5 ?_;have eT:xs.take j=xs:=cZ fX;refine Da (v:=J<|(Db (.node k t ks xs):Nat)) (L2 O O (by rw[eT,Db];exact Yf fX fX fX)) ?_;refine rn 4 ?_;exact⟨O,hF.same⟩
def depth_c(x:Tree):UO x:=Tree.ind ZN x
def Same.cell{w w':World}{a:Addr}{v:Value}(h:Same [] w w')(hc:w.cell? a=some v):w'.cell? a=some v:=((FR.start w []).ext h).cell0 hc
mutual
def Zb(q:Tree->Bool):Tree->Bool|.node k t ks xs=>q (.node k t ks xs)&&Er q xs
def Er(q:Tree->Bool):List Tree->Bool|[]=>true|x::xs=>Zb q x&&Er q xs
end
theorem Lq(q:Tree->Bool):∀xs:List Tree,Er q xs = !(xs.any λx=>!Zb q x)
  | []=>rfl
  | x::xs=>by rw[Er,Lq q xs];simp
def EachC(w0:World)(bb:Nat)(xs:List Tree)(q:Tree->Bool):Prop:=∀x,x∈xs->∀S w cs,Same [] w0 w->Rep S w (Sa x) cs->Calls prog 60 #[.agg cs.toArray,V bb] w (Qb λv w'=>v=.bool (q x)/\Same [] w w')
def EachC.ext{w0 w:World}{bb:Nat}{xs:List Tree}{q:Tree->Bool}(h:EachC w0 bb xs q)(hs:Same [] w0 w):EachC w bb xs q:=λx hx S w' cs hw=>h x hx S w' cs<|hs.trans hw
def Jz{q:Tree->Bool}{xs:List Tree}{j:Nat}(h:j<aL xs)(hn:(xs.take j).any q=false)(hq:q xs[j]=false):(xs.take (j+1)).any q=false:=by
  rw[iQ h,List.any_append,hn];simp[hq]
def Ov(g:Nat)(q:Tree->Bool)(x:Tree):Prop:=∀S w0 cs,Rep S w0 (Sa x) cs->Rw x->Gl w0->Calls prog 32 #[.agg cs.toArray,.func (.func g) #[] #[]] w0 (Qb λv w'=>v=.bool (Zb q x)/\Same [] w0 w')
def RK(xs:List Tree)(q:Tree->Bool)(bb:Nat)(B:Option Addr)(e:Nat)(S:Nat->Prop)(w0:World)(hX:Rep S w0 (.slice (Mb xs)) [.slice B (aL xs) e])(hq:EachC w0 bb xs q):Calls prog 68 #[.slice B (aL xs) e,.func (.func 60) #[] #[V bb]] w0 (Qb λv w'=>∃n:Int,v=J n/\decide (0<=n)=xs.any q/\Same [] w0 w'):=by
 have hXl:=hX.slice_len;refine Ha func68 ntmps68 ?_;intro hF;refine rn 14<|Za (λμ σ w=>∃(j:Nat),μ=aL xs-j/\(j<=aL xs)/\((xs.take j).any q=false)/\AllEq σ [(0,.slice B (aL xs) e),(1,.func (.func 60) #[] #[.pointer<|some<|⟨bb,0,none⟩]),(7,J<|(aL xs:Nat)),(8,J<|(j:Int))]/\FR w0 [] [] w) _ ⟨0,O,bZ _,Ca,Gc,hF⟩ ?_;rintro μ σ w ⟨j,rfl,hj,hn,hzz,hF⟩;refine Gh hzz 7 ⟨λhc0=>?_,λhc0=>?_⟩;refine rn 15 ?_;obtain⟨ad0,cs0,hA0,hl0,hk0,hx0⟩:=hX.tree_elem (i:=j) fX;have ho0:=hx0.one_;refine Da (v:=.pointer<|some<|ad0.add<|j*4) (Ea (i:=(j:Int)) Wc hA0)<|Da (v:=.agg<|List.toArray cs0) (Qa (l:=cs0) nZ rZ O hl0<|hF.cells0 hk0) ?_;refine Xk hF (hq _ (List.getElem_mem (l:=xs) (n:=j) fX) _ _ _ hF.same<|hF.rep hx0) (Ie O en_60 O O) ?_;intro w hF;refine rn 3 ⟨λhc1=>?_,λhc1=>?_⟩;refine rn 7 ?_;exact⟨_,O,by rw[List.any_eq_true.2 ⟨_,List.getElem_mem (l:=xs) (n:=j) fX,hc1⟩];simp,hF.same⟩;refine rn 4<|Tc Fj ?_;refine rn 2<|Va ⟨_,?_,j+1,O,fX,Jz fX hn hc1,Gc,hF⟩;omega;refine rn 8 ?_;have eT:xs.take j=xs:=cZ fX;rw[eT]at hn;exact⟨_,O,by rw[hn];decide,hF.same⟩
def Bt(xs:List Tree)(q:Tree->Bool)(bb:Nat)(B:Option Addr)(e:Nat)(S:Nat->Prop)(w0:World)(hX:Rep S w0 (.slice (Mb xs)) [.slice B (aL xs) e])(hq:EachC w0 bb xs q):Calls prog 37 #[.slice B (aL xs) e,.func (.func 60) #[] #[V bb]] w0 (Qb λv w'=>v=.bool (xs.any q)/\Same [] w0 w'):=by
 refine Ha func37 ntmps37 ?_;intro hF;refine rn 9<|Yb (RK xs q bb B e S _ (hF.rep hX)<|hq.ext hF.same) ?_;rintro _ w ⟨n,rfl,hn,hE⟩;have hF:=hF.ext hE;refine rn 5 ?_;exact⟨xQ Value.bool hn,hF.same⟩
def CA(g:Nat)(q:Tree->Bool)(x:Tree)(h:Ov g q x)(bb:Nat)(S:Nat->Prop)(w0:World)(cs:List Value)(hR:Rep S w0 (Sa x) cs)(hk:Rw x)(hG:Gl w0)(hb:w0.cell? ⟨bb,0,none⟩=some (.func (.func g) #[] #[])):Calls prog 60 #[.agg cs.toArray,V bb] w0 (Qb λv w'=>v=.bool (!Zb q x)/\Same [] w0 w'):=by
 have hl:aL cs=4:=hR.length.trans<|Cb x;have ho:=hR.one_;refine Ha func60 ntmps60 ?_;intro hF;refine rn 2<|Cj (v:=.agg<|List.toArray cs) (cs:=(List.toArray cs)) hF O O ?_;rintro b1 w hb1 hF -;refine rn 5<|Da (v:=.agg<|List.toArray cs) (Qa (l:=cs) nZ rZ O hl<|hF.cellsAll 0 O)<|Da (v:=.func (.func g) #[] #[]) (Ma isAgg45<|hF.cell0 hb) ?_;refine Ta (h S _ cs (hF.rep hR) hk<|hG.ext hF.same) ?_;rintro w hF -;refine rn 5 ?_;exact⟨O,hF.same⟩
theorem HF(q:Tree->Bool)(hp:IA 33 q)(k:Int)(t:Str)(ks:List Str)(xs:List Tree)(ih:∀x,x∈xs->Ov 33 q x):Ov 33 q (.node k t ks xs):=by
 intro S w0 cs hR hk hG;have hk':=hk;rw[Rw]at hk';obtain⟨A,c,B,e,rfl,-,-,hK,hX⟩:=hR.tree_inv;refine Ha func32 ntmps32 ?_;intro hF;refine rn 3 ?_;rintro b1 w hb1 hF -;refine rn 1 ?_;rintro b2 w hb2 hF -;refine rn 7<|Xk hF (hp (.node k t ks xs) S _ _ (hF.rep hR) hk<|hG.ext hF.same) (Ie O en_33 O O) ?_;intro w hF;refine rn 2 ⟨λhg0=>?_,λhg0=>?_⟩;refine rn 2<|Da (v:=.func (.func 60) #[] #[V b2]) Te ?_;refine Ta (Bt xs (λx=>!Zb q x) b2 B e S _ (hF.rep hX) λx hx S' w' cs' hs hr=>CA 33 q x (ih x hx) b2 S' w' cs' hr (Ct hk'.2.2 x hx) ((hG.ext hF.same).ext hs)<|hs.cell<|hF.cell 0 O O) ?_;rintro w hF -;refine rn 6 ⟨?_,hF.same⟩;rw[Zb,Lq];simp_all;refine rn 10 ⟨?_,hF.same⟩;rw[Zb,Lq];simp_all
def CV(q:Tree->Bool)(hp:IA 33 q)(x:Tree):Ov 33 q x:=Tree.ind (HF q hp) x
theorem KF(q:Tree->Bool)(hp:IA 34 q)(k:Int)(t:Str)(ks:List Str)(xs:List Tree)(ih:∀x,x∈xs->Ov 34 q x):Ov 34 q (.node k t ks xs):=by
 intro S w0 cs hR hk hG;have hk':=hk;rw[Rw]at hk';obtain⟨A,c,B,e,rfl,-,-,hK,hX⟩:=hR.tree_inv;refine Ha func32 ntmps32 ?_;intro hF;refine rn 3 ?_;rintro b1 w hb1 hF -;refine rn 1 ?_;rintro b2 w hb2 hF -;refine rn 7<|Xk hF (hp (.node k t ks xs) S _ _ (hF.rep hR) hk<|hG.ext hF.same) (Ie O en_34 O O) ?_;intro w hF;refine rn 2 ⟨λhg0=>?_,λhg0=>?_⟩;refine rn 2<|Da (v:=.func (.func 60) #[] #[V b2]) Te ?_;refine Ta (Bt xs (λx=>!Zb q x) b2 B e S _ (hF.rep hX) λx hx S' w' cs' hs hr=>CA 34 q x (ih x hx) b2 S' w' cs' hr (Ct hk'.2.2 x hx) ((hG.ext hF.same).ext hs)<|hs.cell<|hF.cell 0 O O) ?_;rintro w hF -;refine rn 6 ⟨?_,hF.same⟩;rw[Zb,Lq];simp_all;refine rn 10 ⟨?_,hF.same⟩;rw[Zb,Lq];simp_all
def BX(q:Tree->Bool)(hp:IA 34 q)(x:Tree):Ov 34 q x:=Tree.ind (KF q hp) x
def rnodeB(x:Tree):Bool:=decide (x.kind≠7)&&nodeB x
def Um(x:Tree):Bool:=decide (Ja x<=4096)&&decide (Db x<=32)
def Ke(x:Tree):Bool:=Um x&&Zb nodeB x
def Eb(x:Tree):Bool:=Um x&&Zb rnodeB x
def wr_small{n:Nat}(h:n<=1000000000):wr (n:Int)=(n:Int):=Lk fX fX
theorem rnode_c  : IA 33 rnodeB:=by
 rintro⟨k,t,ks,xs⟩ S w0 cs hR hk hG;obtain⟨A,c,B,e,rfl,-,-,hK,hX⟩:=hR.tree_inv;refine Ha func33 ntmps33 ?_;intro hF;refine rn 3 ?_;rintro b1 w hb1 hF -;refine rn 10 ⟨λhg0=>?_,λhg0=>?_⟩;refine rn 1<|Ta (node_c (.node k t ks xs) S _ _ (hF.rep hR) hk<|hG.ext hF.same) ?_;rintro w hF -;refine rn 5 ⟨?_,hF.same⟩;simp_all[rnodeB,Tree.kind];refine rn 7 ⟨?_,hF.same⟩;simp_all[rnodeB,Tree.kind]
def size_v(x:Tree)(hsz:Ja x<=1000000000)(S:Nat->Prop)(w0:World)(cs:List Value)(hR:Rep S w0 (Sa x) cs):Calls prog 58 #[.agg cs.toArray] w0 (Qb λv w'=>v=J (Ja x:Nat)/\Same [] w0 w'):=by
  have h:=size_c x S w0 cs hR
  rwa [wr_small hsz]at h
def TS(x:Tree)(hsz:Ja x<=1000000000)(S:Nat->Prop)(w0:World)(cs:List Value)(hR:Rep S w0 (Sa x) cs):Calls prog 31 #[.agg cs.toArray] w0 (Qb λv w'=>v=.bool (Um x)/\Same [] w0 w'):=by
 have hl:aL cs=4:=hR.length.trans<|Cb x;have ho:=hR.one_;refine Ha func31 ntmps31 ?_;intro hF;refine rn 2<|Cj (v:=.agg<|List.toArray cs) (cs:=(List.toArray cs)) hF O O ?_;rintro b1 w hb1 hF -;refine rn 5<|Da (v:=.agg<|List.toArray cs) (Qa (l:=cs) nZ rZ O hl<|hF.cellsAll 0 O) ?_;refine Ta (size_v x hsz S _ cs<|hF.rep hR) ?_;rintro w hF -;refine rn 3 ⟨λhg0=>?_,λhg0=>?_⟩;refine Da (v:=.agg<|List.toArray cs) (Qa (l:=cs) nZ rZ O hl<|hF.cellsAll 0 O)<|Ta (depth_c x hsz S _ cs<|hF.rep hR) ?_;rintro w hF -;refine rn 6 ⟨xQ Value.bool ?_,hF.same⟩;unfold Um
 first|(rw[eZ (by omega:Ja x<=4096)];exact decide_eq_decide.2 fX)|(rw[dZ (by omega:¬Ja x<=4096)];rfl)
 refine rn 8 ⟨xQ Value.bool ?_,hF.same⟩;unfold Um
 first|(rw[eZ (by omega:Ja x<=4096)];exact decide_eq_decide.2 fX)|(rw[dZ (by omega:¬Ja x<=4096)];rfl)
theorem Up(x:Tree)(hsz:Ja x<=1000000000)(S:Nat->Prop)(w0:World)(cs:List Value)(hR:Rep S w0 (Sa x) cs)(hk:Rw x)(hG:Gl w0):Calls prog 13 #[.agg cs.toArray] w0 (Qb λv w'=>v=.bool (Eb x)/\Same [] w0 w'):=by
 have hl:aL cs=4:=hR.length.trans<|Cb x;have ho:=hR.one_;refine Ha func13 ntmps13 ?_;intro hF;refine rn 2<|Cj (v:=.agg<|List.toArray cs) (cs:=(List.toArray cs)) hF O O ?_;rintro b1 w hb1 hF -;refine rn 5<|Da (v:=.agg<|List.toArray cs) (Qa (l:=cs) nZ rZ O hl<|hF.cellsAll 0 O) ?_;refine Ta (TS x hsz S _ cs<|hF.rep hR) ?_;rintro w hF -;refine rn 2 ⟨λhg0=>?_,λhg0=>?_⟩;refine Da (v:=.agg<|List.toArray cs) (Qa (l:=cs) nZ rZ O hl<|hF.cellsAll 0 O)<|Ta (CV rnodeB rnode_c x S _ cs (hF.rep hR) hk<|hG.ext hF.same) ?_;rintro w hF -;refine rn 5 ?_;exact⟨xQ Value.bool (by unfold Eb;simp_all),hF.same⟩;refine rn 7 ?_;exact⟨xQ Value.bool (by unfold Eb;simp_all),hF.same⟩
theorem Rv(x:Tree)(hsz:Ja x<=1000000000)(S:Nat->Prop){w0:World}(cs:List Value)(hR:Rep S w0 (Sa x) cs)(hk:Rw x)(hG:Gl w0):Calls prog 25 #[.agg cs.toArray] w0 (Qb λv w'=>v=.bool (Ke x)/\Same [] w0 w'):=by
 have hl:aL cs=4:=hR.length.trans<|Cb x;have ho:=hR.one_;refine Ha func25 ntmps25 ?_;intro hF;refine rn 2<|Cj (v:=.agg<|List.toArray cs) (cs:=(List.toArray cs)) hF O O ?_;rintro b1 w hb1 hF -;refine rn 5<|Da (v:=.agg<|List.toArray cs) (Qa (l:=cs) nZ rZ O hl<|hF.cellsAll 0 O) ?_;refine Ta (TS x hsz S _ cs<|hF.rep hR) ?_;rintro w hF -;refine rn 2 ⟨λhg0=>?_,λhg0=>?_⟩;refine Da (v:=.agg<|List.toArray cs) (Qa (l:=cs) nZ rZ O hl<|hF.cellsAll 0 O)<|Ta (BX nodeB node_c x S _ cs (hF.rep hR) hk<|hG.ext hF.same) ?_;rintro w hF -;refine rn 5 ?_;exact⟨xQ Value.bool (by unfold Ke;simp_all),hF.same⟩;refine rn 7 ?_;exact⟨xQ Value.bool (by unfold Ke;simp_all),hF.same⟩
def MapRep(S:Nat->Prop)(w:World)(xs:List Tree)(l:MapL):Prop:=∀i (h:i<aL l),∃cs:List Value,l[i].2=.agg cs.toArray/\∃h2:i<aL xs,Rep S w (Sa xs[i]) cs
def MapRep.nil(S:Nat->Prop)(w:World)(xs:List Tree):MapRep S w xs []:=λi h=>absurd h Ca
theorem MapRep.snoc{S:Nat->Prop}{w:World}{xs:List Tree}{l:MapL}{k:Str}{cs:List Value}(h:MapRep S w xs l)(hl:aL l<aL xs)(hr:Rep S w (Sa xs[aL l]) cs):MapRep S w xs (l++[(k,.agg cs.toArray)]):=by
  intro i hi;rw[dQ,List.length_singleton]at hi;by_cases he:i<aL l
  ·obtain⟨c, h1, h2, h3⟩ := h i he
   grind
  grind
theorem EM{l:MapL}{ks:List Str}{j:Nat}(h:j<aL ks)(hl:l.map (·.1)=ks.take j)(hn:ks.Nodup):Ad l ks[j]=none:=by grind [Ux,Ad]
theorem KU{l:MapL}{ks:List Str}{j:Nat}{v:Value}(h:j<aL ks)(hl:l.map (·.1)=ks.take j):(l++[(ks[j],v)]).map (·.1)=ks.take (j+1):=qX
theorem keys_len{l:MapL}{ks:List Str}{j:Nat}(h:j<=aL ks)(hl:l.map (·.1)=ks.take j):aL l=j:=by
  have:=xQ List.length hl;grind
def Fu(k:Int)(t:Str)(ks:List Str)(xs:List Tree)(hn:ks.Nodup)(hlen:aL ks=aL xs)(S:Nat->Prop)(w0:World)(cs:List Value)(hR:Rep S w0 (Sa (.node k t ks xs)) cs):Calls prog 53 #[.agg cs.toArray] w0 (Qb λv w'=>∃(b:Nat)(l:MapL),v=.map (some b)/\w0.heap.size<=b/\w'.heap[b]? = some (Ub l)/\l.map (·.1)=ks/\MapRep S w' xs l/\Same [] w0 w'):=by
 obtain⟨A,c,B,e,rfl,-,-,hK,hX⟩:=hR.tree_inv;have hXl:=hX.slice_len;have hKl:=hK.slice_len;refine Ha func53 ntmps53 ?_;intro hF;refine rn 3 ?_;rintro b1 w hb1 hF -;refine rn 8<|Tj (v:=λb=>.map<|some b) hF (L1 zZ O) ?_;rintro b2 w hb2 hF -;refine rn 13 (Za (λμ σ w=>∃(j:Nat),∃(l:MapL),μ=aL ks-j/\(j<=aL ks)/\(l.map (·.1)=ks.take j)/\(MapRep S w0 xs l)/\AllEq σ [(1,V b1),(3,.map<|some b2),(11,.slice A (aL ks) c),(12,J<|(aL ks:Nat)),(13,J<|(j:Int))]/\FR w0 [] [(b2,Ub l),(b1,.cells #[J k,I t,.slice A (aL ks) c,.slice B (aL xs) e] 25)] w) _ ⟨0,[],O,bZ _,Ca,MapRep.nil _ _ _,Gc,hF⟩ ?_);rintro μ σ w ⟨j,l,rfl,hj,hl,hr,hzz,hF⟩;have hll:=keys_len hj hl;refine Gh hzz 7 ⟨λhc0=>?_,λhc0=>?_⟩;refine rn 7 ?_;obtain⟨ad0,hA0,hk0,hx0⟩:=hK.str_elem (i:=j) fX;refine Da (v:=.pointer<|some<|ad0.add<|j*1) (Ea (i:=(j:Int)) Hd hA0)<|Da (v:=I<|ks[j]) (Ma qZ<|hF.cell0 hk0) ?_;refine rn 10 ?_;obtain⟨ad1,cs1,hA1,hl1,hk1,hx1⟩:=hX.tree_elem (i:=j) fX;have ho1:=hx1.one_;refine Da (v:=.pointer<|some<|ad1.add<|j*4) (Ea (i:=(j:Int)) Wc hA1)<|Da (v:=.agg<|List.toArray cs1) (Qa (l:=cs1) nZ rZ O hl1<|hF.cells0 hk1) ?_;refine Tm 0 (v:=.agg<|List.toArray cs1) hF zZ bX O O O O (EM fX hl hn) ?_;rintro w hF -;have hF:FR w0 [] [(b2,Ub<|l++[(ks[j],.agg<|List.toArray cs1)]),(b1,.cells #[J k,I t,.slice A (aL ks) c,.slice B (aL xs) e] 25)] w:=hF;refine rn 4<|Tc Fj ?_;refine rn 2<|Va ⟨_,?_,j+1,l++[(ks[j],.agg<|List.toArray cs1)],O,fX,KU fX hl,hr.snoc fX (by simpa only[hll]using hx1),Gc,hF⟩;omega;refine rn 9 ?_;refine⟨b2,l,O,by have:=hF.ge (i:=0) O;exact this,hF.heap (i:=0) O,?_,?_,hF.same⟩;rw[hl];exact cZ fX;intro i hi;obtain⟨cs,h1,h2,h3⟩:=hr i hi;exact⟨cs,h1,h2,hF.rep h3⟩
def Jc:List Str->List Tree->Str->Option Tree
  | k::ks,x::xs,key=>if k=key then some x else Jc ks xs key
  | _,_,_=>none
def MF(q:Tree->Tree->Bool)(ks:List Str)(xs:List Tree)(ks':List Str)(ys:List Tree):Bool :=
  (ks.zip xs).all λp=>match Jc ks' ys p.1 with|some y=>q p.2 y|none=>false
theorem MapRep.tail{S:Nat->Prop}{w:World}{x:Tree}{xs:List Tree}{p:Str × Value}{l:MapL}(h:MapRep S w (x::xs) (p::l)):MapRep S w xs l:=by
  intro i hi;obtain⟨cs,h1,h2,h3⟩:=h (i+1) (aS hi);grind
theorem Sr{S:Nat->Prop}{w:World}(key:Str):∀{ks:List Str}{xs:List Tree}{l:MapL},l.map (·.1)=ks->MapRep S w xs l ->
    (Ad l key=none/\Jc ks xs key=none)\/∃(cs:List Value)(y:Tree),Ad l key=some (.agg cs.toArray)/\Jc ks xs key=some y/\y∈xs/\Rep S w (Sa y) cs
  | ks, xs, [], hk, _ => by
    left;simp only[List.map_nil]at hk;subst hk;exact⟨O,by cases xs <;> rfl⟩
  | ks, [], p :: l, hk, hm => by
    obtain⟨cs,h1,h2,h3⟩:=hm 0 Ca;simp at h2
  | ks, x :: xs, p :: l, hk, hm => by
    rw[iZ]at hk;subst hk;by_cases h:p.1=key
    ·right
     obtain⟨cs,h1,h2,h3⟩:=hm 0 Ca;refine⟨cs,x,?_,by simp[Jc,h],Ca,h3⟩;simp only[List.getElem_cons_zero]at h1;simp[Ad,h,h1]
    have e1 : Ad (p :: l) key = Ad l key := by simp[Ad, h]
    have e2:Jc (p.1::l.map (·.1)) (x::xs) key=Jc (l.map (·.1)) xs key:=by simp[Jc,h]
    rw[e1,e2];rcases Sr key rfl hm.tail with h|⟨cs,y,h1,h2,h3,h4⟩
    ·exact .inl h
    exact .inr ⟨cs,y,h1,h2,by simp[h3],h4⟩
def BothC(w0:World)(g:Nat)(xs ys:List Tree)(q:Tree->Tree->Bool):Prop:=∀x,x∈xs->∀y,y∈ys->∀S S' w cs ct,Same [] w0 w->Rep S w (Sa x) cs->Rep S' w (Sa y) ct->Calls prog g #[.agg cs.toArray,.agg ct.toArray] w (Qb λv w'=>v=.bool (q x y)/\Same [] w w')
def BothC.ext{w0 w:World}{g:Nat}{xs ys:List Tree}{q:Tree->Tree->Bool}(h:BothC w0 g xs ys q)(hs:Same [] w0 w):BothC w g xs ys q:=λx hx y hy S S' w' cs ct hw=>h x hx y hy S S' w' cs ct<|hs.trans hw
def okAt(q:Tree->Tree->Bool)(ks:List Str)(xs:List Tree)(ks':List Str)(ys:List Tree)(i:Nat):Prop:=∀(h:i<aL ks)(h2:i<aL xs),∃y,Jc ks' ys ks[i]=some y/\q xs[i] y=true
theorem SV{q:Tree->Tree->Bool}{ks ks':List Str}{xs ys:List Tree}(h:∀i,i<aL ks->okAt q ks xs ks' ys i):MF q ks xs ks' ys=true:=by
  unfold MF;rw[List.all_eq_true];intro p hp;obtain⟨i,hi,rfl⟩:=List.getElem_of_mem hp;rw[List.length_zip]at hi;obtain⟨y,h1,h2⟩:=h i fX fX fX;grind
theorem N8{q:Tree->Tree->Bool}{ks ks':List Str}{xs ys:List Tree}{i:Nat}(h:i<aL ks)(h2:i<aL xs)(hn:∀y,Jc ks' ys ks[i]=some y->q xs[i] y=false):MF q ks xs ks' ys=false:=by
  unfold MF;rw[Bool.eq_false_iff];intro ha;have:=List.all_eq_true.1 ha ((ks.zip xs)[i]'(by rw[List.length_zip];omega))<|eQ _;grind
def II(q:Tree->Tree->Bool)(ks ks':List Str)(xs ys:List Tree)(m1 m2:Nat)(l1 l2:MapL)(S S':Nat->Prop)(w0:World)(h1:w0.heap[m1]? = some (Ub l1))(h2:w0.heap[m2]? = some (Ub l2))(hk1:l1.map (·.1)=ks)(hk2:l2.map (·.1)=ks')(hm1:MapRep S w0 xs l1)(hm2:MapRep S' w0 ys l2)(hq:BothC w0 28 xs ys q):Calls prog 52 #[.map (some m1),.map (some m2),.func (.func 28) #[] #[]] w0 (Qb λv w'=>v=.bool (decide (aL ks=aL ks')&&MF q ks xs ks' ys)/\Same [] w0 w'):=by
 have e1:aL l1=aL ks:=by rw[<-hk1,rQ]
 have e2:aL l2=aL ks':=by rw[<-hk2,rQ]
 refine Ha func52 ntmps52 ?_;intro hF;refine rn 9<|Da (v:=J<|(aL (l1):Nat)) (Pz zZ O<|hF.heap0 h1) ?_;refine rn 1<|Da (v:=J<|(aL (l2):Nat)) (Pz zZ O<|hF.heap0 h2) ?_;refine rn 4 ⟨λhc0=>?_,λhc0=>?_⟩;refine rn 6 ?_;exact⟨xQ Value.bool (by rw[dZ fX];rfl),hF.same⟩;refine rn 6<|Tj (v:=λb=>V b) (o:=.mapIter (some m1) (aL (l1)) #[] (aL (l1))) hF (QZ zZ O<|hF.heap0 h1) ?_;rintro b1 w hb1 hF -;refine rn 3<|Za (λμ σ w=>∃(seen:Array Nat),μ=B6 (aL l1) seen/\(∀i,i<aL l1->seen.contains i=true->okAt q ks xs ks' ys i)/\AllEq σ [(1,.map<|some m2),(2,.func (.func 28) #[] #[]),(17,V b1)]/\FR w0 [] [(b1,.mapIter (some m1) (aL (l1)) (seen) (aL (l1)))] w) _ ⟨#[],O,λi _ h=>by simp at h,Gc,hF⟩ ?_;rintro μ σ w ⟨seen,rfl,hs_,hzz,hF⟩;refine Gh hzz 2<|o_nextM 0 (b:=m1) (l:=l1) (seen:=seen) hF O O (hF.heap0 h1) (λhall=>?_) λj w hj hn hF2 hE _=>?_;refine rn 13 ?_;exact⟨xQ Value.bool (by rw[eZ fX,SV λi hi=>hs_ i fX<|hall i fX];rfl),hF.same⟩;clear hF;have hF:FR w0 [] [(b1,.mapIter (some m1) (aL (l1)) ((seen).push j) (aL (l1)))] w:=hF2;clear hE hF2;refine rn 10 ?_;obtain⟨cx,hcx,hx2,hrx⟩:=hm1 j hj;have hox:=hrx.one_;have hlx:aL cx=4:=hrx.length.trans<|Cb _;have hkj:(l1)[j].1=ks[j]'(by rw[<-hk1,rQ];exact hj):=by have:=List.getElem_map (·.1) (l:=l1) (i:=j) (h:=by rw[rQ];exact hj);simp only[hk1]at this;exact this.symm
 refine Da (v:=.tuple #[I<|(l1)[j].1,.agg<|List.toArray cx]) (x_entryM O hj (hF.heap (i:=0) O) (hF.heap0 h1) hcx)<|rn 3 ?_;rintro b2 w hb2 hF -;refine rn 1 ?_;refine Cd 0 (l:=cx) (cs':=(List.toArray cx)) hF (by rw[hlx];exact rZ) O (v:=.agg<|List.toArray cx) O O (hox) O (by rw[hlx];exact Nat.le_of_ble_eq_true O) (Vg (by rw[hlx];rfl)) ?_;rintro w hF -;refine rn 6 ?_;rcases Sr (l1)[j].1 hk2 hm2 with ⟨hlk,hlt⟩|⟨cy,y,hlk,hlt,hym,hry⟩
 refine Da (v:=.tuple #[.agg #[J 0,I [],aQ,aQ],.bool false]) (Oj zZ bX cX O O (hF.heap0 h2) jD jD) ?_;refine rn 4 ?_;rintro b3 w hb3 hF -;refine rn 23 ?_;exact⟨xQ Value.bool (by rw[N8 (i:=j) fX hx2 (λy hy=>by rw[<-hkj,hlt]at hy;cases hy),Bool.and_false]),hF.same⟩;have hoy:=hry.one_;have hly:aL cy=4:=hry.length.trans<|Cb _;refine Da (v:=.tuple #[.agg<|List.toArray cy,.bool true]) (Oj zZ bX cX O O (hF.heap0 h2) jD jD) ?_;refine rn 3 ?_;refine Zm (l:=cy) hF cX (by rw[hly];exact rZ) (by rw[hly];rfl) (v:=.agg<|List.toArray cy) O O (hoy) O ?_;rintro b4 w hb4 hF -;refine rn 9<|Da (v:=.agg<|List.toArray cx) (Qa (l:=cx) nZ rZ O hlx<|hF.cellsAll 1 O)<|Da (v:=.agg<|List.toArray cy) (Qa (l:=cy) nZ rZ O hly<|hF.cellsAll 0 O) ?_;refine Xk hF (hq _ (eQ hx2) y hym S S' _ cx cy hF.same (hF.rep hrx)<|hF.rep hry) (So O en_28 O O O) ?_;intro w hF;refine rn 5 ⟨λhc2=>?_,λhc2=>?_⟩;refine rn 6 ?_;exact⟨xQ Value.bool (by rw[N8 (i:=j) fX hx2 (λy1 hy=>by rw[<-hkj,hlt]at hy;injection hy with hy;subst hy;simpa using hc2),Bool.and_false]),hF.same⟩;refine rn 2 ?_;refine Va ⟨_,?_,seen.push j,rfl,(λi hi hc=>by rw[contains_push]at hc;rcases Bool.or_eq_true_iff.1 hc with hc|hc;exact hs_ i hi hc;obtain rfl:=beq_iff_eq.1 hc;exact λh _=>⟨y,by rw[<-hkj];exact hlt,by simpa using hc2⟩),Gc,hF.su⟩;exact C3 hj hn
mutual
def Qh:Tree->Tree->Bool
  | .node k t ks xs,.node k' t' ks' ys=>decide (k=k')&&decide (t=t')&&decide (aL xs=aL ys)&&(if k≠6 then Lx xs ys else decide (aL ks=aL ks')&&Ix xs ks ks' ys)
def Lx:List Tree->List Tree->Bool
  | x::xs,y::ys=>Qh x y&&Lx xs ys
  | _,_=>true
def Ix:List Tree->List Str->List Str->List Tree->Bool
  | x::xs,k::ks,ks',ys=>(match Jc ks' ys k with|some y=>Qh x y|none=>false)&&Ix xs ks ks' ys
  | _,_,_,_=>true
end
def Jp(q:Tree->Tree->Bool)(xs ys:List Tree):Bool:=decide (aL xs=aL ys)&&(xs.zip ys).all λp=>q p.1 p.2
theorem Hi:∀xs ys:List Tree,((xs.zip ys).all λp=>Qh p.1 p.2)=Lx xs ys
  | [],ys=>by cases ys <;> simp[Lx]
  | x::xs,[]=>by simp[Lx]
  | x::xs,y::ys=>by rw[List.zip_cons_cons,List.all_cons,Hi xs ys,Lx]
theorem Ji:∀(xs:List Tree)(ks ks':List Str)(ys:List Tree),MF Qh ks xs ks' ys=Ix xs ks ks' ys
  | [],ks,ks',ys=>by cases ks <;> simp[MF,Ix]
  | x::xs,[],ks',ys=>by simp[MF,Ix]
  | x :: xs, k :: ks, ks', ys => by
    have:=Ji xs ks ks' ys;unfold MF at this ⊢;rw[List.zip_cons_cons,List.all_cons,this,Ix]
    try rfl
def F_{q:Tree->Tree->Bool}{xs ys:List Tree}{j:Nat}(h:j<aL xs)(h2:j<aL ys)(ha:((xs.take j).zip (ys.take j)).all (λp=>q p.1 p.2)=true)(hq:q xs[j] ys[j]=true):((xs.take (j+1)).zip (ys.take (j+1))).all (λp=>q p.1 p.2)=true:=by
  rw[iQ h,iQ h2,List.zip_append (by rw[gZ,gZ];omega),List.all_append,ha];simp[hq]
theorem GO{q:Tree->Tree->Bool}{xs ys:List Tree}{j:Nat}(h:j<aL xs)(h2:j<aL ys)(hq:q xs[j] ys[j]=false):((xs.zip ys).all λp=>q p.1 p.2)=false:=by
  rw[Bool.eq_false_iff];intro ha;have:=List.all_eq_true.1 ha ((xs.zip ys)[j]'(by rw[List.length_zip];omega))<|eQ _;grind
def MapRep.ext{S:Nat->Prop}{w w':World}{xs:List Tree}{l:MapL}(h:MapRep S w xs l)(hs:Same [] w w'):MapRep S w' xs l:=λi hi=>by
  obtain⟨cs,h1,h2,h3⟩:=h i hi;exact⟨cs,h1,h2,h3.ext hs⟩
def Same.heap{w w':World}{b:Nat}{o:Obj}(hs:Same [] w w')(h:w.heap[b]? = some o):w'.heap[b]? = some o:=(hs.block b (Ga h) Ca).trans h
theorem TB{q:Tree->Bool}:∀{xs:List Tree},Er q xs=true->∀x∈xs,Zb q x=true
  | [],_,_,h=>absurd h Ca
  | y :: ys, h, x, hx => by
    rw[Er,vQ]at h;rcases oQ.1 hx with rfl|hx
    ·exact h.1
    exact TB h.2 x hx
theorem Sc{q:Tree->Bool}{k:Int}{t:Str}{ks:List Str}{xs:List Tree}(h:Zb q (.node k t ks xs)=true):q (.node k t ks xs)=true/\∀x∈xs,Zb q x=true:=by grind [Zb,TB]
theorem Hk{t:Str}{ks:List Str}{xs:List Tree}(h:nodeB (.node 6 t ks xs)=true):ks.Nodup/\aL ks=aL xs:=by grind [nodeB,Wl]
def SameC(x:Tree):Prop:=∀y S S' w0 cs ct,Rep S w0 (Sa x) cs->Rep S' w0 (Sa y) ct->Zb nodeB x=true->Zb nodeB y=true->Calls prog 28 #[.agg cs.toArray,.agg ct.toArray] w0 (Qb λv w'=>v=.bool (Qh x y)/\Same [] w0 w')
def OG(q:Tree->Tree->Bool)(xs ys:List Tree)(B B':Option Addr)(e e':Nat)(S S':Nat->Prop)(w0:World)(hX:Rep S w0 (.slice (Mb xs)) [.slice B (aL xs) e])(hY:Rep S' w0 (.slice (Mb ys)) [.slice B' (aL ys) e'])(hq:BothC w0 28 xs ys q):Calls prog 51 #[.slice B (aL xs) e,.slice B' (aL ys) e',.func (.func 28) #[] #[]] w0 (Qb λv w'=>v=.bool (Jp q xs ys)/\Same [] w0 w'):=by
 have hXl:=hX.slice_len;have hYl:=hY.slice_len;refine Ha func51 ntmps51 ?_;intro hF;refine rn 16 ⟨λhc0=>?_,λhc0=>?_⟩;refine rn 6 ?_;exact⟨xQ Value.bool (by unfold Jp;rw[dZ fX];rfl),hF.same⟩;refine rn 11<|Za (λμ σ w=>∃(j:Nat),μ=aL xs-j/\(j<=aL xs)/\(((xs.take j).zip (ys.take j)).all (λp=>q p.1 p.2)=true)/\AllEq σ [(1,.slice B' (aL ys) e'),(2,.func (.func 28) #[] #[]),(15,.slice B (aL xs) e),(16,J<|(aL xs:Nat)),(17,J<|(j:Int))]/\FR w0 [] [] w) _ ⟨0,O,bZ _,Ca,Gc,hF⟩ ?_;rintro μ σ w ⟨j,rfl,hj,ha,hzz,hF⟩;refine Gh hzz 7 ⟨λhc1=>?_,λhc1=>?_⟩;refine rn 7 ?_;obtain⟨ad0,cs0,hA0,hl0,hk0,hx0⟩:=hX.tree_elem (i:=j) fX;have ho0:=hx0.one_;refine Da (v:=.pointer<|some<|ad0.add<|j*4) (Ea (i:=(j:Int)) Wc hA0)<|Da (v:=.agg<|List.toArray cs0) (Qa (l:=cs0) nZ rZ O hl0<|hF.cells0 hk0) ?_;refine rn 1 ?_;rintro b1 w hb1 hF -;refine rn 1 ?_;refine Cd 0 (l:=cs0) (cs':=(List.toArray cs0)) hF jB O (v:=.agg<|List.toArray cs0) O O (ho0) O (by rw[hl0];exact Nat.le_of_ble_eq_true O) (Vg bB) ?_;rintro w hF -;refine rn 6 ?_;obtain⟨ad1,cs1,hA1,hl1,hk1,hx1⟩:=hY.tree_elem (i:=j) fX;have ho1:=hx1.one_;refine Da (v:=.pointer<|some<|ad1.add<|j*4) (Ea (i:=(j:Int)) Wc hA1)<|Da (v:=.agg<|List.toArray cs1) (Qa (l:=cs1) nZ rZ O hl1<|hF.cells0 hk1) ?_;refine Zm (l:=cs1) hF cX wS (by rw[hl1];rfl) (v:=.agg<|List.toArray cs1) O O (ho1) O ?_;rintro b2 w hb2 hF -;refine rn 5<|Da (v:=.agg<|List.toArray cs0) (Qa (l:=cs0) nZ rZ O hl0<|hF.cellsAll 1 O)<|Da (v:=.agg<|List.toArray cs1) (Qa (l:=cs1) nZ rZ O hl1<|hF.cellsAll 0 O) ?_;refine Xk hF (hq _ (List.getElem_mem (l:=xs) (n:=j) fX) _ (List.getElem_mem (l:=ys) (n:=j) fX) _ _ _ _ _ hF.same (hF.rep hx0)<|hF.rep hx1) (So O en_28 O O O) ?_
 intro w hF;refine rn 4 ⟨λhc2=>?_,λhc2=>?_⟩;refine rn 6 ?_;exact⟨xQ Value.bool (by unfold Jp;rw[GO (j:=j) fX fX (aS hc2),Bool.and_false]),hF.same⟩;refine rn 4<|Tc Fj ?_;refine rn 2<|Va ⟨_,?_,j+1,O,fX,F_ fX fX ha (aS hc2),Gc,hF.su⟩;omega;refine rn 8 ?_;have eX:xs.take j=xs:=cZ fX;have eY:ys.take j=ys:=cZ fX;rw[eX,eY]at ha;exact⟨xQ Value.bool (by unfold Jp;rw[ha,eZ fX];rfl),hF.same⟩
theorem QV(k:Int)(t:Str)(ks:List Str)(xs:List Tree)(ih:∀x,x∈xs->SameC x):SameC (.node k t ks xs):=by
 rintro⟨k',t',ks',ys⟩ S S' w0 cs ct hR hR' hnx hny;have hnx:=Sc hnx;have hny:=Sc hny;obtain⟨A,c,B,e,rfl,-,-,hK,hX⟩:=hR.tree_inv;obtain⟨A',c',B',e',rfl,-,-,hK',hY⟩:=hR'.tree_inv;have hXl:=hX.slice_len;have hYl:=hY.slice_len;refine Ha func28 ntmps28 ?_;intro hF;refine rn 3 ?_;rintro b1 w hb1 hF -;refine rn 1 ?_;rintro b2 w hb2 hF -;refine rn 17 ⟨λhc0=>?_,λhc0=>?_⟩;refine rn 9 ⟨xQ Value.bool ?_,hF.same⟩;rw[Qh];clear hF hXl hYl hR hR' hX hY hK hK' ih hnx hny
 ·first|(simp_all[Jp,Hi,Ji];done)|(simp_all[Jp,Hi,Ji];omega)
 refine rn 11 ⟨λhc1=>?_,λhc1=>?_⟩;refine rn 9 ⟨xQ Value.bool ?_,hF.same⟩;rw[Qh];clear hF hXl hYl hR hR' hX hY hK hK' ih hnx hny
 ·first|(simp_all[Jp,Hi,Ji];done)|(simp_all[Jp,Hi,Ji];omega)
 refine rn 12 ⟨λhc2=>?_,λhc2=>?_⟩;refine rn 6 ⟨xQ Value.bool ?_,hF.same⟩;rw[Qh];clear hF hXl hYl hR hR' hX hY hK hK' ih hnx hny
 ·first|(simp_all[Jp,Hi,Ji];done)|(simp_all[Jp,Hi,Ji];omega)
 refine rn 9 ⟨λhc3=>?_,λhc3=>?_⟩;refine rn 6<|Ta (OG Qh xs ys B B' e e' S S' _ (hF.rep hX) (hF.rep hY) λx hx y hy S1 S2 w1 cs1 ct1 _ h1 h2=>ih x hx y S1 S2 w1 cs1 ct1 h1 h2 (hnx.2 x hx)<|hny.2 y hy) ?_;rintro w hF -;refine rn 4 ⟨xQ Value.bool ?_,hF.same⟩;rw[Qh];clear hF hXl hYl hR hR' hX hY hK hK' ih hnx hny
 ·first|(simp_all[Jp,Hi,Ji];done)|(simp_all[Jp,Hi,Ji];omega)
 refine rn 4<|Fe (zs:=.of []) (.free 0<|.free 2<|cQ [1,3,4]<|.free 5 .nil) hF ?_;intro w hF;refine rn 2 ?_;have k6:k=6:=aS hc3
 refine Me (Fu k t ks xs (Hk<|k6▸hnx.1).1 (Hk<|k6▸hnx.1).2 S _ _<|hF.rep hR) ?_;rintro _ w ⟨m1,l1,rfl,-,hm1,hk1,hr1,hE⟩;have hF:=hF.ext hE;refine⟨hF,?_⟩;have k6':k'=6:=by_Om
 refine Me (Fu k' t' ks' ys (Hk<|k6'▸hny.1).1 (Hk<|k6'▸hny.1).2 S' _ _<|hF.rep hR') ?_;rintro _ w ⟨m2,l2,rfl,-,hm2,hk2,hr2,hE⟩;have hF:=hF.ext hE;have hm1:=hE.heap hm1;have hr1:=hr1.ext hE;refine⟨hF,?_⟩;refine Mf (II Qh ks ks' xs ys m1 m2 l1 l2 S S' _ hm1 hm2 hk1 hk2 hr1 hr2 λx hx y hy S1 S2 w1 cs1 ct1 _ h1 h2=>ih x hx y S1 S2 w1 cs1 ct1 h1 h2 (hnx.2 x hx)<|hny.2 y hy) ?_;rintro w hF -;refine rn 4 ⟨xQ Value.bool ?_,hF.same⟩;rw[Qh];clear hF hXl hYl hR hR' hX hY hK hK' ih hnx hny
 ·first|(simp_all[Jp,Hi,Ji];done)|(simp_all[Jp,Hi,Ji];omega)
def same_c(x:Tree):SameC x:=Tree.ind QV x
def BothI(w0:World)(g:Nat)(xs ys:List Tree)(q:Tree->Tree->Int):Prop:=∀x,x∈xs->∀y,y∈ys->∀S S' w cs ct,Same [] w0 w->Rep S w (Sa x) cs->Rep S' w (Sa y) ct->Calls prog g #[.agg cs.toArray,.agg ct.toArray] w (Qb λv w'=>v=J (q x y)/\Same [] w w')
def BothI.ext{w0 w:World}{g:Nat}{xs ys:List Tree}{q:Tree->Tree->Int}(h:BothI w0 g xs ys q)(hs:Same [] w0 w):BothI w g xs ys q:=λx hx y hy S S' w' cs ct hw=>h x hx y hy S S' w' cs ct<|hs.trans hw
def Dx(x y:Tree):Bool:=Ke x&&Ke y&&Qh x y
theorem Aj{x:Tree}(h:Ke x=true):Zb nodeB x=true:=by unfold Ke at h;rw[vQ]at h;exact h.2
theorem LF(x y:Tree)(hsx:Ja x<=1000000000)(hsy:Ja y<=1000000000)(S S':Nat->Prop)(w0:World)(cs ct:List Value)(hR:Rep S w0 (Sa x) cs)(hR':Rep S' w0 (Sa y) ct)(hk:Rw x)(hk':Rw y)(hG:Gl w0):Calls prog 11 #[.agg cs.toArray,.agg ct.toArray] w0 (Qb λv w'=>v=.bool (Dx x y)/\Same [] w0 w'):=by
 have hl:aL cs=4:=hR.length.trans<|Cb x;have ho:=hR.one_;have hl':aL ct=4:=hR'.length.trans<|Cb y;have ho':=hR'.one_;refine Ha func11 ntmps11 ?_;intro hF;refine rn 2<|Cj (v:=.agg<|List.toArray cs) (cs:=(List.toArray cs)) hF O O ?_;rintro b1 w hb1 hF -;refine Cj (v:=.agg<|List.toArray ct) (cs:=(List.toArray ct)) hF O O ?_;rintro b2 w hb2 hF -;refine rn 5<|Da (v:=.agg<|List.toArray cs) (Qa (l:=cs) nZ rZ O hl<|hF.cellsAll 1 O) ?_;refine Ta (Rv x hsx S cs (hF.rep hR) hk<|hG.ext hF.same) ?_;rintro w hF -;refine rn 2 ⟨λhg0=>?_,λhg0=>?_⟩;refine Da (v:=.agg<|List.toArray ct) (Qa (l:=ct) nZ rZ O hl'<|hF.cellsAll 0 O)<|Ta (Rv y hsy S' ct (hF.rep hR') hk'<|hG.ext hF.same) ?_;rintro w hF -;refine rn 3 ⟨λhg1=>?_,λhg1=>?_⟩;refine Da (v:=.agg<|List.toArray cs) (Qa (l:=cs) nZ rZ O hl<|hF.cellsAll 1 O)<|Da (v:=.agg<|List.toArray ct) (Qa (l:=ct) nZ rZ O hl'<|hF.cellsAll 0 O) ?_;refine Ta (same_c x y S S' _ cs ct (hF.rep hR) (hF.rep hR') (Aj qX)<|Aj qX) ?_;rintro w hF -;refine rn 5 ⟨xQ Value.bool ?_,hF.same⟩;unfold Dx;clear hF hR hR';simp_all;refine rn 8 ⟨xQ Value.bool ?_,hF.same⟩;unfold Dx;clear hF hR hR';simp_all;refine rn 12 ⟨xQ Value.bool ?_,hF.same⟩;unfold Dx;clear hF hR hR';simp_all
def of_c(s:Str)(w0:World):Calls prog 243 #[I s] w0 (Qb λv w'=>v=.agg #[J 4,I s,aQ,aQ]/\Same [] w0 w'):=by
 refine Ha func243 ntmps243 ?_;intro hF;refine rn 3 ?_;rintro b1 w hb1 hF -;refine rn 5<|Da (w':=w) (v:=.agg #[J 4,I s,aQ,aQ]) Ib ?_;refine rn 1 ?_;rintro w hF -;refine rn 3 ?_;exact⟨O,hF.same⟩
def num_c(n:Int)(h1:-9223372036854775808<=n)(h2:n<=9223372036854775807)(w0:World)(hG:Gl w0):Calls prog 15 #[J n] w0 (Qb λv w'=>v=.agg #[J 3,I (Nm (NG n)),aQ,aQ]/\Same [] w0 w'):=by
 refine Ha func15 ntmps15 ?_;intro hF;refine rn 3 ?_;rintro b1 w hb1 hF -;refine rn 5<|Ta (EQ n h1 h2 _<|hG.ext hF.same) ?_;rintro w hF -;refine Ta (WN (NG n) (by have:=No<|Lib.itoa n;exact fQ this Pa) _<|hG.ext hF.same) ?_;rintro w hF -;refine Da (w':=w) (v:=.agg #[J 3,I<|Nm<|NG n,aQ,aQ]) Ib<|rn 1 ?_;rintro w hF -;refine rn 3 ?_;exact⟨O,hF.same⟩
end Go.Scarf
