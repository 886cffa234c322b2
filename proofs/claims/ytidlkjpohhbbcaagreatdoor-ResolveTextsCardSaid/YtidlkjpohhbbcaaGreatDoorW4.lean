/- A part of the proof. -/
import Derived.Test.YtidlkjpohhbbcaaGreatDoorNum
import Derived.Lib.ValidLaws
import Derived.Lib.TrimUEq
import Derived.Lib.MapLaws
set_option linter.all false
set_option maxHeartbeats 8000000
set_option maxRecDepth 10000
set_option synthInstance.maxHeartbeats 0
set_option synthInstance.maxSize 9999
namespace Go.Scarf
open List renaming length->aL
open Go.RowKit Go.Proofs Go.Proofs.Tryz
variable {w:World}{ks:List Str}{j:Nat}{f:Str->Bool}
def Bh(s:Str):Bool:=decide ((Wb s).2=0)&&decide (Ch (Wb s).1=s)
def Vr(s:Str):Bool:=Bh s&&(Lr (Wb s).1).2&&decide (0<=(Lr (Wb s).1).1)
theorem PB(s:Str):Ub (Wb s).1=true:=by
  rw[Ze]
  repeat' split
  all_goals first|rfl|simp_all
def Nf(s:Str):aL (Wb s).1.digits<=1000:=(Pb<|PB s).1
theorem Jh(s:Str)(q:Nat):Lib.decodeL (s.drop q)=Utf8.decode (bs s) q:=Lib.decodeL_drop (bs s) q
def Pd(s:Str)(q:Nat):1<=(Utf8.decode (bs s) q).2:=by
  rw[<-Jh];exact Lib.decodeL_width _
theorem Bk(s:Str)(q:Nat)(h:q<aL s:=by omega):q+(Utf8.decode (bs s) q).2<=aL s:=by
  have:=Lib.decodeL_le (s.drop q) bN;grind [Jh]
def W5(s:Str)(q:Nat)(h:q<aL s)(hv:Lib.validD (s.drop q)=false)(hn:¬((Utf8.decode (bs s) q).1=65533/\(Utf8.decode (bs s) q).2=1)):Lib.validD (s.drop (q+(Utf8.decode (bs s) q).2))=false:=by
  rw[Lib.validD_step _ bN,Jh,tQ hn,List.drop_drop]at hv;exact hv
theorem Xu(s:Str)(q:Nat)(h:q<aL s):Lib.decodeGo (bs (s.drop q))=Utf8.decode (bs s) q:=by
  have h1:(bs<|s.drop q).size≠0:=by grind [Pl]
  rw[Lib.decodeGo,tQ h1];exact Jh s q
def J9(s:Str)(hl:aL s<=140737488355328)(hG:Gl w):Calls prog 124 #[I s] w (Za λv w'=>v=.bool (Lib.validD s)/\Same [] w w') :=
  Pu (utf8_ValidString (bs s) w kR hG.tabs)
def Ry(s:Str)(hG:Gl w):Calls prog 125 #[I s] w (Za λv w'=>v=.tuple #[.int .i32 (Lib.decodeGo (bs s)).1,J (Lib.decodeGo (bs s)).2]/\Same [] w w') :=
  Pu (utf8_DecodeRuneInString (bs s) w hG.tabs)
def AE(s:Str)(hl:aL s<=140737488355328)(w0:World)(hG:Gl w0):Calls prog 78 #[I s] w0 (Za λv w'=>∃n,v=.tuple #[J n,.bool (Lib.validD s)]/\Same [] w0 w'):=by
 refine Ea func78 ntmps78 ?_;intro hF;refine rn 10<|Ia (J9 s hl<|hG.ext hF.same) ?_;rintro w hF -;refine rn 3 ⟨λhc0=>?_,λhc0=>?_⟩
 ·
  refine rn 9 ?_;exact⟨_,by rw[hc0],hF.same⟩
 refine rn 6<|Zp (str:=s) hF jX O ?_;rintro b1 w hb1 hF -;refine rn 3<|Sa (λμ σ w=>∃(q:Nat),μ=aL s-q/\(q<=aL s)/\(Lib.validD (s.drop q)=false)/\AllEq σ [(0,I s),(13,V b1)]/\FR w0 [] [(b1,.stringIter (bs s) q)] w) _ ⟨0,O,dZ _,aS hc0,Va,hF⟩ ?_;rintro μ σ w ⟨q,rfl,hq,hv,hzz,hF⟩;refine Wf hzz 2 ?_;by_cases hn0:(q)<aL (s:Str)
 ·
  refine Au 0 (p:=q) (str:=s) hF O O hn0 ?_;rintro w hF -;refine rn 24 ⟨λhc2=>?_,λhc2=>?_⟩
  ·
   refine rn 1 ?_;have h1:=Pd s q;have hw:¬((Utf8.decode (bs s) q).1=65533/\(Utf8.decode (bs s) q).2=1):=by
     first
     | (intro hh;omega)
     | (rw[Xu s q Aa]at hc3;intro hh;omega)
   refine Ha ⟨_,?_,q+(Utf8.decode (bs s) q).2,O,Bk s q,W5 s q Aa hv hw,Va,hF⟩;omega
  refine rn 6<|Ba (v:=I<|(s:Str).drop (q)) (Qf (q) jX) ?_;refine Ia (Ry (s.drop q)<|hG.ext hF.same) ?_;rintro w hF -;refine rn 14 ⟨λhc3=>?_,λhc3=>?_⟩
  ·
   refine rn 8 ?_;exact⟨_,by rw[hc0],hF.same⟩
  refine rn 2 ?_;have h1:=Pd s q;have hw:¬((Utf8.decode (bs s) q).1=65533/\(Utf8.decode (bs s) q).2=1):=by
    first
    | (intro hh;omega)
    | (rw[Xu s q Aa]at hc3;intro hh;omega)
  refine Ha ⟨_,?_,q+(Utf8.decode (bs s) q).2,O,Bk s q,W5 s q Aa hv hw,Va,hF⟩;omega
 refine Ol 0 (p:=q) (str:=s) hF O O hn0<|rn 16 ?_;have e:s.drop q=[]:=List.drop_eq_nil_of_le Aa;rw[e]at hv;cases hv
def KP(s:Str)(hl:aL s<=140737488355328)(w0:World)(hG:Gl w0):Calls prog 194 #[I s] w0 (Za λv w'=>v=.bool (Lib.validD s)/\Same [] w0 w'):=by
 refine Ea func194 ntmps194 ?_;intro hF;refine rn 8<|Fc (AE s hl _<|hG.ext hF.same) ?_;rintro _ w ⟨n,rfl,hE⟩;have hF:=hF.ext hE;refine rn 14 ?_;exact⟨O,hF.same⟩
theorem Nu(s:Str)(hl:aL s<=140737488355328)(w0:World)(hG:Gl w0):Calls prog 131 #[I s] w0 (Za λv w'=>v=.tuple #[Lj (Wb s).1,.bool (Bh s)]/\Same [] w0 w'):=by
 refine Ea func131 ntmps131 ?_;intro hF;refine rn 3 ?_;rintro b1 w hb1 hF -;refine rn 6<|Ia (Ly s hl) ?_;rintro w hF -;refine rn 4 ?_;rintro b2 w hb2 hF -;refine rn 4<|Gb (.of []) (bQ [0,1,2,3,4,6]<|.act 5<|.free 7<|.free 8<|.act 9<|.free 10 .nil) hF ?_;rintro w hF -;refine⟨λwq=>FR w0 [] [(b2,.cells #[.bool<|(Wb s).1.neg,I<|(Wb s).1.digits,J<|(Wb s).1.exp] 90)] wq,hF.sub<|.cons_cons _<|.cons _ .slnil,?_⟩;refine rn 5 ⟨λhg0=>?_,λhg0=>?_⟩;refine rn 2 ?_;refine Rc (TE (Wb s).1 kY _<|hG.ext hF.same) ?_;rintro w hF -;refine rn 3 ?_;rintro w hF -;refine rn 4 ?_;exact⟨by simp_all[Bh,Lj],hF.same⟩;refine rn 2<|Yy ?_<|hF.sub<|.cons_cons _<|.cons _ .slnil;refine rn 3 ?_;rintro w hF -;refine rn 4 ?_;exact⟨by simp_all[Bh,Lj],hF.same⟩
theorem hole_c(s:Str)(hl:aL s<=140737488355328)(w0:World)(hG:Gl w0):Calls prog 195 #[I s] w0 (Za λv w'=>v=.bool (Vr s)/\Same [] w0 w'):=by
 refine Ea func195 ntmps195 ?_;intro hF;refine rn 8<|Ia (Nu s hl _<|hG.ext hF.same) ?_;rintro w hF -;refine rn 4 ?_;rintro b1 w hb1 hF -;refine rn 6 ?_;refine Ia (PG (Wb s).1 kY _<|hG.ext hF.same) ?_;rintro w hF -;refine rn 12 ⟨λhg0=>?_,λhg0=>?_⟩;refine rn 4 ⟨λhg1=>?_,λhg1=>?_⟩;refine rn 7 ?_;exact⟨by simp_all[Vr],hF.same⟩;refine rn 7 ?_;exact⟨by simp_all[Vr],hF.same⟩;refine rn 10 ?_;exact⟨by simp_all[Vr],hF.same⟩
def Wj(ks:List Str)(n:Int):Bool:=decide ks.Nodup&&ks.all Lib.validD&&decide ((aL ks:Int)=n)
def U2(ks:List Str):MapL:=ks.map λk=>(k,.bool true)
theorem U8(ks:List Str)(k:Str):Ie (U2 ks) k=if k∈ks then some (.bool true) else none:=by
  induction ks with
  | nil=>rfl
  | cons a r ih=>grind [U2,Ie]
def PO(ks:List Str)(j:Nat)(h:j<aL ks):U2 (ks.take j)++[(ks[j],.bool true)]=U2 (ks.take (j+1)):=by
  unfold U2;rw[iQ h,jQ];rfl
theorem Xr(h:j<aL ks)(hn:(ks.take j).Nodup)(hi:¬ks[j]∈ks.take j):(ks.take (j+1)).Nodup:=by
  rw[iQ h,List.nodup_append];grind
theorem Pr(h:j<aL ks)(hi:ks[j]∈ks.take j):¬ks.Nodup:=by
  intro hn;obtain⟨i,hi',he⟩:=List.getElem_of_mem hi;rw[List.getElem_take]at he;have hi2:i<j:=qK
  have:=(List.pairwise_iff_getElem.1 hn) i j Aa h hi2;grind
def Uu(h:j<aL ks)(ha:(ks.take j).all f=true)(hv:f ks[j]=true):(ks.take (j+1)).all f=true:=by
  rw[iQ h,List.all_append,ha];simp[hv]
theorem NS(h:j<aL ks)(hv:f ks[j]=false):ks.all f=false:=qK
def keyed_c(ks:List Str)(n:Int)(S:Nat->Prop)(A:Option Addr)(c:Nat)(hl:∀k∈ks,aL k<=140737488355328)(w0:World)(hG:Gl w0)(hX:Rep S w0 (Ee ks) [.slice A (aL ks) c]):Calls prog 193 #[.slice A (aL ks) c,J n] w0 (Za λv w'=>v=.bool (Wj ks n)/\Same [] w0 w'):=by
 have hXl:=hX.slice_len;refine Ea func193 ntmps193 ?_;intro hF;refine rn 9<|Wr (v:=λb=>.map<|some b) hF (XA zZ O) ?_;rintro b1 w hb1 hF -;refine rn 12 ?_;have hF:FR w0 [] [(b1,Vc<|U2<|ks.take 0)] w:=hF;refine Sa (λμ σ w=>∃(j:Nat),μ=aL ks-j/\(j<=aL ks)/\((ks.take j).Nodup)/\((ks.take j).all Lib.validD=true)/\AllEq σ [(0,.slice A (aL ks) c),(1,J n),(5,.map<|some b1),(11,.slice A (aL ks) c),(12,J<|(aL ks:Nat)),(13,J<|(j:Int))]/\FR w0 [] [(b1,Vc<|U2<|ks.take j)] w) _ ⟨0,O,dZ _,Da,Da,Va,hF⟩ ?_;rintro μ σ w ⟨j,rfl,hj,hd,hv,hzz,hF⟩;refine Wf hzz 7 ⟨λhc0=>?_,λhc0=>?_⟩;refine rn 6 ?_;obtain⟨ad0,hA0,hk0,hx0⟩:=hX.str_elem (i:=j) Aa;refine Ba (v:=.pointer<|some<|ad0.add<|j*1) (Ca (i:=(j:Int)) Ii hA0)<|Ba (v:=I<|ks[j]) (Xa sZ<|hF.cell0 hk0) ?_;refine rn 8 ?_;refine Ba (v:=.bool<|decide (ks[j]∈ks.take j)) (Hq zZ jX zeroValue4 O O (hF.heap (i:=0) O) (by rw[U8];split <;> rename_i hh <;> simp only[hh,decide_true,decide_false] <;> rfl)) ?_;refine rn 2 ⟨λhg1=>?_,λhg1=>?_⟩;refine rn 13 ?_;have:=Pr (ks:=ks) (j:=j) Aa qW;exact⟨yQ Value.bool (by unfold Wj;rw[fZ this];rfl),hF.same⟩;refine rn 1<|Ia (KP ks[j] (hl _<|eQ _) _ (hG.ext hF.same)) ?_;rintro w hF -;refine rn 5 ⟨λhc1=>?_,λhc1=>?_⟩;refine rn 6 ?_;have:=NS (f:=Lib.validD) (ks:=ks) (j:=j) Aa (aS hc1);exact⟨yQ Value.bool (by unfold Wj;rw[this,Bool.and_false];rfl),hF.same⟩;refine rn 5<|Zs 0 (v:=.bool true) hF zZ jX O O O O (by rw[U8,tQ qW]) ?_;rintro w hF -;rw[PO ks j Aa]at hF;have hF:FR w0 [] [(b1,Vc<|U2<|ks.take<|j+1)] w:=hF;refine rn 4<|Zb Uh ?_;refine rn 2<|Ha ⟨_,?_,j+1,O,Aa,Xr Aa hd qW,Uu Aa hv (aS hc1),Va,hF⟩;omega;refine rn 12 ?_;obtain rfl:j=aL ks:=Aa
 rw[List.take_length]at hd hv;exact⟨yQ Value.bool (by unfold Wj;rw[hv,gZ hd];rfl),hF.same⟩
mutual
def To:Tree->Prop|.node _ t ks xs=>aL t<=140737488355328/\(∀k∈ks,aL k<=140737488355328)/\Q6 xs
def Q6:List Tree->Prop|[]=>True|x::xs=>To x/\Q6 xs
end
theorem Bj:∀{xs:List Tree},Q6 xs->∀x∈xs,To x
  | [],_,_,h=>absurd h Da
  | y :: ys, h, x, hx => by
    rw[Q6]at h;rcases oQ.1 hx with rfl|hx
    ·exact h.1
    exact Bj h.2 x hx
def nodeB:Tree->Bool
  | .node k t ks xs =>
    if k=5 then decide (ks=[])&&decide (t=[]) else
    if k=6 then Wj ks (aL xs)&&decide (t=[]) else
    if ks≠[]\/xs≠[] then false else
    if k=1 then decide (t=[]) else
    if k=2 then decide (t=[116,114,117,101]) || decide (t=[102,97,108,115,101]) else
    if k=3 then Bh t else if k=4 then Lib.validD t else if k=7 then Vr t else false
def V_(g:Nat)(q:Tree->Bool):Prop:=∀(x:Tree)(S:Nat->Prop)(w0:World)(cs:List Value),Rep S w0 (Na x) cs->To x->Gl w0->Calls prog g #[.agg cs.toArray] w0 (Za λv w'=>v=.bool (q x)/\Same [] w0 w')
theorem len_pos{α:Type}(l:List α):decide ((0:Int)<(aL l:Int))=decide (l≠[]):=by
  cases l <;> simp
theorem node_c  : V_ 130 nodeB:=by
 rintro⟨k,t,ks,xs⟩ S w0 cs hR hk hG;obtain⟨A,c,B,e,rfl,-,-,hK,hX⟩:=hR.tree_inv;rw[To]at hk;refine Ea func130 ntmps130 ?_;intro hF;refine rn 3 ?_;rintro b1 w hb1 hF -;refine rn 4<|Rb (zs:=.of []) (bQ [0,1,2,3,4,5,6,7,8,9] .nil) hF ?_;intro w hF;refine rn 27 ⟨λhc0=>?_,λhc0=>?_⟩;refine rn 6 ⟨λhg0=>?_,λhg0=>?_⟩;refine rn 8 ⟨?_,hF.same⟩;clear hF hR hK hX hb1;simp_all[nodeB,List.length_pos_iff];refine rn 8 ⟨?_,hF.same⟩;clear hF hR hK hX hb1;simp_all[nodeB,List.length_pos_iff];refine rn 7 ⟨λhc1=>?_,λhc1=>?_⟩;refine rn 7<|Ia (keyed_c ks (aL xs:Nat) S A c (aS hk.2.1) _ (hG.ext hF.same)<|hF.rep hK) ?_;rintro w hF -;refine rn 2 ⟨λhg1=>?_,λhg1=>?_⟩;refine rn 8 ⟨?_,hF.same⟩;clear hF hR hK hX hb1;simp_all[nodeB,List.length_pos_iff];refine rn 8 ⟨?_,hF.same⟩;clear hF hR hK hX hb1;simp_all[nodeB,List.length_pos_iff];refine rn 9 ⟨λhg2=>?_,λhg2=>?_⟩;refine rn 11 ⟨?_,hF.same⟩;clear hF hR hK hX hb1;simp_all[nodeB,List.length_pos_iff];refine rn 5 ⟨λhc2=>?_,λhc2=>?_⟩;refine rn 6 ⟨?_,hF.same⟩;clear hF hR hK hX hb1;simp_all[nodeB,List.length_pos_iff];refine rn 17 ⟨λhc3=>?_,λhc3=>?_⟩;refine rn 9 ⟨?_,hF.same⟩;clear hF hR hK hX hb1;simp_all[nodeB,List.length_pos_iff];refine rn 7 ⟨λhc4=>?_,λhc4=>?_⟩;refine rn 7 ⟨λhg3=>?_,λhg3=>?_⟩;refine rn 8 ⟨?_,hF.same⟩;clear hF hR hK hX hb1;simp_all[nodeB,List.length_pos_iff];refine rn 8 ⟨?_,hF.same⟩;clear hF hR hK hX hb1;simp_all[nodeB,List.length_pos_iff];refine rn 7 ⟨λhc5=>?_,λhc5=>?_⟩;refine rn 4<|Ia (Nu t hk.1 _<|hG.ext hF.same) ?_;rintro w hF -;refine rn 4 ?_;rintro b2 w hb2 hF -;refine rn 10 ⟨?_,hF.same⟩;clear hF hR hK hX hb1;simp_all[nodeB,List.length_pos_iff];refine rn 7 ⟨λhc6=>?_,λhc6=>?_⟩;refine rn 4<|Ia (KP t hk.1 _<|hG.ext hF.same) ?_;rintro w hF -
 refine rn 4 ⟨?_,hF.same⟩;clear hF hR hK hX hb1;simp_all[nodeB,List.length_pos_iff];refine rn 7 ⟨λhc7=>?_,λhc7=>?_⟩;refine rn 4<|Ia (hole_c t hk.1 _<|hG.ext hF.same) ?_;rintro w hF -;refine rn 4 ⟨?_,hF.same⟩;clear hF hR hK hX hb1;simp_all[nodeB,List.length_pos_iff];refine rn 9 ⟨?_,hF.same⟩;clear hF hR hK hX hb1;simp_all[nodeB,List.length_pos_iff]
def Tree.ind{Q:Tree->Prop}(h:∀k t ks xs,(∀x,x∈xs->Q x)->Q (.node k t ks xs))(x:Tree):Q x :=
  Tree.rec (motive_1:=Q) (motive_2:=λxs=>∀x,x∈xs->Q x) (λk t ks xs ih=>h k t ks xs ih) Da
    (λy ys h1 h2=>by
      intro z hz;rcases oQ.1 hz with rfl|hz
      ·exact h1
      exact h2 z hz) x
mutual
def La:Tree->Nat|.node _ _ _ xs=>1+Ra xs
def Ra:List Tree->Nat|[]=>0|x::xs=>La x+Ra xs
end
mutual
def Nb:Tree->Nat|.node _ _ _ xs=>Ac xs+1
def Ac:List Tree->Nat|[]=>0|x::xs=>max (Nb x) (Ac xs)
end
theorem Dj:∀(xs ys:List Tree),Ra (xs++ys)=Ra xs+Ra ys
  | [],ys=>by simp[Ra]
  | x::xs,ys=>by simp[Ra,Dj xs ys,Nat.add_assoc]
theorem Is:∀(xs ys:List Tree),Ac (xs++ys)=max (Ac xs) (Ac ys)
  | [],ys=>by simp[Ac]
  | x::xs,ys=>by simp only[List.cons_append,Ac,Is xs ys];omega
def B2(xs:List Tree)(j:Nat)(hj:j<aL xs):Ra (xs.take (j+1))=Ra (xs.take j)+La xs[j]:=by
  rw[iQ hj,Dj];simp[Ra]
def Ox(xs:List Tree)(j:Nat)(hj:j<aL xs):Ac (xs.take (j+1))=max (Ac (xs.take j)) (Nb xs[j]):=by
  rw[iQ hj,Is];simp[Ac]
theorem Td:∀{xs:List Tree}{x:Tree},x∈xs->La x<=Ra xs
  | [],_,h=>absurd h Da
  | y :: ys, x, h => by
    rw[Ra];rcases oQ.1 h with rfl|h
    ·omega
    have:=Td h;omega
def Wt(x:Tree):1<=La x:=by
  cases x;rw[La];omega
theorem Pf:∀(xs:List Tree),aL xs<=Ra xs
  | []=>by simp[Ra]
  | x::xs=>by have:=Pf xs;have:=Wt x;simp only[Ra,kQ];omega
theorem depth_le(x:Tree):Nb x<=La x:=by
  refine Tree.ind (Q:=λx=>Nb x<=La x) (λk t ks xs ih=>?_) x;have:Ac xs<=Ra xs:=by
    induction xs with
    | nil=>simp[Ac,Ra]
    | cons y ys ihy=>grind [Ac,Ra]
  grind [Nb,La]
theorem Vv(xs:List Tree):Ac xs<=Ra xs:=by
  have:=depth_le<|.node 0 [] [] xs;grind [Nb,La]
def SizeC(x:Tree):Prop:=∀S w0 cs,Rep S w0 (Na x) cs->Calls prog 189 #[.agg cs.toArray] w0 (Za λv w'=>v=J (wr (La x))/\Same [] w0 w')
def PW(k:Int)(t:Str)(ks:List Str)(xs:List Tree)(ih:∀x,x∈xs->SizeC x):SizeC (.node k t ks xs):=by
 intro S w0 cs hR;obtain⟨A,c,B,e,rfl,-,-,-,hX⟩:=hR.tree_inv;have hXl:=hX.slice_len;refine Ea func189 ntmps189 ?_;intro hF;refine rn 3 ?_;rintro b1 w hb1 hF -;refine rn 18<|Sa (λμ σ w=>∃(j:Nat),μ=aL xs-j/\(j<=aL xs)/\AllEq σ [(3,J<|wr<|1+Ra (xs.take j)),(7,.slice B (aL xs) e),(8,J<|(aL xs:Nat)),(9,J<|(j:Int))]/\FR w0 [] [(b1,.cells #[J k,I t,.slice A (aL ks) c,.slice B (aL xs) e] 36)] w) _ ⟨0,O,dZ _,Fz,hF⟩ ?_;rintro μ σ w ⟨j,rfl,hj,hzz,hF⟩;refine Wf hzz 7 ⟨λhc0=>?_,λhc0=>?_⟩;refine rn 6 ?_;obtain⟨ad0,cs0,hA0,hl0,hk0,hx0⟩:=hX.tree_elem (i:=j) Aa;have ho0:=hx0.one_;refine Ba (v:=.pointer<|some<|ad0.add<|j*4) (Ca (i:=(j:Int)) Fd hA0)<|Ba (v:=.agg<|List.toArray cs0) (Ma (l:=cs0) qZ uZ O hl0<|hF.cells0 hk0) ?_;refine Wu (l:=cs0) hF kX wR kD (v:=.agg<|List.toArray cs0) O O (ho0) O ?_;rintro b2 w hb2 hF -;refine rn 4<|Ba (v:=.agg<|List.toArray cs0) (Ma (l:=cs0) qZ uZ O hl0<|hF.cellsAll 0 O) ?_;refine Ia (ih _ (eQ _) _ _ _<|hF.rep hx0) ?_;rintro w hF -;refine Ba (v:=J<|wr<|1+Ra (xs.take<|j+1)) (Cl O O (by rw[NV,B2 xs j Aa,Int.natCast_add,Int.add_assoc]))<|rn 5 ?_;refine Zb Uh<|rn 2 ?_;refine Ha ⟨_,?_,j+1,O,Aa,Va,hF.drop 1⟩;omega;refine rn 9 ?_;obtain rfl:j=aL xs:=Aa
 exact⟨by simp[La],hF.same⟩
def size_c(x:Tree):SizeC x:=Tree.ind PW x
def MN(x:Tree):Prop:=La x<=1000000000->∀S w0 cs,Rep S w0 (Na x) cs->Calls prog 190 #[.agg cs.toArray] w0 (Za λv w'=>v=J (Nb x:Nat)/\Same [] w0 w')
def JO(k:Int)(t:Str)(ks:List Str)(xs:List Tree)(ih:∀x,x∈xs->MN x):MN (.node k t ks xs):=by
 intro hsz S w0 cs hR;obtain⟨A,c,B,e,rfl,-,-,-,hX⟩:=hR.tree_inv;have hXl:=hX.slice_len;have hdl:=Vv xs;rw[La]at hsz;refine Ea func190 ntmps190 ?_;intro hF;refine rn 3 ?_;rintro b1 w hb1 hF -;refine rn 18<|Sa (λμ σ w=>∃(j:Nat),μ=aL xs-j/\(j<=aL xs)/\AllEq σ [(3,J<|(Ac (xs.take j):Nat)),(7,.slice B (aL xs) e),(8,J<|(aL xs:Nat)),(9,J<|(j:Int))]/\FR w0 [] [(b1,.cells #[J k,I t,.slice A (aL ks) c,.slice B (aL xs) e] 36)] w) _ ⟨0,O,dZ _,Fz,hF⟩ ?_;rintro μ σ w ⟨j,rfl,hj,hzz,hF⟩;refine Wf hzz 7 ⟨λhc0=>?_,λhc0=>?_⟩;refine rn 6 ?_;obtain⟨ad0,cs0,hA0,hl0,hk0,hx0⟩:=hX.tree_elem (i:=j) Aa;have ho0:=hx0.one_;refine Ba (v:=.pointer<|some<|ad0.add<|j*4) (Ca (i:=(j:Int)) Fd hA0)<|Ba (v:=.agg<|List.toArray cs0) (Ma (l:=cs0) qZ uZ O hl0<|hF.cells0 hk0) ?_;refine Wu (l:=cs0) hF kX wR kD (v:=.agg<|List.toArray cs0) O O (ho0) O ?_;rintro b2 w hb2 hF -;refine rn 4<|Ba (v:=.agg<|List.toArray cs0) (Ma (l:=cs0) qZ uZ O hl0<|hF.cellsAll 0 O) ?_;refine Ia (ih _ (eQ _) zW _ _ _<|hF.rep hx0) ?_;rintro w hF -;refine Ba (v:=J<|(Ac (xs.take<|j+1):Nat)) jN ?_;refine rn 5<|Zb Uh ?_;refine rn 2<|Ha ⟨_,?_,j+1,O,Aa,Va,hF.drop 1⟩;omega;refine rn 5 ?_;have eT:xs.take j=xs:=eZ Aa;refine Ba (v:=J<|(Nb (.node k t ks xs):Nat)) (Cl O O (by rw[eT,Nb];exact Gd Aa Aa Aa)) ?_;refine rn 4 ?_;exact⟨O,hF.same⟩
def depth_c(x:Tree):MN x:=Tree.ind JO x
def Same.cell{w w':World}{a:Addr}{v:Value}(h:Same [] w w')(hc:w.cell? a=some v):w'.cell? a=some v:=((FR.start w []).ext h).cell0 hc
mutual
def Uc(q:Tree->Bool):Tree->Bool|.node k t ks xs=>q (.node k t ks xs)&&Vp q xs
def Vp(q:Tree->Bool):List Tree->Bool|[]=>true|x::xs=>Uc q x&&Vp q xs
end
theorem Mq(q:Tree->Bool):∀xs:List Tree,Vp q xs = !(xs.any λx=>!Uc q x)
  | []=>rfl
  | x::xs=>by rw[Vp,Mq q xs];simp
def EachC(w0:World)(bb:Nat)(xs:List Tree)(q:Tree->Bool):Prop:=∀x,x∈xs->∀S w cs,Same [] w0 w->Rep S w (Na x) cs->Calls prog 192 #[.agg cs.toArray,V bb] w (Za λv w'=>v=.bool (q x)/\Same [] w w')
def EachC.ext{w0 w:World}{bb:Nat}{xs:List Tree}{q:Tree->Bool}(h:EachC w0 bb xs q)(hs:Same [] w0 w):EachC w bb xs q:=λx hx S w' cs hw=>h x hx S w' cs<|hs.trans hw
def MT{q:Tree->Bool}{xs:List Tree}{j:Nat}(h:j<aL xs)(hn:(xs.take j).any q=false)(hq:q xs[j]=false):(xs.take (j+1)).any q=false:=by
  rw[iQ h,List.any_append,hn];simp[hq]
def Mw(g:Nat)(q:Tree->Bool)(x:Tree):Prop:=∀S w0 cs,Rep S w0 (Na x) cs->To x->Gl w0->Calls prog 129 #[.agg cs.toArray,.func (.func g) #[] #[]] w0 (Za λv w'=>v=.bool (Uc q x)/\Same [] w0 w')
def SI(xs:List Tree)(q:Tree->Bool)(bb:Nat)(B:Option Addr)(e:Nat)(S:Nat->Prop)(w0:World)(hX:Rep S w0 (.slice (Hc xs)) [.slice B (aL xs) e])(hq:EachC w0 bb xs q):Calls prog 240 #[.slice B (aL xs) e,.func (.func 192) #[] #[V bb]] w0 (Za λv w'=>∃n:Int,v=J n/\decide (0<=n)=xs.any q/\Same [] w0 w'):=by
 have hXl:=hX.slice_len;refine Ea func240 ntmps240 ?_;intro hF;refine rn 14<|Sa (λμ σ w=>∃(j:Nat),μ=aL xs-j/\(j<=aL xs)/\((xs.take j).any q=false)/\AllEq σ [(0,.slice B (aL xs) e),(1,.func (.func 192) #[] #[.pointer<|some<|⟨bb,0,none⟩]),(7,J<|(aL xs:Nat)),(8,J<|(j:Int))]/\FR w0 [] [] w) _ ⟨0,O,dZ _,Da,Va,hF⟩ ?_;rintro μ σ w ⟨j,rfl,hj,hn,hzz,hF⟩;refine Wf hzz 7 ⟨λhc0=>?_,λhc0=>?_⟩;refine rn 15 ?_;obtain⟨ad0,cs0,hA0,hl0,hk0,hx0⟩:=hX.tree_elem (i:=j) Aa;have ho0:=hx0.one_;refine Ba (v:=.pointer<|some<|ad0.add<|j*4) (Ca (i:=(j:Int)) Fd hA0)<|Ba (v:=.agg<|List.toArray cs0) (Ma (l:=cs0) qZ uZ O hl0<|hF.cells0 hk0) ?_;refine Vg hF (hq _ (List.getElem_mem (l:=xs) (n:=j) Aa) _ _ _ hF.same<|hF.rep hx0) (Wn O en_192 O O) ?_;intro w hF;refine rn 3 ⟨λhc1=>?_,λhc1=>?_⟩;refine rn 7 ?_;exact⟨_,O,by rw[List.any_eq_true.2 ⟨_,List.getElem_mem (l:=xs) (n:=j) Aa,hc1⟩];simp,hF.same⟩;refine rn 4<|Zb Uh ?_;refine rn 2<|Ha ⟨_,?_,j+1,O,Aa,MT Aa hn hc1,Va,hF⟩;omega;refine rn 8 ?_;have eT:xs.take j=xs:=eZ Aa;rw[eT]at hn;exact⟨_,O,by rw[hn];decide,hF.same⟩
def Ht(xs:List Tree)(q:Tree->Bool)(bb:Nat)(B:Option Addr)(e:Nat)(S:Nat->Prop)(w0:World)(hX:Rep S w0 (.slice (Hc xs)) [.slice B (aL xs) e])(hq:EachC w0 bb xs q):Calls prog 191 #[.slice B (aL xs) e,.func (.func 192) #[] #[V bb]] w0 (Za λv w'=>v=.bool (xs.any q)/\Same [] w0 w'):=by
 refine Ea func191 ntmps191 ?_;intro hF;refine rn 9<|Fc (SI xs q bb B e S _ (hF.rep hX)<|hq.ext hF.same) ?_;rintro _ w ⟨n,rfl,hn,hE⟩;have hF:=hF.ext hE;refine rn 5 ?_;exact⟨yQ Value.bool hn,hF.same⟩
def AA(g:Nat)(q:Tree->Bool)(x:Tree)(h:Mw g q x)(bb:Nat)(S:Nat->Prop)(w0:World)(cs:List Value)(hR:Rep S w0 (Na x) cs)(hk:To x)(hG:Gl w0)(hb:w0.cell? ⟨bb,0,none⟩=some (.func (.func g) #[] #[])):Calls prog 192 #[.agg cs.toArray,V bb] w0 (Za λv w'=>v=.bool (!Uc q x)/\Same [] w0 w'):=by
 have hl:aL cs=4:=hR.length.trans<|Bb x;have ho:=hR.one_;refine Ea func192 ntmps192 ?_;intro hF;refine rn 2<|Gk (v:=.agg<|List.toArray cs) (cs:=(List.toArray cs)) hF O O ?_;rintro b1 w hb1 hF -;refine rn 5<|Ba (v:=.agg<|List.toArray cs) (Ma (l:=cs) qZ uZ O hl<|hF.cellsAll 0 O)<|Ba (v:=.func (.func g) #[] #[]) (Xa isAgg76<|hF.cell0 hb) ?_;refine Ia (h S _ cs (hF.rep hR) hk<|hG.ext hF.same) ?_;rintro w hF -;refine rn 5 ?_;exact⟨O,hF.same⟩
theorem BE(q:Tree->Bool)(hp:V_ 147 q)(k:Int)(t:Str)(ks:List Str)(xs:List Tree)(ih:∀x,x∈xs->Mw 147 q x):Mw 147 q (.node k t ks xs):=by
 intro S w0 cs hR hk hG;have hk':=hk;rw[To]at hk';obtain⟨A,c,B,e,rfl,-,-,hK,hX⟩:=hR.tree_inv;refine Ea func129 ntmps129 ?_;intro hF;refine rn 3 ?_;rintro b1 w hb1 hF -;refine rn 1 ?_;rintro b2 w hb2 hF -;refine rn 7<|Vg hF (hp (.node k t ks xs) S _ _ (hF.rep hR) hk<|hG.ext hF.same) (Wn O en_147 O O) ?_;intro w hF;refine rn 2 ⟨λhg0=>?_,λhg0=>?_⟩;refine rn 2<|Ba (v:=.func (.func 192) #[] #[V b2]) Pi ?_;refine Ia (Ht xs (λx=>!Uc q x) b2 B e S _ (hF.rep hX) λx hx S' w' cs' hs hr=>AA 147 q x (ih x hx) b2 S' w' cs' hr (Bj hk'.2.2 x hx) ((hG.ext hF.same).ext hs)<|hs.cell<|hF.cell 0 O O) ?_;rintro w hF -;refine rn 6 ⟨?_,hF.same⟩;rw[Uc,Mq];simp_all;refine rn 10 ⟨?_,hF.same⟩;rw[Uc,Mq];simp_all
def JU(q:Tree->Bool)(hp:V_ 147 q)(x:Tree):Mw 147 q x:=Tree.ind (BE q hp) x
theorem QC(q:Tree->Bool)(hp:V_ 130 q)(k:Int)(t:Str)(ks:List Str)(xs:List Tree)(ih:∀x,x∈xs->Mw 130 q x):Mw 130 q (.node k t ks xs):=by
 intro S w0 cs hR hk hG;have hk':=hk;rw[To]at hk';obtain⟨A,c,B,e,rfl,-,-,hK,hX⟩:=hR.tree_inv;refine Ea func129 ntmps129 ?_;intro hF;refine rn 3 ?_;rintro b1 w hb1 hF -;refine rn 1 ?_;rintro b2 w hb2 hF -;refine rn 7<|Vg hF (hp (.node k t ks xs) S _ _ (hF.rep hR) hk<|hG.ext hF.same) (Wn O TY O O) ?_;intro w hF;refine rn 2 ⟨λhg0=>?_,λhg0=>?_⟩;refine rn 2<|Ba (v:=.func (.func 192) #[] #[V b2]) Pi ?_;refine Ia (Ht xs (λx=>!Uc q x) b2 B e S _ (hF.rep hX) λx hx S' w' cs' hs hr=>AA 130 q x (ih x hx) b2 S' w' cs' hr (Bj hk'.2.2 x hx) ((hG.ext hF.same).ext hs)<|hs.cell<|hF.cell 0 O O) ?_;rintro w hF -;refine rn 6 ⟨?_,hF.same⟩;rw[Uc,Mq];simp_all;refine rn 10 ⟨?_,hF.same⟩;rw[Uc,Mq];simp_all
def IV(q:Tree->Bool)(hp:V_ 130 q)(x:Tree):Mw 130 q x:=Tree.ind (QC q hp) x
def rnodeB(x:Tree):Bool:=decide (x.kind≠7)&&nodeB x
def Yj(x:Tree):Bool:=decide (La x<=4096)&&decide (Nb x<=32)
def De(x:Tree):Bool:=Yj x&&Uc nodeB x
def Id(x:Tree):Bool:=Yj x&&Uc rnodeB x
def BX{n:Nat}(h:n<=1000000000):wr (n:Int)=(n:Int):=Ge Aa Aa
theorem rnode_c  : V_ 147 rnodeB:=by
 rintro⟨k,t,ks,xs⟩ S w0 cs hR hk hG;obtain⟨A,c,B,e,rfl,-,-,hK,hX⟩:=hR.tree_inv;refine Ea func147 ntmps147 ?_;intro hF;refine rn 3 ?_;rintro b1 w hb1 hF -;refine rn 10 ⟨λhg0=>?_,λhg0=>?_⟩;refine rn 1<|Ia (node_c (.node k t ks xs) S _ _ (hF.rep hR) hk<|hG.ext hF.same) ?_;rintro w hF -;refine rn 5 ⟨?_,hF.same⟩;simp_all[rnodeB,Tree.kind];refine rn 7 ⟨?_,hF.same⟩;simp_all[rnodeB,Tree.kind]
def size_v(x:Tree)(hsz:La x<=1000000000)(S:Nat->Prop)(w0:World)(cs:List Value)(hR:Rep S w0 (Na x) cs):Calls prog 189 #[.agg cs.toArray] w0 (Za λv w'=>v=J (La x:Nat)/\Same [] w0 w'):=by
  have h:=size_c x S w0 cs hR
  rwa [BX hsz]at h
def YO(x:Tree)(hsz:La x<=1000000000)(S:Nat->Prop)(w0:World)(cs:List Value)(hR:Rep S w0 (Na x) cs):Calls prog 128 #[.agg cs.toArray] w0 (Za λv w'=>v=.bool (Yj x)/\Same [] w0 w'):=by
 have hl:aL cs=4:=hR.length.trans<|Bb x;have ho:=hR.one_;refine Ea func128 ntmps128 ?_;intro hF;refine rn 2<|Gk (v:=.agg<|List.toArray cs) (cs:=(List.toArray cs)) hF O O ?_;rintro b1 w hb1 hF -;refine rn 5<|Ba (v:=.agg<|List.toArray cs) (Ma (l:=cs) qZ uZ O hl<|hF.cellsAll 0 O) ?_;refine Ia (size_v x hsz S _ cs<|hF.rep hR) ?_;rintro w hF -;refine rn 3 ⟨λhg0=>?_,λhg0=>?_⟩;refine Ba (v:=.agg<|List.toArray cs) (Ma (l:=cs) qZ uZ O hl<|hF.cellsAll 0 O)<|Ia (depth_c x hsz S _ cs<|hF.rep hR) ?_;rintro w hF -;refine rn 6 ⟨yQ Value.bool ?_,hF.same⟩;unfold Yj
 first|(rw[gZ (by omega:La x<=4096)];exact decide_eq_decide.2 Aa)|(rw[fZ (by omega:¬La x<=4096)];rfl)
 refine rn 8 ⟨yQ Value.bool ?_,hF.same⟩;unfold Yj
 first|(rw[gZ (by omega:La x<=4096)];exact decide_eq_decide.2 Aa)|(rw[fZ (by omega:¬La x<=4096)];rfl)
theorem C4(x:Tree)(hsz:La x<=1000000000)(S:Nat->Prop)(w0:World)(cs:List Value)(hR:Rep S w0 (Na x) cs)(hk:To x)(hG:Gl w0):Calls prog 89 #[.agg cs.toArray] w0 (Za λv w'=>v=.bool (Id x)/\Same [] w0 w'):=by
 have hl:aL cs=4:=hR.length.trans<|Bb x;have ho:=hR.one_;refine Ea func89 ntmps89 ?_;intro hF;refine rn 2<|Gk (v:=.agg<|List.toArray cs) (cs:=(List.toArray cs)) hF O O ?_;rintro b1 w hb1 hF -;refine rn 5<|Ba (v:=.agg<|List.toArray cs) (Ma (l:=cs) qZ uZ O hl<|hF.cellsAll 0 O) ?_;refine Ia (YO x hsz S _ cs<|hF.rep hR) ?_;rintro w hF -;refine rn 2 ⟨λhg0=>?_,λhg0=>?_⟩;refine Ba (v:=.agg<|List.toArray cs) (Ma (l:=cs) qZ uZ O hl<|hF.cellsAll 0 O)<|Ia (JU rnodeB rnode_c x S _ cs (hF.rep hR) hk<|hG.ext hF.same) ?_;rintro w hF -;refine rn 5 ?_;exact⟨yQ Value.bool (by unfold Id;simp_all),hF.same⟩;refine rn 7 ?_;exact⟨yQ Value.bool (by unfold Id;simp_all),hF.same⟩
theorem L5(x:Tree)(hsz:La x<=1000000000)(S:Nat->Prop){w0:World}(cs:List Value)(hR:Rep S w0 (Na x) cs)(hk:To x)(hG:Gl w0):Calls prog 81 #[.agg cs.toArray] w0 (Za λv w'=>v=.bool (De x)/\Same [] w0 w'):=by
 have hl:aL cs=4:=hR.length.trans<|Bb x;have ho:=hR.one_;refine Ea func81 ntmps81 ?_;intro hF;refine rn 2<|Gk (v:=.agg<|List.toArray cs) (cs:=(List.toArray cs)) hF O O ?_;rintro b1 w hb1 hF -;refine rn 5<|Ba (v:=.agg<|List.toArray cs) (Ma (l:=cs) qZ uZ O hl<|hF.cellsAll 0 O) ?_;refine Ia (YO x hsz S _ cs<|hF.rep hR) ?_;rintro w hF -;refine rn 2 ⟨λhg0=>?_,λhg0=>?_⟩;refine Ba (v:=.agg<|List.toArray cs) (Ma (l:=cs) qZ uZ O hl<|hF.cellsAll 0 O)<|Ia (IV nodeB node_c x S _ cs (hF.rep hR) hk<|hG.ext hF.same) ?_;rintro w hF -;refine rn 5 ?_;exact⟨yQ Value.bool (by unfold De;simp_all),hF.same⟩;refine rn 7 ?_;exact⟨yQ Value.bool (by unfold De;simp_all),hF.same⟩
def MapRep(S:Nat->Prop)(w:World)(xs:List Tree)(l:MapL):Prop:=∀i (h:i<aL l),∃cs:List Value,l[i].2=.agg cs.toArray/\∃h2:i<aL xs,Rep S w (Na xs[i]) cs
def MapRep.nil(S:Nat->Prop)(w:World)(xs:List Tree):MapRep S w xs []:=λi h=>absurd h Da
theorem MapRep.snoc{S:Nat->Prop}{w:World}{xs:List Tree}{l:MapL}{k:Str}{cs:List Value}(h:MapRep S w xs l)(hl:aL l<aL xs)(hr:Rep S w (Na xs[aL l]) cs):MapRep S w xs (l++[(k,.agg cs.toArray)]):=by
  intro i hi;rw[dQ,List.length_singleton]at hi;by_cases he:i<aL l
  ·obtain⟨c, h1, h2, h3⟩ := h i he
   grind
  grind
theorem HN{l:MapL}{ks:List Str}{j:Nat}(h:j<aL ks)(hl:l.map (·.1)=ks.take j)(hn:ks.Nodup):Ie l ks[j]=none:=by grind [Pr,Ie]
theorem DW{l:MapL}{ks:List Str}{j:Nat}{v:Value}(h:j<aL ks)(hl:l.map (·.1)=ks.take j):(l++[(ks[j],v)]).map (·.1)=ks.take (j+1):=qX
theorem MZ{l:MapL}{ks:List Str}{j:Nat}(h:j<=aL ks)(hl:l.map (·.1)=ks.take j):aL l=j:=by
  have:=yQ List.length hl;grind
def EU(k:Int)(t:Str)(ks:List Str)(xs:List Tree)(hn:ks.Nodup)(hlen:aL ks=aL xs)(S:Nat->Prop)(w0:World)(cs:List Value)(hR:Rep S w0 (Na (.node k t ks xs)) cs):Calls prog 137 #[.agg cs.toArray] w0 (Za λv w'=>∃(b:Nat)(l:MapL),v=.map (some b)/\w0.heap.size<=b/\w'.heap[b]? = some (Vc l)/\l.map (·.1)=ks/\MapRep S w' xs l/\Same [] w0 w'):=by
 obtain⟨A,c,B,e,rfl,-,-,hK,hX⟩:=hR.tree_inv;have hXl:=hX.slice_len;have hKl:=hK.slice_len;refine Ea func137 ntmps137 ?_;intro hF;refine rn 3 ?_;rintro b1 w hb1 hF -;refine rn 8<|Wr (v:=λb=>.map<|some b) hF (XA underlying166 O) ?_;rintro b2 w hb2 hF -;refine rn 13 (Sa (λμ σ w=>∃(j:Nat),∃(l:MapL),μ=aL ks-j/\(j<=aL ks)/\(l.map (·.1)=ks.take j)/\(MapRep S w0 xs l)/\AllEq σ [(1,V b1),(3,.map<|some b2),(11,.slice A (aL ks) c),(12,J<|(aL ks:Nat)),(13,J<|(j:Int))]/\FR w0 [] [(b2,Vc l),(b1,.cells #[J k,I t,.slice A (aL ks) c,.slice B (aL xs) e] 36)] w) _ ⟨0,[],O,dZ _,Da,MapRep.nil _ _ _,Va,hF⟩ ?_);rintro μ σ w ⟨j,l,rfl,hj,hl,hr,hzz,hF⟩;have hll:=MZ hj hl;refine Wf hzz 7 ⟨λhc0=>?_,λhc0=>?_⟩;refine rn 7 ?_;obtain⟨ad0,hA0,hk0,hx0⟩:=hK.str_elem (i:=j) Aa;refine Ba (v:=.pointer<|some<|ad0.add<|j*1) (Ca (i:=(j:Int)) Ii hA0)<|Ba (v:=I<|ks[j]) (Xa sZ<|hF.cell0 hk0) ?_;refine rn 10 ?_;obtain⟨ad1,cs1,hA1,hl1,hk1,hx1⟩:=hX.tree_elem (i:=j) Aa;have ho1:=hx1.one_;refine Ba (v:=.pointer<|some<|ad1.add<|j*4) (Ca (i:=(j:Int)) Fd hA1)<|Ba (v:=.agg<|List.toArray cs1) (Ma (l:=cs1) qZ uZ O hl1<|hF.cells0 hk1) ?_;refine Zs 0 (v:=.agg<|List.toArray cs1) hF underlying166 jX O O O O (HN Aa hl hn) ?_;rintro w hF -;have hF:FR w0 [] [(b2,Vc<|l++[(ks[j],.agg<|List.toArray cs1)]),(b1,.cells #[J k,I t,.slice A (aL ks) c,.slice B (aL xs) e] 36)] w:=hF;refine rn 4<|Zb Uh ?_;refine rn 2<|Ha ⟨_,?_,j+1,l++[(ks[j],.agg<|List.toArray cs1)],O,Aa,DW Aa hl,hr.snoc Aa (by simpa only[hll]using hx1),Va,hF⟩;omega;refine rn 9 ?_;refine⟨b2,l,O,by have:=hF.ge (i:=0) O;exact this,hF.heap (i:=0) O,?_,?_,hF.same⟩;rw[hl];exact eZ Aa;intro i hi;obtain⟨cs,h1,h2,h3⟩:=hr i hi;exact⟨cs,h1,h2,hF.rep h3⟩
def Dh:List Str->List Tree->Str->Option Tree
  | k::ks,x::xs,key=>if k=key then some x else Dh ks xs key
  | _,_,_=>none
theorem MapRep.tail{S:Nat->Prop}{w:World}{x:Tree}{xs:List Tree}{p:Str × Value}{l:MapL}(h:MapRep S w (x::xs) (p::l)):MapRep S w xs l:=by
  intro i hi;obtain⟨cs,h1,h2,h3⟩:=h (i+1) (aS hi);grind
theorem J8{S:Nat->Prop}{w:World}(key:Str):∀{ks:List Str}{xs:List Tree}{l:MapL},l.map (·.1)=ks->MapRep S w xs l ->
    (Ie l key=none/\Dh ks xs key=none)\/∃(cs:List Value)(y:Tree),Ie l key=some (.agg cs.toArray)/\Dh ks xs key=some y/\y∈xs/\Rep S w (Na y) cs
  | ks, xs, [], hk, _ => by
    left;simp only[List.map_nil]at hk;subst hk;exact⟨O,by cases xs <;> rfl⟩
  | ks, [], p :: l, hk, hm => by
    obtain⟨cs,h1,h2,h3⟩:=hm 0 Da;simp at h2
  | ks, x :: xs, p :: l, hk, hm => by
    rw[lZ]at hk;subst hk;by_cases h:p.1=key
    ·right
     obtain⟨cs,h1,h2,h3⟩:=hm 0 Da;refine⟨cs,x,?_,by simp[Dh,h],Da,h3⟩;simp only[List.getElem_cons_zero]at h1;simp[Ie,h,h1]
    have e1 : Ie (p :: l) key = Ie l key := by simp[Ie, h]
    have e2:Dh (p.1::l.map (·.1)) (x::xs) key=Dh (l.map (·.1)) xs key:=by simp[Dh,h]
    rw[e1,e2];rcases J8 key rfl hm.tail with h|⟨cs,y,h1,h2,h3,h4⟩
    ·exact .inl h
    exact .inr ⟨cs,y,h1,h2,by simp[h3],h4⟩
def BothC(w0:World)(g:Nat)(xs ys:List Tree)(q:Tree->Tree->Bool):Prop:=∀x,x∈xs->∀y,y∈ys->∀S S' w cs ct,Same [] w0 w->Rep S w (Na x) cs->Rep S' w (Na y) ct->Calls prog g #[.agg cs.toArray,.agg ct.toArray] w (Za λv w'=>v=.bool (q x y)/\Same [] w w')
def BothC.ext{w0 w:World}{g:Nat}{xs ys:List Tree}{q:Tree->Tree->Bool}(h:BothC w0 g xs ys q)(hs:Same [] w0 w):BothC w g xs ys q:=λx hx y hy S S' w' cs ct hw=>h x hx y hy S S' w' cs ct<|hs.trans hw
def MapRep.ext{S:Nat->Prop}{w w':World}{xs:List Tree}{l:MapL}(h:MapRep S w xs l)(hs:Same [] w w'):MapRep S w' xs l:=λi hi=>by
  obtain⟨cs,h1,h2,h3⟩:=h i hi;exact⟨cs,h1,h2,h3.ext hs⟩
def Same.heap{w w':World}{b:Nat}{o:Obj}(hs:Same [] w w')(h:w.heap[b]? = some o):w'.heap[b]? = some o:=(hs.block b (Pa h) Da).trans h
theorem F_{q:Tree->Bool}:∀{xs:List Tree},Vp q xs=true->∀x∈xs,Uc q x=true
  | [],_,_,h=>absurd h Da
  | y :: ys, h, x, hx => by
    rw[Vp,vQ]at h;rcases oQ.1 hx with rfl|hx
    ·exact h.1
    exact F_ h.2 x hx
theorem Xe{q:Tree->Bool}{k:Int}{t:Str}{ks:List Str}{xs:List Tree}(h:Uc q (.node k t ks xs)=true):q (.node k t ks xs)=true/\∀x∈xs,Uc q x=true:=by grind [Uc,F_]
theorem Dv{t:Str}{ks:List Str}{xs:List Tree}(h:nodeB (.node 6 t ks xs)=true):ks.Nodup/\aL ks=aL xs:=by grind [nodeB,Wj]
def Al{α:Type}(f:α->α->Int):List α->List α->Int
  | [],[]=>0
  | [],_::_=>-1
  | _::_,[]=>1
  | x::xs,y::ys=>if f x y≠0 then f x y else Al f xs ys
def J_{α:Type}{f:α->α->Int}{xs ys:List α}{j:Nat}(h:j<aL xs)(h2:j<aL ys)(hq:f xs[j] ys[j]=0):Al f (xs.drop j) (ys.drop j)=Al f (xs.drop (j+1)) (ys.drop (j+1)):=by rw[List.drop_eq_getElem_cons h,List.drop_eq_getElem_cons h2,Al,tQ (aS hq)]
def KR{α:Type}{f:α->α->Int}{xs ys:List α}{j:Nat}(h:j<aL xs)(h2:j<aL ys)(hq:f xs[j] ys[j]≠0):Al f (xs.drop j) (ys.drop j)=f xs[j] ys[j]:=by rw[List.drop_eq_getElem_cons h,List.drop_eq_getElem_cons h2,Al,uQ hq]
def X9{α:Type}{f:α->α->Int}{xs ys:List α}{j:Nat}(h:j<aL xs)(h2:aL ys<=j):Al f (xs.drop j) (ys.drop j)=1:=by rw[List.drop_eq_getElem_cons h,List.drop_eq_nil_of_le h2,Al]
def E_{α:Type}{f:α->α->Int}{xs ys:List α}{j:Nat}(h:aL xs<=j)(h2:j<aL ys):Al f (xs.drop j) (ys.drop j) = -1:=by rw[List.drop_eq_getElem_cons h2,List.drop_eq_nil_of_le h,Al]
def BI{α:Type}{f:α->α->Int}{xs ys:List α}{j:Nat}(h:aL xs<=j)(h2:aL ys<=j):Al f (xs.drop j) (ys.drop j)=0:=by rw[List.drop_eq_nil_of_le h2,List.drop_eq_nil_of_le h,Al]
def BothI(w0:World)(g:Nat)(xs ys:List Tree)(q:Tree->Tree->Int):Prop:=∀x,x∈xs->∀y,y∈ys->∀S S' w cs ct,Same [] w0 w->Rep S w (Na x) cs->Rep S' w (Na y) ct->Calls prog g #[.agg cs.toArray,.agg ct.toArray] w (Za λv w'=>v=J (q x y)/\Same [] w w')
def BothI.ext{w0 w:World}{g:Nat}{xs ys:List Tree}{q:Tree->Tree->Int}(h:BothI w0 g xs ys q)(hs:Same [] w0 w):BothI w g xs ys q:=λx hx y hy S S' w' cs ct hw=>h x hx y hy S S' w' cs ct<|hs.trans hw
def G7(q:Tree->Tree->Int)(xs ys:List Tree)(B B':Option Addr)(e e':Nat)(S S':Nat->Prop)(w0:World)(hX:Rep S w0 (.slice (Hc xs)) [.slice B (aL xs) e])(hY:Rep S' w0 (.slice (Hc ys)) [.slice B' (aL ys) e'])(hq:BothI w0 82 xs ys q):Calls prog 200 #[.slice B (aL xs) e,.slice B' (aL ys) e',.func (.func 82) #[] #[]] w0 (Za λv w'=>v=J (Al q xs ys)/\Same [] w0 w'):=by
 have hXl:=hX.slice_len;have hYl:=hY.slice_len;refine Ea func200 ntmps200 ?_;intro hF;refine rn 14<|Sa (λμ σ w=>∃(j:Nat),μ=aL xs-j/\(j<=aL xs)/\(j<=aL ys)/\(Al q xs ys=Al q (xs.drop j) (ys.drop j))/\AllEq σ [(0,.slice B (aL xs) e),(1,.slice B' (aL ys) e'),(2,.func (.func 82) #[] #[]),(11,.slice B (aL xs) e),(12,J<|(aL xs:Nat)),(13,J<|(j:Int))]/\FR w0 [] [] w) _ ⟨0,O,dZ _,dZ _,Da,Va,hF⟩ ?_;rintro μ σ w ⟨j,rfl,hj,hj2,hc,hzz,hF⟩;refine Wf hzz 7 ⟨λhc0=>?_,λhc0=>?_⟩;refine rn 7 ?_;obtain⟨ad0,cs0,hA0,hl0,hk0,hx0⟩:=hX.tree_elem (i:=j) Aa;have ho0:=hx0.one_;refine Ba (v:=.pointer<|some<|ad0.add<|j*4) (Ca (i:=(j:Int)) Fd hA0)<|Ba (v:=.agg<|List.toArray cs0) (Ma (l:=cs0) qZ uZ O hl0<|hF.cells0 hk0) ?_;refine rn 1 ?_;rintro b1 w hb1 hF -;refine rn 1 ?_;refine Ye 0 (l:=cs0) (cs':=(List.toArray cs0)) hF wR O (v:=.agg<|List.toArray cs0) O O (ho0) O (by rw[hl0];exact Nat.le_of_ble_eq_true O) (Ij kD) ?_;rintro w hF -;refine rn 12 ⟨λhc1=>?_,λhc1=>?_⟩;refine rn 6 ?_;exact⟨yQ (Value.int .i64) (by rw[hc,X9 Aa Aa]),hF.same⟩;refine rn 6 ?_;obtain⟨ad1,cs1,hA1,hl1,hk1,hx1⟩:=hY.tree_elem (i:=j) Aa;have ho1:=hx1.one_;refine Ba (v:=.pointer<|some<|ad1.add<|j*4) (Ca (i:=(j:Int)) Fd hA1)<|Ba (v:=.agg<|List.toArray cs1) (Ma (l:=cs1) qZ uZ O hl1<|hF.cells0 hk1) ?_;refine Wu (l:=cs1) hF kX (by rw[hl1];exact uZ) (by rw[hl1];rfl) (v:=.agg<|List.toArray cs1) O O (ho1) O ?_;rintro b2 w hb2 hF -;refine rn 5<|Ba (v:=.agg<|List.toArray cs0) (Ma (l:=cs0) qZ uZ O hl0<|hF.cellsAll 1 O)<|Ba (v:=.agg<|List.toArray cs1) (Ma (l:=cs1) qZ uZ O hl1<|hF.cellsAll 0 O) ?_;refine Vg hF (hq _ (List.getElem_mem (l:=xs) (n:=j) Aa) _ (List.getElem_mem (l:=ys) (n:=j) Aa) _ _ _ _ _ hF.same (hF.rep hx0)<|hF.rep hx1) (Fh O en_82 O O O) ?_
 intro w hF;refine rn 10 ⟨λhc2=>?_,λhc2=>?_⟩;refine rn 7 ?_;exact⟨yQ (Value.int .i64) (by rw[hc,KR Aa Aa (aS hc2)]),hF.same⟩;refine rn 4<|Zb Uh ?_;refine rn 2<|Ha ⟨_,?_,j+1,O,Aa,Aa,hc.trans<|J_ Aa Aa (aS hc2),Va,hF.su⟩;omega;refine rn 13 ⟨λhc3=>?_,λhc3=>?_⟩;refine rn 6 ?_;exact⟨yQ (Value.int .i64) (by rw[hc,E_ Aa Aa]),hF.same⟩;refine rn 8 ?_;exact⟨yQ (Value.int .i64) (by rw[hc,BI Aa Aa]),hF.same⟩
def D9(xs ys:List Str)(A A':Option Addr)(c c':Nat)(S S':Nat->Prop)(w0:World)(hX:Rep S w0 (Ee xs) [.slice A (aL xs) c])(hY:Rep S' w0 (Ee ys) [.slice A' (aL ys) c']):Calls prog 199 #[.slice A (aL xs) c,.slice A' (aL ys) c',.func (.func 92) #[] #[]] w0 (Za λv w'=>v=J (Al Lib.compareBytes xs ys)/\Same [] w0 w'):=by
 have hXl:=hX.slice_len;have hYl:=hY.slice_len;refine Ea func199 ntmps199 ?_;intro hF;refine rn 14<|Sa (λμ σ w=>∃(j:Nat),μ=aL xs-j/\(j<=aL xs)/\(j<=aL ys)/\(Al Lib.compareBytes xs ys=Al Lib.compareBytes (xs.drop j) (ys.drop j))/\AllEq σ [(0,.slice A (aL xs) c),(1,.slice A' (aL ys) c'),(2,.func (.func 92) #[] #[]),(11,.slice A (aL xs) c),(12,J<|(aL xs:Nat)),(13,J<|(j:Int))]/\FR w0 [] [] w) _ ⟨0,O,dZ _,dZ _,Da,Va,hF⟩ ?_;rintro μ σ w ⟨j,rfl,hj,hj2,hc,hzz,hF⟩;refine Wf hzz 7 ⟨λhc0=>?_,λhc0=>?_⟩;refine rn 7 ?_;obtain⟨ad0,hA0,hk0,hx0⟩:=hX.str_elem (i:=j) Aa;refine Ba (v:=.pointer<|some<|ad0.add<|j*1) (Ca (i:=(j:Int)) Ii hA0)<|Ba (v:=I<|xs[j]) (Xa sZ<|hF.cell0 hk0) ?_;refine rn 14 ⟨λhc1=>?_,λhc1=>?_⟩;refine rn 6 ?_;exact⟨yQ (Value.int .i64) (by rw[hc,X9 Aa Aa]),hF.same⟩;refine rn 6 ?_;obtain⟨ad1,hA1,hk1,hx1⟩:=hY.str_elem (i:=j) Aa;refine Ba (v:=.pointer<|some<|ad1.add<|j*1) (Ca (i:=(j:Int)) Ii hA1)<|Ba (v:=I<|ys[j]) (Xa sZ<|hF.cell0 hk1) ?_;refine rn 8<|Vg hF (Lo xs[j] ys[j] _) (Fh O en_92 O O O) ?_;intro w hF;refine rn 10 ⟨λhc2=>?_,λhc2=>?_⟩;refine rn 7 ?_;exact⟨yQ (Value.int .i64) (by rw[hc,KR Aa Aa (aS hc2)]),hF.same⟩;refine rn 4<|Zb Uh ?_;refine rn 2<|Ha ⟨_,?_,j+1,O,Aa,Aa,hc.trans<|J_ Aa Aa (aS hc2),Va,hF⟩;omega;refine rn 13 ⟨λhc3=>?_,λhc3=>?_⟩;refine rn 6 ?_;exact⟨yQ (Value.int .i64) (by rw[hc,E_ Aa Aa]),hF.same⟩;refine rn 8 ?_;exact⟨yQ (Value.int .i64) (by rw[hc,BI Aa Aa]),hF.same⟩
def CS(xs ys:List Str)(A A':Option Addr)(c c':Nat)(S S':Nat->Prop)(w0:World)(hX:Rep S w0 (Ee xs) [.slice A (aL xs) c])(hY:Rep S' w0 (Ee ys) [.slice A' (aL ys) c']):Calls prog 135 #[.slice A (aL xs) c,.slice A' (aL ys) c',.func (.func 92) #[] #[]] w0 (Za λv w'=>v=J (Al Lib.compareBytes xs ys)/\Same [] w0 w'):=by
 refine Ea func135 ntmps135 ?_;intro hF;refine rn 10<|Ia (D9 xs ys A A' c c' S S' _ (hF.rep hX)<|hF.rep hY) ?_;rintro w hF -;refine rn 4 ?_;exact⟨O,hF.same⟩
def HS(q:Tree->Tree->Int)(xs ys:List Tree)(B B':Option Addr)(e e':Nat)(S S':Nat->Prop)(w0:World)(hX:Rep S w0 (.slice (Hc xs)) [.slice B (aL xs) e])(hY:Rep S' w0 (.slice (Hc ys)) [.slice B' (aL ys) e'])(hq:BothI w0 82 xs ys q):Calls prog 136 #[.slice B (aL xs) e,.slice B' (aL ys) e',.func (.func 82) #[] #[]] w0 (Za λv w'=>v=J (Al q xs ys)/\Same [] w0 w'):=by
 refine Ea func136 ntmps136 ?_;intro hF;refine rn 10<|Ia (G7 q xs ys B B' e e' S S' _ (hF.rep hX) (hF.rep hY)<|hq.ext hF.same) ?_;rintro w hF -;refine rn 4 ?_;exact⟨O,hF.same⟩
mutual
def Lm:Tree->Tree->Int
  | .node k t ks xs, .node k' t' ks' ys => if k = 3 /\ k' = 3 then TL (Wb t).1 (Wb t').1 else
    if GX [Lib.compareInt k k',Lib.compareBytes t t',Al Lib.compareBytes ks ks']≠0 then GX [Lib.compareInt k k',Lib.compareBytes t t',Al Lib.compareBytes ks ks'] else Rv xs ys
def Rv:List Tree->List Tree->Int
  | [],[]=>0
  | [],_::_=>-1
  | _::_,[]=>1
  | x::xs,y::ys=>if Lm x y≠0 then Lm x y else Rv xs ys
end
theorem Yg:∀xs ys:List Tree,Al Lm xs ys=Rv xs ys
  | [],[]=>by rw[Al,Rv]
  | [],_::_=>by rw[Al,Rv]
  | _::_,[]=>by rw[Al,Rv]
  | x::xs,y::ys=>by rw[Al,Rv,Yg xs ys]
def JL(x:Tree):Prop:=∀y S S' w0 cs ct,Rep S w0 (Na x) cs->Rep S' w0 (Na y) ct->To x->To y->Gl w0->Calls prog 82 #[.agg cs.toArray,.agg ct.toArray] w0 (Za λv w'=>v=J (Lm x y)/\Same [] w0 w')
theorem NN(k:Int)(t:Str)(ks:List Str)(xs:List Tree)(ih:∀x,x∈xs->JL x):JL (.node k t ks xs):=by
 rintro⟨k',t',ks',ys⟩ S S' w0 cs ct hR hR' hk hk' hG;rw[To]at hk;rw[To]at hk';obtain⟨A,c,B,e,rfl,-,-,hK,hX⟩:=hR.tree_inv;obtain⟨A',c',B',e',rfl,-,-,hK',hY⟩:=hR'.tree_inv;refine Ea func82 ntmps82 ?_;intro hF;refine rn 3 ?_;rintro b1 w hb1 hF -;refine rn 1 ?_;rintro b2 w hb2 hF -;refine rn 11 ⟨λhg0=>?_,λhg0=>?_⟩;refine rn 7 ⟨λhc0=>?_,λhc0=>?_⟩;refine rn 4<|Ia (Nu t hk.1 _<|hG.ext hF.same) ?_;rintro w hF -;refine rn 4 ?_;rintro b3 w hb3 hF -;refine rn 7<|Ia (Nu t' hk'.1 _<|hG.ext hF.same) ?_;rintro w hF -;refine rn 4 ?_;rintro b4 w hb4 hF -;refine rn 7 ?_;refine Ia (MC (Wb t).1 (Wb t').1 (by have:=Nf t;omega) (by have:=Nf t';omega) _) ?_;rintro w hF -;refine rn 4 ⟨yQ (Value.int .i64) ?_,hF.same⟩;rw[Lm];clear hF hR hR' hX hY hK hK' ih hk hk'
 ·first|(simp_all[Yg];done)|(simp_all[Yg];omega)
 refine rn 3<|Rb (zs:=.of []) (bQ [0,1,2,3,5,6,7,8,10,11,12,13]<|cQ [4,9,14,15,16]<|.free 17 .nil) hF ?_;intro w hF;refine rn 12<|Rc (Wx k k' _) ?_;rintro w hF -;refine Rc (Lo t t' _) ?_;rintro w hF -;refine Rc (CS ks ks' A A' c c' S S' _ (hF.rep hK)<|hF.rep hK') ?_;rintro w hF -;refine rn 1 ?_;rintro b5 w hb5 hF -;refine Rc (or_c [Lib.compareInt k k',Lib.compareBytes t t',Al Lib.compareBytes ks ks'] _ 3 Da _<|ZA<|hF.cellsAll 0 O) ?_;rintro w hF -;refine rn 11 ⟨λhc1=>?_,λhc1=>?_⟩;refine rn 7 ⟨yQ (Value.int .i64) ?_,hF.same⟩;rw[Lm];clear hF hR hR' hX hY hK hK' ih hk hk'
 ·first|(simp_all[Yg];done)|(simp_all[Yg];omega)
 refine rn 8<|Ia (HS Lm xs ys B B' e e' S S' _ (hF.rep hX) (hF.rep hY) λx hx y hy S1 S2 w1 cs1 ct1 hs h1 h2=>ih x hx y S1 S2 w1 cs1 ct1 h1 h2 (Bj hk.2.2 x hx) (Bj hk'.2.2 y hy)<|(hG.ext hF.same).ext hs) ?_;rintro w hF -;refine rn 4 ⟨yQ (Value.int .i64) ?_,hF.same⟩;rw[Lm];clear hF hR hR' hX hY hK hK' ih hk hk'
 ·first|(simp_all[Yg];done)|(simp_all[Yg];omega)
 refine rn 10<|Rb (zs:=.of []) (bQ [0,1,2,3,5,6,7,8,10,11,12,13]<|cQ [4,9,14,15,16]<|.free 17 .nil) hF ?_;intro w hF;refine rn 12<|Rc (Wx k k' _) ?_;rintro w hF -;refine Rc (Lo t t' _) ?_;rintro w hF -;refine Rc (CS ks ks' A A' c c' S S' _ (hF.rep hK)<|hF.rep hK') ?_;rintro w hF -;refine rn 1 ?_;rintro b6 w hb6 hF -;refine Rc (or_c [Lib.compareInt k k',Lib.compareBytes t t',Al Lib.compareBytes ks ks'] _ 3 Da _<|ZA<|hF.cellsAll 0 O) ?_;rintro w hF -;refine rn 11 ⟨λhc1=>?_,λhc1=>?_⟩;refine rn 7 ⟨yQ (Value.int .i64) ?_,hF.same⟩;rw[Lm];clear hF hR hR' hX hY hK hK' ih hk hk'
 ·first|(simp_all[Yg];done)|(simp_all[Yg];omega)
 refine rn 8<|Ia (HS Lm xs ys B B' e e' S S' _ (hF.rep hX) (hF.rep hY) λx hx y hy S1 S2 w1 cs1 ct1 hs h1 h2=>ih x hx y S1 S2 w1 cs1 ct1 h1 h2 (Bj hk.2.2 x hx) (Bj hk'.2.2 y hy)<|(hG.ext hF.same).ext hs) ?_;rintro w hF -;refine rn 4 ⟨yQ (Value.int .i64) ?_,hF.same⟩;rw[Lm];clear hF hR hR' hX hY hK hK' ih hk hk'
 ·first|(simp_all[Yg];done)|(simp_all[Yg];omega)
def order_c(x:Tree):JL x:=Tree.ind NN x
theorem Am{x:Tree}(h:De x=true):Uc nodeB x=true:=by unfold De at h;rw[vQ]at h;exact h.2
def of_c(s:Str)(w0:World):Calls prog 36 #[I s] w0 (Za λv w'=>v=.agg #[J 4,I s,aQ,aQ]/\Same [] w0 w'):=by
 refine Ea func36 ntmps36 ?_;intro hF;refine rn 3 ?_;rintro b1 w hb1 hF -;refine rn 5<|Ba (w':=w) (v:=.agg #[J 4,I s,aQ,aQ]) Ua ?_;refine rn 1 ?_;rintro w hF -;refine rn 3 ?_;exact⟨O,hF.same⟩
def JI(n:Int)(h1:-9223372036854775808<=n)(h2:n<=9223372036854775807){w0:World}(hG:Gl w0):Calls prog 30 #[J n] w0 (Za λv w'=>v=.agg #[J 3,I (Ch (XJ n)),aQ,aQ]/\Same [] w0 w'):=by
 refine Ea func30 ntmps30 ?_;intro hF;refine rn 3 ?_;rintro b1 w hb1 hF -;refine rn 5<|Ia (KS n h1 h2 _<|hG.ext hF.same) ?_;rintro w hF -;refine Ia (TE (XJ n) (by have:=Nf<|Lib.itoa n;exact fQ this Ja) _<|hG.ext hF.same) ?_;rintro w hF -;refine Ba (w':=w) (v:=.agg #[J 3,I<|Ch<|XJ n,aQ,aQ]) Ua<|rn 1 ?_;rintro w hF -;refine rn 3 ?_;exact⟨O,hF.same⟩
end Go.Scarf
