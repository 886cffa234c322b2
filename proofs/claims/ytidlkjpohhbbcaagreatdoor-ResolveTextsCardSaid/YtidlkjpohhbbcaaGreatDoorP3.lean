/- A part of the proof. -/
import Derived.Test.YtidlkjpohhbbcaaGreatDoorBd
import Derived.Lib.BufferRead
import Derived.Lib.ItoaMem
import Derived.Sort.Walk0
set_option linter.all false
set_option maxHeartbeats 8000000
set_option maxRecDepth 10000
namespace Go.Scarf
open List renaming length->aL
theorem MS:∀{xs:List Tree},(∀x∈xs,BR x)->QK xs
  | [],_=>by rw[QK];trivial
  | x::xs,h=>by rw[QK];exact⟨h x Da,MS λy hy=>h y bT⟩
mutual
def Ob:Tree->Nat|.node _ t ks xs=>max (aL t) (max (Sg ks) (Sf xs))
def Sf:List Tree->Nat|[]=>0|x::xs=>max (Ob x) (Sf xs)
def Sg:List Str->Nat|[]=>0|k::ks=>max (aL k) (Sg ks)
end
theorem Oi:∀{ks:List Str}{k:Str},k∈ks->aL k<=Sg ks
  | y :: ys, k, h => by
    rw[Sg];rcases oQ.1 h with rfl|h
    ·omega
    have:=Oi h;omega
theorem Th:∀{xs:List Tree}{x:Tree},x∈xs->Ob x<=Sf xs
  | y :: ys, k, h => by
    rw[Sf];rcases oQ.1 h with rfl|h
    ·omega
    have:=Th h;omega
theorem At{n:Nat}:∀{ks:List Str},(∀k∈ks,aL k<=n)->Sg ks<=n
  | [],_=>by rw[Sg];omega
  | k :: ks, h => by
    rw[Sg];have h1:=h k Da;have h2:=At (λy hy=>h y bT:∀k∈ks,aL k<=n);omega
theorem No{n:Nat}:∀{xs:List Tree},(∀x∈xs,Ob x<=n)->Sf xs<=n
  | [],_=>by rw[Sf];omega
  | k :: ks, h => by
    rw[Sf];have h1:=h k Da;have h2:=No (λy hy=>h y bT:∀x∈ks,Ob x<=n);omega
def okQ_max(x:Tree):Ob x<=17592186044416->BR x:=Tree.ind (Q:=λx=>Ob x<=17592186044416->BR x) (λk t ks xs ih h=>by
  rw[Ob]at h;rw[BR];exact⟨Aa,λk hk=>by have:=Oi hk;omega,MS λy hy=>ih y hy (by have:=Th hy;omega)⟩) x
def Sj(x:Tree):Ob x<=17592186044416->To x:=Tree.ind (Q:=λx=>Ob x<=17592186044416->To x) (λk t ks xs ih h=>by
  rw[Ob]at h;rw[To];exact⟨Aa,λk hk=>by have:=Oi hk;omega,V4 λy hy=>ih y hy (by have:=Th hy;omega)⟩) x
def Hz(x:Tree):Vj x=true->Ob x<=2048:=Tree.ind (Q:=λx=>Vj x=true->Ob x<=2048) (λk t ks xs ih h=>by
  rw[Vj,vQ,vQ,xQ,List.all_eq_true]at h;rw[Ob];have h1:Sg ks<=2048:=At λk hk=>by have:=h.1.2 k hk;simp only[xQ]at this;omega
  have key:∀ys:List Tree,(∀y∈ys,y∈xs)->Dp ys=true->Sf ys<=2048:=by
    intro ys
    induction ys with
    | nil=>intro _ _;rw[Sf];omega
    | cons y ys ihy =>
      intro hm hs;rw[Dp,vQ]at hs;rw[Sf];have a:=ih y (hm y Da) hs.1;have b:=ihy (λz hz=>hm z wP) hs.2;omega
  have h2:=key xs (λ_ h=>h) h.2;omega) x
theorem max_sort(x:Tree):Ob (Oe x)<=Ob x:=Tree.ind (Q:=λx=>Ob (Oe x)<=Ob x) (λk t ks xs ih=>by
  have hs:∀y∈Fe xs,Ob y<=Sf xs:=by
    intro y hy;rw[Xf]at hy;obtain⟨z,hz,rfl⟩:=nQ.1 hy;exact fQ (ih z hz)<|Th hz
  rw[Oe];split
  ·rw[Ob, Ob]
   have h1:Sg (Je ks)<=Sg ks:=At λk hk=>Oi<|Jn.1 hk;have h2:Sf ((Je ks).map λkey=>(Dh ks (Fe xs) key).getD (.node 0 [] [] []))<=Sf xs:=No λy hy=>by
     obtain⟨key,_,rfl⟩:=nQ.1 hy;cases hl:Dh ks (Fe xs) key with
     | none=>simp[Ob,Sg,Sf]
     | some z=>exact hs z<|H1 hl
   omega
  rw[Ob, Ob];have h2:=No hs;have h3:Sg []=0:=by rw[Sg]
  omega) x
theorem Hy(m:Bool)(ind d:Nat)(D:Nat)(hD:d+1<=D):∀(ps:List Str)(b:Bool),aL (Zg m ind d b ps)<=(ps.map λp=>aL p+(2+ind*D)).sum
  | [],b=>by rw[Zg];simp
  | p :: ps, b => by
    have h1:=Hy m ind d D hD ps false;have h2:=Zw m ind<|d+1;have h3:ind*(d+1)<=ind*D:=Nat.mul_le_mul_left _ hD;have h4:aL (if b=true then ([]:Str) else [44])<=1:=by split <;> simp
    rw[Zg,lZ,List.sum_cons];simp only[dQ];omega
def C_(m:Bool)(ind L D:Nat)(x:Tree):∀d,Ob x<=L->d+Nb x<=D->aL (Ve m ind x d)+(6*L+6+ind*D)<=La x*(12*L+40+2*(ind*D)) :=
  Tree.ind (Q:=λx=>∀d,Ob x<=L->d+Nb x<=D->aL (Ve m ind x d)+(6*L+6+ind*D)<=La x*(12*L+40+2*(ind*D))) (λk t ks xs ih d hL hd=>by
  rw[Ob]at hL;rw[Nb]at hd;have hq:=Vz t;have hl:=Zw m ind d;have hid:ind*d<=ind*D:=Nat.mul_le_mul_left _ Aa;have key1:∀ys:List Tree,(∀y∈ys,y∈xs)->((Gp m ind ys<|d+1).map λp=>aL p+(2+ind*D)).sum<=Ra ys*(12*L+40+2*(ind*D)):=by
    intro ys
    induction ys with
    | nil=>intro _;simp[Gp]
    | cons y ys ihy =>
      intro hm;have h1:=ih y (hm y Da) (d+1) (by have:=Th<|hm y Da;omega) (by have:=Re<|hm y Da;omega);have h2:=ihy λz hz=>hm z wP;rw[Gp,lZ,List.sum_cons,Ra,Nat.add_mul];omega
  have key2:∀(ys:List Tree)(js:List Str),(∀y∈ys,y∈xs)->(∀k∈js,aL k<=L)->((Hl m ind ys js<|d+1).map λp=>aL p+(2+ind*D)).sum<=Ra ys*(12*L+40+2*(ind*D)):=by
    intro ys
    induction ys with
    | nil=>intro _ _ _;simp[Hl]
    | cons y ys ihy =>
      intro js hm hj;have h1:=ih y (hm y Da) (d+1) (by have:=Th<|hm y Da;omega) (by have:=Re<|hm y Da;omega);have h2:=ihy js.tail (λz hz=>hm z wP) λk hk=>hj k<|List.mem_of_mem_tail hk;have h3:aL (js.headD [])<=L:=by
        cases js with
        | nil=>simp
        | cons a b=>exact hj a Da
      have h4:=Vz<|js.headD [];have h5:aL (if m=true then ([32]:Str) else [])<=1:=by split <;> simp
      rw[Hl,lZ,List.sum_cons,Ra,Nat.add_mul];simp only[dQ,kQ,cZ];omega
  have fin:∀(o c:UInt8)(ps:List Str)(N:Nat),(xs=[]->ps=[])->(ps.map λp=>aL p+(2+ind*D)).sum<=N->aL (Nm m ind d o c ps)+(6*L+6+ind*D)<=1*(12*L+40+2*(ind*D))+N:=by
    intro o c ps N he hN;have h5:aL (if ps=[] then ([]:Str) else Lf m ind d)<=1+ind*D:=by
      split
      ·simp
      omega
    have h6:aL (Zg m ind d true ps)<=N:=by
      by_cases hp:ps=[]
      ·subst hp;rw[Zg];simp
      have hx : xs ≠ [] := λh => hp (he h);have h7:1<=Ac xs:=by
        cases xs with
        | nil=>exact absurd rfl hx
        | cons a b => rw[Ac];have : 1 <= Nb a := by (obtain⟨_, _, _, _⟩ := a;rw[Nb];omega)
                      omega
      exact fQ (Hy m ind d D Aa ps true) hN
    rw[Nm];simp only[dQ,kQ,cZ];omega
  rw[Ve,La,Nat.add_mul];split
  ·simp only[kQ,cZ];omega
  split
  ·omega
  split
  ·exact fin _ _ _ _ (λh=>by rw[h,Gp])<|key1 xs λ_ h=>h
  split
  ·exact fin _ _ _ _ (λh=>by rw[h,Hl])<|key2 xs ks (λ_ h=>h) (λk hk=>by have:=Oi hk;omega)
  omega) x
def Mt(x:Tree):Str:=if Id x=true then Ve false 0 x 0 else []
def Vs(x:Tree):Int:=if Id x=true then 0 else 1
theorem Ui(q:Tree->Bool):∀xs:List Tree,Vp q xs=xs.all (Uc q)
  | []=>rfl
  | x::xs=>by rw[Vp,Ui q xs];rfl
theorem TW{α:Type}(q:α->Bool){xs ys:List α}(h:xs.Perm ys):xs.all q=ys.all q:=qK
def no7(x:Tree):Bool:=decide (x.kind≠7)
def allT_and(p q:Tree->Bool)(x:Tree):Uc (λx=>p x&&q x) x=(Uc p x&&Uc q x):=Tree.ind (Q:=λx=>Uc (λx=>p x&&q x) x=(Uc p x&&Uc q x)) (λk t ks xs ih=>by
  rw[Uc,Uc,Uc,Ui,Ui,Ui];have h:xs.all (Uc λx=>p x&&q x)=(xs.all (Uc p)&&xs.all (Uc q)):=by
    rw[Bool.eq_iff_iff,vQ,List.all_eq_true,List.all_eq_true,List.all_eq_true];refine⟨λg=>⟨λy hy=>?_,λy hy=>?_⟩,λg y hy=>?_⟩
    ·have:=g y hy;rw[ih y hy,vQ]at this;exact this.1
    ·have:=g y hy;rw[ih y hy,vQ]at this;exact this.2
    rw[ih y hy,vQ];exact⟨g.1 y hy,g.2 y hy⟩
  rw[h];cases p (.node k t ks xs) <;> cases q (.node k t ks xs) <;> simp) x
theorem no7_sort(x:Tree):Uc nodeB x=true->Uc no7 (Oe x)=Uc no7 x:=Tree.ind (Q:=λx=>Uc nodeB x=true->Uc no7 (Oe x)=Uc no7 x) (λk t ks xs ih hx=>by
  obtain⟨hn,hxs⟩:=Xe hx;have hs:(Fe xs).all (Uc no7)=xs.all (Uc no7):=by
    rw[Xf,List.all_map,Bool.eq_iff_iff,List.all_eq_true,List.all_eq_true];refine⟨λg y hy=>?_,λg y hy=>?_⟩
    ·have:=g y hy;simp only[Function.comp_apply]at this;rwa [ih y hy<|hxs y hy]at this
    simp only[Function.comp_apply];rw[ih y hy<|hxs y hy];exact g y hy
  rw[Wz];split
  ·rename_i h6
   subst h6;obtain⟨nd,len⟩:=Dv hn;rw[Uc,Uc,Ui,Ui,TW _<|VE nd len,hs];rfl
  rw[Uc, Uc, Ui, Ui, hs];rfl) x
theorem MG(x:Tree):Id x=(De x&&Uc no7 x):=by
  have h:Uc rnodeB x=(Uc no7 x&&Uc nodeB x):=allT_and no7 nodeB x;rw[Id,De,h];cases Yj x <;> cases Uc no7 x <;> simp
theorem Zq{x:Tree}(h:Id x=true):De x=true:=by grind [MG]
theorem KW:De zeroT=false:=by kernel_rfl
theorem Yq(x:Tree):Id (Zc x)=Id x:=by grind [De,Cs,MG,CU,no7_sort,Am,Zc,KW]
theorem WH(x:Tree)(h:La x<=1000000000):La (Zc x)<=1000000000:=by
  by_cases ho:De x=true
  ·grind [Cs,S9,Am]
  rw[Zc, tQ ho];decide
theorem R2(x:Tree):Ob (Zc x)<=Ob x:=by
  by_cases ho:De x=true
  ·grind [Cs,max_sort]
  rw[Zc, tQ ho];have:Ob zeroT=0:=Ja
  omega
open Go.RowKit
structure Sd where
  has:Bool
  val:Tree
structure Cf where
  path:List Str
  cls:Int
  b:Sd
  l:Sd
  r:Sd
def noS:Sd:=⟨false,zeroT⟩
def Np(n:Nat):Str:=Ch (XJ n)
def HJ(n:Nat):Tree:=.node 7 (Np n) [] []
def Gj(s:Sd):Sd:=if s.has=true then ⟨true,Gs s.val⟩ else noS
def Hi(c:Cf)(p:Int):Sd × Bool:=if p=0 then (Gj c.b,true) else if p=1 then (Gj c.l,true) else if p=2 then (Gj c.r,true) else (noS,false)
mutual
def Ue:Tree->List Str
  | .node k t _ xs=>(if k=7 then [t] else [])++Jg xs
def Jg:List Tree->List Str
  | []=>[]
  | x::xs=>Ue x++Jg xs
end
def X0(s:Sd)(cls:Int):Bool:=!s.has || (Id s.val&&(decide (cls≠5) || decide (s.val.kind=5)))
def B9(c:Cf):Bool:=X0 c.b c.cls&&(X0 c.l c.cls&&X0 c.r c.cls)
def OA:Cf:=⟨[],0,noS,noS,noS⟩
def Yp(v:Tree)(l:List Cf)(pick:List Int):Bool :=
  decide (aL l=aL pick)&&(decide (aL (Ue v).eraseDups=aL l) &&
    (List.range (aL l)).all λi=>decide ((Ue v).count (Np i)=1)&&(B9 (l.getD i OA)&&(Hi (l.getD i OA) (pick.getD i 0)).2))
def Ki(v:Tree):Int:=if v.kind≠7 then -1 else if (Wb v.text).2≠0 then -1 else (Lr (Wb v.text).1).1
def Q2(l:List Cf)(pick:List Int)(i:Int):Sd:=(Hi (l.getD i.toNat OA) (pick.getD i.toNat 0)).1
def Xq(l:List Cf)(k:Int)(key:Str)(h:Int)(s:Sd):List Str × List Tree :=
  if s.has=true then
    if k=6 then ([key],[s.val])
    else if 0<=h/\(l.getD h.toNat OA).cls=5 then ([],s.val.items)
    else ([],[s.val])
  else ([],[])
mutual
def Ce(l:List Cf)(pick:List Int):Tree->Sd
  | .node k t ks xs =>
    if 0<=Ki (.node k t ks xs) then Q2 l pick (Ki (.node k t ks xs))
    else ⟨true,.node k t (Ng l pick k ks xs).1 (Ng l pick k ks xs).2⟩
def Ng(l:List Cf)(pick:List Int)(k:Int):List Str->List Tree->List Str × List Tree
  | _,[]=>([],[])
  | ks, x :: xs =>
    let a:=Xq l k (ks.headD []) (Ki x) (Ce l pick x)
    let b:=Ng l pick k ks.tail xs
    (a.1++b.1,a.2++b.2)
end
def Qi(v:Tree)(l:List Cf)(pick:List Int):Tree × Int :=
  if De v=true/\Yp v l pick=true then
    let s:=Ce l pick v
    if s.has=true then (if Id s.val=true then (s.val,0) else (zeroT,1)) else (zeroT,8)
  else (zeroT,1)
def numOk(i:Nat):Bool:=decide ((Wb (Np i)).2=0)&&(decide ((Wb (Np i)).1=XJ i)&&(decide (Lr (XJ i)=((i:Int),true))&&decide (aL (Np i)<=20)))
def num_all:(List.range 1000).all numOk=true:=by kernel_rfl
theorem num_is{i:Nat}(h:i<1000):(Wb (Np i)).2=0/\(Wb (Np i)).1=XJ i/\Lr (XJ i)=((i:Int),true)/\aL (Np i)<=20:=by
  have:=List.all_eq_true.1 num_all i<|List.mem_range.2 h;grind [numOk]
theorem PL{i:Nat}(h:i<1000):Ki (HJ i)=i:=by
  obtain⟨h1,h2,h3,-⟩:=num_is h;show (if (7:Int)≠7 then (-1:Int) else if (Wb<|Np i).2≠0 then -1 else (Lr (Wb<|Np i).1).1)=_;grind
theorem Ck(v:Tree):Ra v.items+1<=La v:=by
  cases v;rw[La];simp only[Tree.items];omega
theorem Kn{M:Nat}{x:Tree}(h:Ob x<=M):∀y∈x.items,Ob y<=M:=λy hy=>by
  cases x with
  | node k t ks xs =>
    have:=Th (show y∈xs from hy);grind [Ob]
theorem QJ{M:Nat}{x:Tree}(h:Ob x<=M):∀k∈x.keys,aL k<=M:=λk hk=>by
  cases x with
  | node _ t ks xs =>
    have:=Oi (show k∈ks from hk);grind [Ob]
def SdR(s:Sd):Prop:=s=noS\/(s.has=true/\Id s.val=true)
def CfR(c:Cf):Prop:=SdR c.b/\SdR c.l/\SdR c.r/\(c.cls=5->c.b.val.kind=5/\c.l.val.kind=5/\c.r.val.kind=5)/\1<=c.cls/\c.cls<=6
theorem Cn:∀xs:List Tree,Jg xs=xs.flatMap Ue
  | []=>rfl
  | x::xs=>by rw[Jg,Cn xs,List.flatMap_cons]
open Go.RowKit Go.Proofs Go.Proofs.Tryz
def ZF(b:Bool):D:=.lit (.bool b)
def Ad(s:Sd):D:=.agg [ZF s.has,Na s.val]
def ZJ(c:Cf):D:=.agg [Ee c.path,Lg c.cls,Ad c.b,Ad c.l,Ad c.r]
def Zv(s:Sd):Gc (Ad s)=5:=by
  have:=Bb s.val;simp only[Ad,Gc,Gc.sizeL,this,ZF]
def size_cfD(c:Cf):Gc (ZJ c)=17:=by simp only[ZJ,Gc,Gc.sizeL,Zv,Ee,Lg]
section
variable {S:Nat->Prop}{w:World}
end
section
variable {cs l:List Value}{b n:Nat}{T:TypeId}{d:D}{u:World}
variable {S:Nat->Prop}{w w' w0:World}{Ds E:List Nat}{pre post bs_ sm sm1:List (Nat × Obj)}{pb:Nat}{RV:Value}{cfs:List Cf}
theorem Rep.side_inv{s:Sd}(h:Rep S w (Ad s) cs):∃ct,cs=.bool s.has::ct/\Rep S w (Na s.val) ct:=by grind [Ad,Rep,RepL.cons_inv,RepL.nil_inv,ZF]
theorem Rep.side_mk{s:Sd}{ct:List Value}(h:Rep S w (Na s.val) ct):Rep S w (Ad s) (.bool s.has::ct):=by
  unfold Ad;rw[Rep];have h1:Rep S w (ZF s.has) [.bool s.has]:=by unfold ZF;rw[Rep];exact ae1
  have:=RepL.cons_mk h1<|RepL.cons_mk h RepL.nil_mk;grind
def Ul:Rep S w (Ad noS) [.bool false,J 0,I [],aQ,aQ]:=Rep.side_mk (s:=noS) (Sk S w)
structure Tv where
  k:Int
  t:Str
  A:Option Addr
  n:Nat
  c:Nat
  B:Option Addr
  m:Nat
  e:Nat
structure Sv where
  h:Bool
  v:Tv
abbrev Tv.cells(x:Tv):List Value:=[J x.k,I x.t,.slice x.A x.n x.c,.slice x.B x.m x.e]
abbrev Sv.cells(x:Sv):List Value:=[.bool x.h,J x.v.k,I x.v.t,.slice x.v.A x.v.n x.v.c,.slice x.v.B x.v.m x.v.e]
abbrev th(x y z:Sv):List Value:=[.bool x.h,J x.v.k,I x.v.t,.slice x.v.A x.v.n x.v.c,.slice x.v.B x.v.m x.v.e,.bool y.h,J y.v.k,I y.v.t,.slice y.v.A y.v.n y.v.c,.slice y.v.B y.v.m y.v.e,.bool z.h,J z.v.k,I z.v.t,.slice z.v.A z.v.n z.v.c,.slice z.v.B z.v.m z.v.e]
def Z8:Tv:=⟨0,[],none,0,0,none,0,0⟩
def Pe{y:Tree}(h:Rep S w (Na y) cs):∃x:Tv,cs=x.cells/\x.k=y.kind/\x.t=y.text/\x.n=aL y.keys/\x.m=aL y.items:=by
  obtain⟨k,t,ks,xs⟩:=y;obtain⟨A,c,B,e,rfl,-,-,-,-⟩:=h.tree_inv;exact⟨⟨k,t,A,aL ks,c,B,aL xs,e⟩,O,O,O,O,O⟩
def Dd{S:Nat->Prop}{w:World}{t:Tree}{x:Tv}(h:Rep S w (Na t) x.cells):x.k=t.kind/\x.t=t.text/\x.n=aL t.keys/\x.m=aL t.items/\Rep S w (Ee t.keys) [.slice x.A x.n x.c]/\Rep S w (.slice (Hc t.items)) [.slice x.B x.m x.e]:=by
  obtain⟨k,s,ks,xs⟩:=t;obtain⟨A,c,B,e,hq,-,-,h3,h4⟩:=h.tree_inv;simp only[Tv.cells,List.cons.injEq,Value.int.injEq,Value.string.injEq,Value.slice.injEq,true_and,and_true]at hq;obtain⟨e1,e2,e3,e4⟩:=hq;refine⟨e1,bs_inj.1 e2,e3.2.1,e4.2.1,?_,?_⟩
  ·rw[e3.1, e3.2.1, e3.2.2]
   exact h3
  rw[e4.1, e4.2.1, e4.2.2];exact h4
theorem Ww{s:Sd}(h:Rep S w (Ad s) cs):∃x:Sv,cs=x.cells/\x.h=s.has/\x.v.k=s.val.kind/\Rep S w (Na s.val) x.v.cells:=by
  obtain⟨ct,rfl,h1⟩:=h.side_inv;obtain⟨x,rfl,h2,-⟩:=Pe h1;exact⟨⟨s.has,x⟩,O,O,h2,h1⟩
theorem Lc{s:Sd}{x:Sv}(h:Rep S w (Ad s) x.cells):x.h=s.has/\x.v.k=s.val.kind/\x.v.n=aL s.val.keys/\x.v.m=aL s.val.items/\Rep S w (Na s.val) x.v.cells:=by
  obtain⟨ct,e,h1⟩:=h.side_inv;obtain⟨y,rfl,h2,-,h3,h4⟩:=Pe h1;grind
def B3{s:Sd}{x:Tv}(h:Rep S w (Na s.val) x.cells):Rep S w (Ad s) (Sv.mk s.has x).cells:=Rep.side_mk h
theorem FR.part{bs_:List (Nat × Obj)}(h:FR w0 Ds bs_ w)(i off:Nat){l':List Value}{fz:Nat × Nat}(hi:bs_[i]? = some (b,.cells l.toArray T fz))(hl:(l.drop off).take (aL l')=l') :
    ∀j (hj:j<aL l'),w.cell? ((⟨b,off,none⟩:Addr).add j)=some l'[j]:=λj hj=>by
  have e:(⟨b,off,none⟩:Addr).add j=⟨b,off+j,none⟩:=by unfold Addr.add;split <;> simp_all
  rw[e,Db (h.heap hi)<|off+j];grind
theorem FR.rowS{w0 w:World}{E:List Nat}{bs_:List (Nat × Obj)}{S:Nat->Prop}{ds:List D}(hF:FR w0 E bs_ w)(k:Nat)(hi:bs_[k]? = some (b,.cells l.toArray T))(hr:RepL S w ds l)(hn:aL ds=n)(hm:n<=9223372036854775807):Rep (λx=>S x\/x=b) w (.slice ds) [.slice (some ⟨b,0,none⟩) n n] :=
  Rep.slice_mk hn.symm (gQ _) hm λ_=>⟨_,rfl,l,λj hj=>⟨hF.cellsAll k hi j hj,.inr rfl⟩,RepL.weaken (λ_ h _=>.inl h) hr⟩
theorem FR.repE{w0 w:World}{Dz:List Nat}{bs_:List (Nat × Obj)}{S:Nat->Prop}(hF:FR w0 Dz bs_ w)(hS:∀b,S b->b<w0.heap.size/\b∉Dz)(h:Rep S w0 d cs):Rep S w d cs:=h.same hF.same λb hb hs=>(hS b hs).2 hb
def Rep.low{S:Nat->Prop}{w:World}(h:Rep S w d cs):Rep (λb=>b<w.heap.size) w d cs:=h.weaken λ_ _ hl=>hl
def wE(w:World):World:={ w with heap:=#[] }
def RX.base{i:List Nat}{ds:List D}(h:RX w0 i w ds cs)(hu:u.heap.size<=w0.heap.size):RX u i w ds cs:=RepL.weaken (λ_ hb _=>⟨fQ hu hb.1,hb.2⟩) h
def RX.empty{i:List Nat}{ds:List D}(h:RX w0 i w ds cs)(u:World):RX (wE u) i w ds cs:=h.base (dZ _)
def ids(sm:List (Nat × Obj)):List Nat:=sm.map (·.1)
def RX.grow{w w':World}{i:List Nat}{sl sl':List (Nat × Obj)}{ds:List D}(h:RX u i w ds cs)(hE:Same (sl.map (·.1)) w w')(hn:∀p∈sl',p.1∈sl.map (·.1)\/w.heap.size<=p.1)(hi:∀x∈sl.map (·.1),x∈i):RX u (i++ids sl') w' ds cs :=
  h.step hE hi λx hx=>by
    rcases mQ.1 hx with h1|h1
    ·exact .inl h1
    obtain⟨p, hp, rfl⟩ := nQ.1 h1;rcases hn p hp with h2|h2
    ·exact .inl<|hi _ h2
    exact .inr h2
structure Mx (i:List Nat) (w:World) (sm:List (Nat × Obj)) (pb:Nat) (RV:Value) (cfs:List Cf):Prop where
  ex:∃(A:Option Addr)(c:Nat)(sl:List (Nat × Obj))(vals:List Value),sm=(pb,.cells #[RV,.slice A (aL cfs) c] 0)::sl/\SlB 40 17 A (aL cfs) c vals sl/\RX (wE w) i w (cfs.map ZJ) vals
section
variable {i i':List Nat}
def Mx.step(h:Mx i w sm pb RV cfs)(hs:Same E w w')(he:∀b∈E,b∈i)(hi:∀x∈i',x∈i\/w.heap.size<=x):Mx i' w' sm pb RV cfs:=by
  obtain⟨A,c,sl,vals,h1,h2,h3⟩:=h.ex;exact⟨A,c,sl,vals,h1,h2,(h3.step hs he hi).empty w'⟩
def Mx.ext(h:Mx i w sm pb RV cfs)(hs:Same [] w w'):Mx i w' sm pb RV cfs:=h.step hs Da (λ_ hx=>.inl hx)
def Mx.store(h:Mx i w sm pb RV cfs)(hs:Same E w w')(he:∀b∈E,b∈i):Mx i w' sm pb RV cfs:=h.step hs he (λ_ hx=>.inl hx)
def Mx.alloc(h:Mx i w sm pb RV cfs)(hs:Same [] w w')(hb:b=w.heap.size):Mx (b::i) w' sm pb RV cfs :=
  h.step hs Da (λx hx=>by rcases oQ.1 hx with rfl|hx;exact .inr Aa;exact .inl hx)
def Mx.sub(h:Mx i w sm pb RV cfs)(hi:∀x∈i',x∈i):Mx i' w sm pb RV cfs:=h.step (Same.refl [] w) Da (λx hx=>.inl<|hi x hx)
theorem SlB.typ1{e m c:Nat}{A:Option Addr}{xs:List Value}{sb:List (Nat × Obj)}(h:SlB e m A n c xs sb):aL sb<=1/\∀q∈sb,∃cur,q.2=.cells cur e:=by
  rcases h.2 with ⟨-,-,rfl⟩|⟨g,cur,-,rfl,-⟩
  ·grind
  grind
theorem Mx.pw(h:Mx i w sm pb RV cfs)(hh:∀q∈sm,w.heap[q.1]? = some q.2):sm.Pairwise (λp q=>q.1≠p.1):=by
  obtain⟨A,c,sl,vals,rfl,h2,-⟩:=h.ex;refine List.pairwise_cons.2 ⟨λq hq e=>?_,h2.pw⟩;obtain⟨cur,e2⟩:=h2.typ1.2 q hq;have h5:=hh q bD;simp_all
theorem Mx.start(h:Mx i w sm pb RV cfs)(hh:∀q∈sm,w.heap[q.1]? = some q.2):FR w (ids sm) ([]++(sm++[])) w:=by
  rw[nZ,qQ];exact⟨.refl _ _,λq hq=>⟨hh q hq,.inr<|List.mem_map_of_mem hq⟩,h.pw hh⟩
def Mx.box(h:Mx i w sm pb RV cfs)(hh:∀q∈sm,w.heap[q.1]? = some q.2):∃(A:Option Addr)(c:Nat),w.heap[pb]? = some (.cells #[RV,.slice A (aL cfs) c] 0):=by
  obtain⟨A,c,sl,vals,rfl,-,-⟩:=h.ex;exact⟨A,c,hh _ aZ⟩
structure Mc (w:World) (sm:List (Nat × Obj)) (w':World) (sm':List (Nat × Obj)):Prop where
  same:Same (ids sm) w w'
  fresh:∀q∈sm',w.heap.size<=q.1\/q.1∈ids sm
theorem FR.segs_of(hF:FR w0 Ds (pre++(sm++post)) w):∀q∈sm,w.heap[q.1]? = some q.2/\(w0.heap.size<=q.1\/q.1∈Ds):=λq hq=>hF.own q bD
theorem FR.hh(hF:FR w0 Ds bs_ w)(hsp:Spl bs_ pre sm post:=by repeat (first|exact Spl.z|apply Spl.c|apply Spl.a)):∀q∈sm,w.heap[q.1]? = some q.2:=by
  rw[hsp.eq]at hF;exact λq hq=>(hF.segs_of q hq).1
def Nq(w:World)(sm':List (Nat × Obj))(w':World)(x:Nat):Prop:=Btw w w' x/\x∉ids sm'
def RX.swap{j:List Nat}{ds:List D}(h:RX u i w ds cs)(hE:Mc w sm w' sm1)(hi:∀x∈ids sm,x∈i)(hj:∀x∈j,x∈i\/x∈ids sm1):RX u j w' ds cs :=
  h.step hE.same hi λx hx=>by
    rcases hj x hx with h1|h1
    ·exact .inl h1
    obtain⟨q, hq, rfl⟩ := nQ.1 h1;rcases hE.fresh q hq with h2|h2
    ·exact .inr h2
    exact .inl<|hi _ h2
theorem RX.nq(h:RX w0 i w [d] cs)(hi:∀x∈ids sm,x∈i):Rep (Nq w0 sm w) w d cs:=h.rep.weaken λ_ hb _=>⟨⟨hb.1,hb.2.1,hb.2.2.2⟩,λhm=>hb.2.2.1<|hi _ hm⟩
def Off(S:Nat->Prop)(w0:World)(sm:List (Nat × Obj)):Prop:=∀b,S b->b<w0.heap.size/\b∉ids sm
def Off.or{S':Nat->Prop}(h:Off S w sm)(h':Off S' w sm):Off (λb=>S b\/S' b) w sm:=λb hb=>hb.elim (h b)<|h' b
end
end
end Go.Scarf
namespace Go.Scarf
open List renaming length->aL
open Go.RowKit Go.Proofs Go.Proofs.Tryz
set_option maxRecDepth 100000
section
variable {H:Type}{enc:TypeId × Value->H}{W:World}{base:Nat}{sp:Nat->Bool}{held:Bool}
open Go.ChangeShapes Go.WideShapes Go.ChangeAt Go.Lib Go.Shelf
def cs38:prog.cellsOf 38=5:=by kernel_rfl
def cs4:prog.cellsOf 4=1:=by kernel_rfl
def side_of{fuel:Nat}{cs:List Value}{x:DataW H × List MemPlace}(h:DataW.trod enc prog W base sp held fuel 38 cs=some x):∃q:Sd,Rep (λ_=>True) W (Ad q) cs:=by
  obtain⟨xs,n,rfl,-,hcl,hxl,hf⟩:=DataW.trod_struct underlying38 h;have hcl':aL cs=5:=hcl.trans cs38;have get:∀(i:Nat)(hi:i<2),xs[i]? = some (xs[i]'(by rw[hxl];exact hi)):=λi hi=>List.getElem?_eq_getElem _;have h0:=(hf 0 _ rfl).trans (get 0 Aa);have h1:=(hf 1 _ rfl).trans (get 1 Aa);obtain⟨b,hb,-⟩:=DataW.trod_bool underlying4 h0;obtain⟨t,ht⟩:=tree_of _ _ _ h1;have ht':Rep (λ_=>True) W (Na t) ((cs.drop 1).take (prog.cellsOf 36)):=ht;have hb':(cs.drop 0).take (prog.cellsOf 4)=[.bool b]:=hb;refine⟨⟨b,t⟩,?_⟩;have e:cs=[.bool b]++(cs.drop 1).take (prog.cellsOf 36):=by
    rw[<-hb',cs4,cs36]
    match cs,hcl' with
    | [_,_,_,_,_],_=>rfl
  rw[e];exact Rep.side_mk (s:=⟨b,t⟩) ht'
end
end Go.Scarf
set_option synthInstance.maxHeartbeats 0
set_option synthInstance.maxSize 9999
namespace Go.Scarf
open List renaming length->aL
open Go.RowKit Go.Proofs Go.Proofs.Tryz
variable {e i kt r t:Nat}{x y z:Operand}{a b:Str}{l:MapL}{v:Value}
def QX(x:Tree)(ind d:Int):Prop:=Id x=true/\(0<=ind/\ind<=8)/\(0<=d/\d<=32)
instance (x:Tree) (ind d:Int):Decidable (QX x ind d):=by unfold QX;infer_instance
theorem HU{x:Tree}(h:Id x=true)(hm:Ob x<=1073741824)(m:Bool)(ind d:Nat)(hi:ind<=8)(hd:d<=32):aL (Ve m ind x d)<=140737488355328:=by
  have h1:=Vo h;have h2:=C_ m ind (Ob x) 64 x d (gQ _) Aa;have h3:La x<=4096:=FB<|Zq h;have h4:ind*64<=8*64:=qK
  have h5:La x*(12*Ob x+40+2*(ind*64))<=4096*(12*1073741824+40+2*512):=Nat.mul_le_mul h3 Aa;omega
def comp_c(x:Tree)(S:Nat->Prop)(w0:World)(cs:List Value)(rx:Rep S w0 (Na x) cs)(hG:Gl w0)(hsz:La x<=1000000000)(hm:Ob x<=1073741824):Calls prog 69 #[.agg cs.toArray] w0 (Za λv w'=>v=.tuple #[I (Mt x),J (Vs x)]/\Same [] w0 w'):=by
  refine Gg (HV x S w0 cs rx hG (Sj x Aa) (okQ_max x Aa) hsz λh=>HU h hm _ _ _ Aa Aa) λv w' ⟨h1,h2⟩=>⟨?_,h2⟩;rw[h1,Mt,Vs];split <;> rfl
theorem LP(x:Tree)(S:Nat->Prop)(w0:World)(cs:List Value)(rx:Rep S w0 (Na x) cs)(hG:Gl w0)(hsz:La x<=1000000000)(hm:Ob x<=1073741824):Calls prog 38 #[.agg cs.toArray] w0 (Za λv w'=>v=.tuple #[I (Mt (Zc x)),J (Vs (Zc x))]/\Same [] w0 w'):=by
 have hl:aL cs=4:=rx.length.trans<|Bb x;have ho:=rx.one_;refine Ea func38 ntmps38 ?_;intro hF;refine rn 2<|Gk (v:=.agg<|List.toArray cs) (cs:=(List.toArray cs)) hF O O ?_;rintro b1 w hb1 hF -;refine rn 6<|Ba (v:=.agg<|List.toArray cs) (Ma (l:=cs) qZ uZ O hl<|hF.cellsAll 0 O) ?_;refine Fc (GT x hsz _ _ cs (hF.rep rx) (Sj x Aa)<|hG.ext hF.same) ?_;rintro _ w ⟨c1,rfl,hRt,hE⟩;have hlc1:aL c1=4:=hRt.length.trans<|Bb _;have hoc1:=hRt.one_;have hX1:=RX.made (ids:=[b1]) hF.same.size (λx hx=>hF.lt_ids qK) hRt;have hF:=hF.ext hE;clear hE hRt;refine Ia (comp_c (Zc x) _ _ c1 hX1.rep (hG.ext hF.same) (WH x hsz)<|fQ (R2 x) hm) ?_;rintro w hF -;refine rn 7 ?_;exact⟨O,hF.same⟩
def nq(q:Bool)(c:UInt8):Bool:=if c=34 then !q else q
def IF(q:Bool)(c:UInt8)(l:Str):Str:=if nq q c=true\/(c≠32/\c≠10) then c::l else l
def Jq:Bool->Str->Str
  | _,[]=>[]
  | q,[c]=>IF q c []
  | q,c::d::r=>if q=true/\c=92 then c::d::Jq q r else IF q c (Jq (nq q c) (d::r))
theorem x_convSl{P:Program}{w0 w:World}{Ds:List Nat}{ρ:Operand->Value}{dst:Option Nat}{ty:TypeId}{pos:String}{aft:Array Edge}{g:Option (Nat × Bool)}{t':Nat}{A:Option Addr}{c:Nat}{s:Str}{pre post sb:List (Nat × Obj)}
    (hS:SlB 5 1 A (aL s) c (Lib.byteCells s) sb) (hF:FR w0 Ds (pre++(sb++post)) w) (ht:P.underlying t=some (.slice 5)) (he:P.underlying 5=some (.int .u8)) (hd:P.underlying t'=some .string) (hx:ρ x=.slice A (aL s) c) :
    (execOp ρ ⟨dst,.convert t t' x,ty,pos,aft,g⟩).run P w=.ok (.value (I s)) w:=by
  cases A with
  | some a=>exact KJ s ht he hd hx rfl λj hj=>hS.cells hF a rfl j _ (by simp[Lib.byteCells,hj])
  | none =>
    have h0:aL s=0:=by
      rcases hS.2 with ⟨h,-⟩|⟨g,cur,h,-⟩
      ·exact h
      cases h
    obtain rfl:=List.eq_nil_of_length_eq_zero h0;have h:=Lib.run_convert_nil_bytes (P:=P) w t t' 5 c ht he hd;simp only[execOp,hx];simp_all
def Bal(a b:Str):Prop:=∀r,Jq false (a++r)=b++Jq false r
def Inq(a:Str):Prop:=∀r,Jq true (a++r)=a++Jq true r
theorem U_{q:Bool}{c:UInt8}{r:Str}(h:¬(q=true/\c=92)):Jq q (c::r)=IF q c (Jq (nq q c) r):=by
  cases r with
  | nil=>rw[Jq,Jq]
  | cons d r=>grind [Jq]
def Bal.nil:Bal [] []:=λ_=>rfl
def Bal.app{a' b':Str}(h:Bal a a')(k:Bal b b'):Bal (a++b) (a'++b'):=λr=>by rw[sQ,h,k,sQ]
def Inq.nil:Inq []:=λ_=>rfl
def Inq.app(h:Inq a)(k:Inq b):Inq (a++b):=λr=>by rw[sQ,h,k,sQ]
theorem Bal.byte{c:UInt8}(h1:c≠34)(h2:c≠32)(h3:c≠10):Bal [c] [c]:=λr=>by
  grind [Jq,U_,IF,nq]
theorem Bal.bytes:∀{a:Str},(∀c∈a,c≠34/\c≠32/\c≠10)->Bal a a
  | [],_=>Bal.nil
  | c :: a, h => by
    have h1:=h c Da;exact (Bal.byte h1.1 h1.2.1 h1.2.2).app (Bal.bytes λd hd=>h d (by simp[hd]))
theorem Inq.byte{c:UInt8}(h1:c≠34)(h2:c≠92):Inq [c]:=λr=>by
  grind [Jq,U_,IF,nq]
theorem Inq.bytes:∀{a:Str},(∀c∈a,c≠34/\c≠92)->Inq a
  | [],_=>Inq.nil
  | c :: a, h => by
    have h1:=h c Da;exact (Inq.byte h1.1 h1.2).app (Inq.bytes λd hd=>h d (by simp[hd]))
theorem IH{r:Int}(h:128<=r):∀x∈Lib.encodeRuneZ r,128<=x:=by
  intro x hx;by_cases h1:r<=2047
  ·rw[Lib.encodeRuneZ_two h h1]at hx
   grind
  by_cases h2:(2048<=r/\r<55296)\/(57343<r/\r<=65535)
  ·rw[Lib.encodeRuneZ_three h2]at hx
   grind
  by_cases h3:65536<=r/\r<=1114111
  ·rw[Lib.encodeRuneZ_four h3.1 h3.2]at hx
   grind
  rw[Lib.encodeRuneZ_bad Aa]at hx;simp at hx;omega
def nl(s:Str):Nat:=s.count 10
def Uf(b:UInt8):Str:=if b.toNat<128 then St b.toNat else [b]
def Zr:Str->Str
  | []=>[]
  | b::s=>Uf b++Zr s
theorem U5:∀a b:Str,Zr (a++b)=Zr a++Zr b
  | [],b=>rfl
  | x::a,b=>by rw[List.cons_append,Zr,Zr,U5 a b,sQ]
def VX(r:Int):Lib.encodeRune r=Od r:=rfl
theorem FA:∀{s:Str},(∀c∈s,128<=c.toNat)->Zr s=s
  | [],_=>rfl
  | c :: s, h => by
    have h1:=h c Da;rw[Zr,Uf,tQ Aa,FA λd hd=>h d (by simp[hd])];rfl
theorem esc_high(h:128<=r):St r=Od r:=by grind [If,St]
theorem GN(h:128<=r):∀c∈Od r,128<=c.toNat:=by
  intro c hc;obtain⟨x,hx,rfl⟩:=nQ.1 hc;have hb:=Lib.encodeRuneZ_byte _ x hx;have:=IH (by omega:(128:Int)<=r) x hx;simp only[UInt8.toNat_ofNat'];omega
theorem XX(r:Nat):St r=Zr (Od r):=by
  by_cases h:r<128
  ·have e:Od (r:Int)=[UInt8.ofNat r]:=by
     rw[Od,Lib.encodeRuneZ_one Aa Aa];simp
   have e2:(UInt8.ofNat r).toNat=r:=by simp only[UInt8.toNat_ofNat'];omega
   grind [Zr,Uf]
  grind [esc_high,FA,GN]
theorem HF(s:Str)(p:Nat):Lib.validD (s.drop p)=true->Hs s p=Zr (s.drop p):=by
  induction h:aL s-p using Nat.strongRecOn generalizing p with
  | ind n ih =>
    intro hv;by_cases hp:p<aL s
    ·have hne : s.drop p ≠ [] := by simp_all
     rw[Lib.validD_step _ hne]at hv;split at hv
     ·cases hv
     rename_i hok
     have he:=Lib.encode_decode (s.drop p) hne hok;rw[Jh]at he hv;have h2:=Pd s p;rw[List.drop_drop]at hv;rw[Xn hp,ih (aL s-(p+(Utf8.decode (bs s) p).2)) Aa _ rfl hv,XX,<-VX,he,<-List.drop_drop,<-U5,List.take_append_drop]
    rw[Y0 hp,List.drop_eq_nil_of_le Aa];rfl
theorem GG{s:Str}(h:Lib.validD s=true):Pv s=[34]++(Zr s++[34]):=by grind [Pv,HF]
def WD:Str->Bool
  | [c]=>decide (c≠92)&&decide (c≠34)
  | [a,c]=>decide (a=92)&&decide (c≠117)
  | [a,c,_,_,_,_]=>decide (a=92)&&decide (c=117)
  | _=>false
def DI:∀n<256,WD (Uf (UInt8.ofNat n))=true:=by decide +kernel
theorem WM(b:UInt8):WD (Uf b)=true:=by
  have:=DI b.toNat<|UInt8.toNat_lt b;simp_all
theorem RH{p:Str}(h:WD p=true):(∃c,p=[c]/\c≠92/\c≠34)\/(∃c,p=[92,c]/\c≠117)\/(∃a b c d,p=[92,117,a,b,c,d]):=by
  unfold WD at h;grind
def Ends(r:Str):Prop:=∀c s,r=c::s->c=44\/c=93\/c=125
def Ends.nil:Ends []:=λc s h=>by cases h
def P2{k:Int}{t:Str}{ks:List Str}{xs:List Tree}(h:rnodeB (.node k t ks xs)=true) :
    (k=1/\t=[]/\ks=[]/\xs=[])\/(k=2/\(t=[116,114,117,101]\/t=[102,97,108,115,101])/\ks=[]/\xs=[])\/(k=3/\Bh t=true/\ks=[]/\xs=[]) \/
    (k=4/\Lib.validD t=true/\ks=[]/\xs=[])\/(k=5/\t=[]/\ks=[])\/(k=6/\t=[]/\ks.Nodup/\(∀x∈ks,Lib.validD x=true)/\aL ks=aL xs):=by
  unfold rnodeB at h;rw[vQ,xQ]at h;obtain⟨h7,h⟩:=h;have h7':k≠7:=h7;simp only[nodeB]at h;by_cases h5:k=5
  ·rw[uQ h5]at h
   simp at h;exact .inr<|.inr<|.inr<|.inr<|.inl ⟨h5,h.2,h.1⟩
  rw[tQ h5]at h;by_cases h6:k=6
  ·rw[uQ h6]at h
   simp[Wj]at h;exact .inr<|.inr<|.inr<|.inr<|.inr ⟨h6,h.2,h.1.1.1,h.1.1.2,Aa⟩
  rw[tQ h6]at h;by_cases hh:ks≠[]\/xs≠[]
  ·rw[uQ hh]at h
   cases h
  rw[tQ hh]at h;have hk:ks=[]:=Classical.byContradiction λhc=>hh<|.inl hc;have hx:xs=[]:=Classical.byContradiction λhc=>hh<|.inr hc;by_cases h1:k=1
  ·rw[uQ h1]at h
   simp at h;exact .inl ⟨h1,h,hk,hx⟩
  rw[tQ h1]at h;by_cases h2:k=2
  ·rw[uQ h2]at h
   simp at h;exact .inr<|.inl ⟨h2,h,hk,hx⟩
  rw[tQ h2]at h;by_cases h3:k=3
  ·rw[uQ h3]at h
   exact .inr<|.inr<|.inl ⟨h3,h,hk,hx⟩
  rw[tQ h3]at h;by_cases h4:k=4
  ·rw[uQ h4]at h
   exact .inr<|.inr<|.inr<|.inl ⟨h4,h,hk,hx⟩
  rw[tQ h4,tQ h7']at h;cases h
open Go.RowKit
def Ed(s:Sd):Tree:=.node 5 [] [] (if s.has then [s.val] else [])
def Uo(s:Sd)(k:Int):Bool:=!s.has || (Id s.val&&(decide (k≠5) || decide (s.val.kind=5)))
def Rt(c:Cf):Bool:=Uo c.b c.cls&&(Uo c.l c.cls&&(Uo c.r c.cls&&(decide (1<=c.cls)&&decide (c.cls<=6))))
def Xv(x y:Tree):Tree × Tree:=if Vd y x<0 then (y,x) else (x,y)
def clsT(k:Int):Tree:=.node 3 (Ch (XJ k)) [] []
def IC(c:Cf):Tree:=.node 5 [] [] [clsT c.cls,Ed c.b,(Xv (Ed c.l) (Ed c.r)).1,(Xv (Ed c.l) (Ed c.r)).2]
def Nj(c:Cf):Str × Bool:=if Rt c=true then (Mt (Zc (IC c)),decide (Vs (Zc (IC c))=0)) else ([],false)
def Dr(a b:Str):Jf a b=decide (a<b):=Go.Proofs.bytesLess_eq a b
structure Mm where
  pr:Str
  sd:Sd
def Dq(v:Tree):Bool:=decide (v.kind=0)&&(decide (v.text=[])&&(decide (v.keys=[])&&decide (v.items=[])))
def Di(m:Mm):Bool:=Lib.validD m.pr&&(Uo m.sd 0&&(m.sd.has || Dq m.sd.val))
def Po(t:List Mm)(i:Nat):Bool:=match t[i]? with
  | none=>true
  | some m => Di m&&(match i with
    | 0=>true
    | j + 1 => match t[j]? with
      | none=>true
      | some q=>Jf q.pr m.pr)
def Tf(t:List Mm):Bool:=(List.range (aL t)).all (Po t)&&decide (aL t<=256)
def Nt(s:Sd):Sd:=if s.has then ⟨true,s.val⟩ else noS
def Hf(t:List Mm)(p:Str):Nat:=aL (t.takeWhile λm=>Jf m.pr p)
def O9(t:List Mm)(p:Str):Bool:=match t[Hf t p]? with|some m=>decide (m.pr=p)|none=>false
def Vf(t:List Mm)(c:Cf):Nat × Bool:=if (Nj c).2&&Tf t then (Hf t (Nj c).1,O9 t (Nj c).1) else (0,false)
def Ti(t:List Mm)(c:Cf)(s:Sd):List Mm × Int :=
  if Tf t&&((Nj c).2&&(Uo s c.cls && !(decide (c.cls=5) && !s.has))) then
    let p:=(Nj c).1
    let k:=Hf t p
    if O9 t p then (t.take k++⟨p,Nt s⟩::t.drop (k+1),0) else if aL t=256 then ([],11) else (t.take k++⟨p,Nt s⟩::t.drop k,0)
  else ([],1)
def Ei(t:List Mm)(c:Cf):Sd × Bool:=if (Vf t c).2 then (match t[(Vf t c).1]? with|some m=>m.sd|none=>noS,true) else (noS,false)
def Asc(t:List Mm):Prop:=t.Pairwise λa b=>a.pr<b.pr
def H0{c:Str}(h1:a<b)(h2:b<c):a<c:=List.lt_trans h1 h2
def PE:¬a<a:=List.lt_irrefl a
def ZP(h1:¬a<b)(h2:¬b<a):a=b:=List.le_antisymm (List.not_lt.1 h2) (List.not_lt.1 h1)
theorem asc_of:∀(t:List Mm),(∀i,Po t i=true)->Asc t/\∀m∈t,Di m=true
  | [],_=>⟨List.Pairwise.nil,λ_ h=>zX⟩
  | m :: t, h => by
    have hm:Di m=true:=by have:=h 0;simp only[Po,List.getElem?_cons_zero,Bool.and_true]at this;exact this
    have ht:∀i,Po t i=true:=λi=>by
      have h1:=h<|i+1;unfold Po at h1 ⊢;rw[List.getElem?_cons_succ]at h1;cases hi:t[i]? with
      | none=>rfl
      | some q =>
        rw[hi]at h1;simp only[vQ]at h1 ⊢;refine⟨h1.1,?_⟩;cases i with
        | zero=>rfl
        | succ j=>simpa using h1.2
    obtain⟨h1,h2⟩:=asc_of t ht;refine⟨List.pairwise_cons.2 ⟨λq hq=>?_,h1⟩,λq hq=>?_⟩
    ·cases t with
     | nil=>cases hq
     | cons y t =>
       have hy:m.pr<y.pr:=by
         have:=h 1;simp only[Po,List.getElem?_cons_succ,List.getElem?_cons_zero,vQ,Dr,xQ]at this;exact this.2
       rcases oQ.1 hq with rfl|hq
       ·exact hy
       exact H0 hy<|(List.pairwise_cons.1 h1).1 q hq
    rcases oQ.1 hq with rfl|hq
    ·exact hm
    exact h2 q hq
def asc_to{t:List Mm}(h:Asc t)(hm:∀m∈t,Di m=true):∀i,Po t i=true:=λi=>by
  unfold Po;cases hi:t[i]? with
  | none=>rfl
  | some m =>
    obtain⟨hlt,rfl⟩:=List.getElem?_eq_some_iff.1 hi;simp only[vQ];refine⟨hm _<|eQ hlt,?_⟩;cases i with
    | zero=>rfl
    | succ j =>
      simp only;rw[List.getElem?_eq_getElem Aa];simp only[Dr,xQ];exact List.pairwise_iff_getElem.1 h j (j+1) Aa hlt Aa
def Hw{t:List Mm}:Tf t=true↔Asc t/\(∀m∈t,Di m=true)/\aL t<=256:=by
  unfold Tf;rw[vQ,List.all_eq_true,xQ];constructor
  ·rintro⟨h, hl⟩
   have:=asc_of t λi=>by
     rcases Nat.lt_or_ge i (aL t) with hi|hi
     ·exact h i<|List.mem_range.2 hi
     unfold Po;rw[List.getElem?_eq_none hi]
   exact⟨this.1,this.2,hl⟩
  rintro⟨h1, h2, h3⟩;exact⟨λi _=>asc_to h1 h2 i,h3⟩
def has_c(x:Tv)(w0:World):Calls prog 161 #[.agg (x.cells).toArray] w0 (Za λv w'=>v=.agg #[.bool true,J (x.k),I (x.t),.slice x.A x.n x.c,.slice x.B x.m x.e]/\Same [] w0 w'):=by
 refine Ea func161 ntmps161 ?_;intro hF;refine rn 3 ?_;rintro b1 w hb1 hF -;refine rn 1 ?_;rintro b2 w hb2 hF -;refine rn 5<|Ba (w':=w) (v:=.agg #[.bool true,J x.k,I x.t,.slice x.A x.n x.c,.slice x.B x.m x.e]) Ua ?_;refine rn 1 ?_;rintro w hF -;refine rn 3 ?_;exact⟨O,hF.same⟩
structure SdOk (s:Sd):Prop where
  sz:La s.val<=1000000000
  ok:To s.val
theorem X8(s:Sd)(x:Sv)(S:Nat->Prop)(w0:World)(hX:Rep S w0 (Ad s) x.cells)(hs:SdOk s)(hG:Gl w0):Calls prog 221 #[.agg x.cells.toArray] w0 (Za λv w'=>∃y:Sv,v=.agg y.cells.toArray/\Rep (Btw w0 w') w' (Ad (Gj s)) y.cells/\Same [] w0 w'):=by
 have hx:=Lc hX;refine Ea func221 ntmps221 ?_;intro hF;refine rn 3 ?_;rintro b1 w hb1 hF -;refine rn 1 ?_;rintro b2 w hb2 hF -;refine rn 11 ⟨λhc0=>?_,λhc0=>?_⟩;have h0:s.has=false:=by rw[<-hx.1];simpa using hc0
 refine rn 2<|Ba (w':=w) (v:=.agg #[.bool false,J 0,I [],aQ,aQ]) Ua ?_;refine rn 1 ?_;rintro w hF -;refine rn 3 ?_;have e:Gj s=noS:=by rw[Gj,tQ bR]
 rw[e];exact⟨⟨false,Z8⟩,O,Ul,hF.same⟩;have h0:s.has=true:=by rw[<-hx.1];simpa using hc0
 refine rn 6<|Fc (NR s.val hs.sz _ _ x.v.cells (hF.rep hx.2.2.2.2) hs.ok<|hG.ext hF.same) ?_;rintro _ w ⟨ct,rfl,hRt,hE⟩;obtain⟨q,rfl,-⟩:=Pe hRt;have hYX:=RX.made (ids:=[b2,b1]) hF.same.size (λx hx=>hF.lt_ids qK) hRt;have hF:=hF.ext hE;clear hE hRt;refine Ia (has_c q _) ?_;intro w hF hE;have hYX:=hYX.ext hE;refine rn 1 ?_;intro w hF hE;have hYX:=hYX.store hE qK;refine rn 3 ?_;have e:Gj s=⟨true,Gs s.val⟩:=by rw[Gj,uQ h0]
 rw[e]
 ·exact⟨⟨true,q⟩,O,B3 (s:=⟨true,Gs s.val⟩) hYX.done,hF.same⟩
def C5(l:MapL)(k:Str)(v:Value):MapL:=match l.findIdx? (λx=>decide (x.1=k))with
  | some i=>l.set i (k,v)
  | none=>l++[(k,v)]
theorem N7{k:Str}(h:l.findIdx? (λx=>decide (x.1=k))=some i):∃hi:i<aL l,l[i].1=k:=by
  obtain⟨hi,h1,-⟩:=List.findIdx?_eq_some_iff_getElem.1 h;grind
theorem Tj(x:Str × Value)(l:MapL)(k:Str):Ie (x::l) k=if x.1=k then some x.2 else Ie l k:=by grind [Ie]
theorem IA(v:Value)(k k':Str):∀l:MapL,Ie (C5 l k v) k'=if k=k' then some v else Ie l k'
  | [] => by
    have e:C5 [] k v=[(k,v)]:=rfl;rw[e,Tj]
  | x :: l => by
    have ih:=IA v k k' l;unfold C5 at ih ⊢;rw[List.findIdx?_cons];by_cases h:x.1=k
    ·simp only[h, decide_true, if_true, List.set_cons_zero]
     rw[Tj,Tj];by_cases h2:k=k'
     ·rw[uQ h2,uQ h2]
     rw[tQ h2,tQ h2,tQ λe=>h2<|h▸e]
    simp only[h, decide_false, Bool.false_eq_true, if_false];cases hf:l.findIdx? (λx=>decide (x.1=k))with
    | none =>
      rw[hf]at ih;simp only[Option.map_none,List.cons_append]at ih ⊢;rw[Tj,ih,Tj];by_cases h2:x.1=k'
      ·rw[uQ h2,tQ λe=>h<|h2.trans e.symm,uQ h2]
      rw[tQ h2,tQ h2]
    | some i =>
      rw[hf]at ih;simp only[Option.map_some,List.set_cons_succ]at ih ⊢;rw[Tj,ih,Tj];by_cases h2:x.1=k'
      ·rw[uQ h2,tQ λe=>h<|h2.trans e.symm,uQ h2]
      rw[tQ h2,tQ h2]
section
variable {P:Program}{R:Exit->Act->World->Prop}{n:Nat}{k:Kt}{s:Nat->Value}{w:World}{ops rest:List Oper}
variable {d:Nat}{ty:TypeId}{pos:String}{aft:Array Edge}{g:Option (Nat × Bool)}
variable {w0:World}{Ds:List Nat}{bs_:List (Nat × Obj)}{ρ:Operand->Value}{dst:Option Nat}
theorem YI(l:MapL){key:Str}(hi:i<aL l) :
    ((Fb l 0).toArray.modify i λe=>{ e with key:=I key,val:=v })=(Fb (l.set i (key,v)) 0).toArray:=by grind [Ci,H2]
theorem HW{b:Nat}{key:Str}(ht:P.underlying t=some (.map kt e))(hk:P.underlying kt=some .string)
    (hx:ρ x=.map (some b)) (hy:ρ y=I key) (hv:ρ z=v) (hb:w.heap[b]? = some (Vc l)) :
    (execOp ρ ⟨dst,.mapUpdate t x y z,ty,pos,aft,g⟩).run P w=.ok .skip { w with heap:=w.heap.setIfInBounds b (Vc (C5 l key v)) }:=by
  unfold C5;cases hf:l.findIdx? (λx=>decide (x.1=key))with
  | none=>grind [Ie,Yt,W1]
  | some i =>
    obtain⟨hi,hik⟩:=N7 hf;have hfk:(l.findIdx? λy=>decide (y.1=key)).bind (λj=>(l[j]?).map λy=>(j,y.2))=some (i,l[i].2):=qK
    have hs:=X6 (P:=P) (o:=Vc<|l.set i (key,v)) hb ⟨_,_,rfl⟩;have ho:Vc (l.set i (key,v))=.map ((Fb l 0).toArray.modify i λe=>{ e with key:=I key,val:=v }) (aL l):=by
      rw[YI l hi,Vc];simp
    rw[ho]at hs ⊢;have hes:(((Fb l 0).toArray[i]?).map (·.key)).getD (I key)=I key:=by
      have e1:=H2 l 0 i hi;grind
    have hkt:(Instr.keyThatStays (I key)<|I key).run P w=.ok (I key) w:=by simp[Instr.keyThatStays,Instr.sameBits,RR]
    simp only[execOp,Instr.mapUpdate,hx,hy,hv,Sem.run_bind,run_underlying ht,Co hb,An hk,Cp hk,Result.andThen,hfk,hes,hkt,hs];rfl
def RT(i:Nat){b:Nat}{key:Str}(hF:FR w0 Ds bs_ w)(ht:P.underlying t=some (.map kt e))(hk:P.underlying kt=some .string)
    (hx:ev n s x=.map (some b)) (hy:ev n s y=I key) (hv:ev n s z=v) (hi:bs_[i]? = some (b,Vc l))
    (h:∀w',FR w0 Ds (bs_.set i (b,Vc (C5 l key v))) w'->Same [b] w w'->Og P R n ops k rest s w')
    (hw:Ka ops n s ⟨none,.mapUpdate t x y z,ty,pos,aft,g⟩=true:=by rfl):Og P R n ops k (⟨none,.mapUpdate t x y z,ty,pos,aft,g⟩::rest) s w :=
  Z0 (HW ht hk hx hy hv<|hF.heap hi) (h _ (hF.setObj i hi)<|Ts w b _) hw
end
end Go.Scarf
namespace Go.Scarf
open List renaming length->aL
open Go.RowKit Go.Proofs Go.Proofs.Tryz
def rep_leaf(k:Int)(t:Str)(hk:-9223372036854775808<=k/\k<=9223372036854775807)(ht:aL t<=9223372036854775807)(w:World):Rep (λ_=>True) w (Na (.node k t [] [])) [J k,I t,aQ,aQ]:=Rep.tree_mk (ks:=[]) (xs:=[]) hk ht (Rep.nil_slice 0 Aa none) (Rep.nil_slice 0 Aa none)
end Go.Scarf
