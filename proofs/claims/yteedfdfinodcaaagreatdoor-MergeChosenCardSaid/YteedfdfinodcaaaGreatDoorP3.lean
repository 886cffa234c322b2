/- A part of the proof. -/
import Derived.Test.YteedfdfinodcaaaGreatDoorBd
import Derived.Lib.BufferRead
import Derived.Lib.ItoaMem
import Derived.Lib.DecodeN
import Derived.Lib.ParseIntBCases
import Derived.Sort.Walk0
import Derived.Laws.Slices
set_option linter.all false
set_option maxHeartbeats 8000000
set_option maxRecDepth 10000
namespace Go.Scarf
open List renaming length->aL
theorem BS:∀{xs:List Tree},(∀x∈xs,FQ x)->PP xs
  | [],_=>by rw[PP];trivial
  | x::xs,h=>by rw[PP];exact⟨h x Ca,BS λy hy=>h y qD⟩
mutual
def Hb:Tree->Nat|.node _ t ks xs=>max (aL t) (max (Th ks) (Xf xs))
def Xf:List Tree->Nat|[]=>0|x::xs=>max (Hb x) (Xf xs)
def Th:List Str->Nat|[]=>0|k::ks=>max (aL k) (Th ks)
end
theorem Si:∀{ks:List Str}{k:Str},k∈ks->aL k<=Th ks
  | y :: ys, k, h => by
    rw[Th];rcases oQ.1 h with rfl|h
    ·omega
    have:=Si h;omega
theorem Nd:∀{xs:List Tree}{x:Tree},x∈xs->Hb x<=Xf xs
  | y :: ys, k, h => by
    rw[Xf];rcases oQ.1 h with rfl|h
    ·omega
    have:=Nd h;omega
theorem Rs{n:Nat}:∀{ks:List Str},(∀k∈ks,aL k<=n)->Th ks<=n
  | [],_=>by rw[Th];omega
  | k :: ks, h => by
    rw[Th];have h1:=h k Ca;have h2:=Rs (λy hy=>h y qD:∀k∈ks,aL k<=n);omega
theorem Jq{n:Nat}:∀{xs:List Tree},(∀x∈xs,Hb x<=n)->Xf xs<=n
  | [],_=>by rw[Xf];omega
  | k :: ks, h => by
    rw[Xf];have h1:=h k Ca;have h2:=Jq (λy hy=>h y qD:∀x∈ks,Hb x<=n);omega
def okQ_max(x:Tree):Hb x<=17592186044416->FQ x:=Tree.ind (Q:=λx=>Hb x<=17592186044416->FQ x) (λk t ks xs ih h=>by
  rw[Hb]at h;rw[FQ];exact⟨by_Om,λk hk=>by have:=Si hk;omega,BS λy hy=>ih y hy (by have:=Nd hy;omega)⟩) x
def Ae(x:Tree):Hb x<=17592186044416->Rw x:=Tree.ind (Q:=λx=>Hb x<=17592186044416->Rw x) (λk t ks xs ih h=>by
  rw[Hb]at h;rw[Rw];exact⟨by_Om,λk hk=>by have:=Si hk;omega,RS λy hy=>ih y hy (by have:=Nd hy;omega)⟩) x
theorem FV(x:Tree):Lj x=true->Hb x<=2048:=Tree.ind (Q:=λx=>Lj x=true->Hb x<=2048) (λk t ks xs ih h=>by
  rw[Lj,vQ,vQ,wQ,List.all_eq_true]at h;rw[Hb];have h1:Th ks<=2048:=Rs λk hk=>by have:=h.1.2 k hk;simp only[wQ]at this;omega
  have key:∀ys:List Tree,(∀y∈ys,y∈xs)->Hp ys=true->Xf ys<=2048:=by
    intro ys
    induction ys with
    | nil=>intro _ _;rw[Xf];omega
    | cons y ys ihy =>
      intro hm hs;rw[Hp,vQ]at hs;rw[Xf];have a:=ih y (hm y Ca) hs.1;have b:=ihy (λz hz=>hm z qA) hs.2;omega
  have h2:=key xs (λ_ h=>h) h.2;omega) x
theorem max_sort(x:Tree):Hb (sortT x)<=Hb x:=Tree.ind (Q:=λx=>Hb (sortT x)<=Hb x) (λk t ks xs ih=>by
  have hs:∀y∈Od xs,Hb y<=Xf xs:=by
    intro y hy;rw[Uh]at hy;obtain⟨z,hz,rfl⟩:=nQ.1 hy;exact fQ (ih z hz)<|Nd hz
  rw[sortT];split
  ·rw[Hb, Hb]
   have h1:Th (We ks)<=Th ks:=Rs λk hk=>Si<|Xl.1 hk;have h2:Xf ((We ks).map λkey=>(Jc ks (Od xs) key).getD (.node 0 [] [] []))<=Xf xs:=Jq λy hy=>by
     obtain⟨key,_,rfl⟩:=nQ.1 hy;cases hl:Jc ks (Od xs) key with
     | none=>simp[Hb,Th,Xf]
     | some z=>exact hs z<|Vj hl
   omega
  rw[Hb, Hb];have h2:=Jq hs;have h3:Th []=0:=by rw[Th]
  omega) x
theorem Xx(m:Bool)(ind d:Nat)(D:Nat)(hD:d+1<=D):∀(ps:List Str)(b:Bool),aL (Vp m ind d b ps)<=(ps.map λp=>aL p+(2+ind*D)).sum
  | [],b=>by rw[Vp];simp
  | p :: ps, b => by
    have h1:=Xx m ind d D hD ps false;have h2:=Gx m ind<|d+1;have h3:ind*(d+1)<=ind*D:=Nat.mul_le_mul_left _ hD;have h4:aL (if b=true then ([]:Str) else [44])<=1:=by split <;> simp
    rw[Vp,iZ,List.sum_cons];simp only[dQ];omega
def VU(m:Bool)(ind L D:Nat)(x:Tree):∀d,Hb x<=L->d+Db x<=D->aL (Zj m ind x d)+(6*L+6+ind*D)<=Ja x*(12*L+40+2*(ind*D)) :=
  Tree.ind (Q:=λx=>∀d,Hb x<=L->d+Db x<=D->aL (Zj m ind x d)+(6*L+6+ind*D)<=Ja x*(12*L+40+2*(ind*D))) (λk t ks xs ih d hL hd=>by
  rw[Hb]at hL;rw[Db]at hd;have hq:=IB t;have hl:=Gx m ind d;have hid:ind*d<=ind*D:=Nat.mul_le_mul_left _ fX;have key1:∀ys:List Tree,(∀y∈ys,y∈xs)->((Xt m ind ys<|d+1).map λp=>aL p+(2+ind*D)).sum<=Oa ys*(12*L+40+2*(ind*D)):=by
    intro ys
    induction ys with
    | nil=>intro _;simp[Xt]
    | cons y ys ihy =>
      intro hm;have h1:=ih y (hm y Ca) (d+1) (by have:=Nd<|hm y Ca;omega) (by have:=Xe<|hm y Ca;omega);have h2:=ihy λz hz=>hm z qA;rw[Xt,iZ,List.sum_cons,Oa,Nat.add_mul];omega
  have key2:∀(ys:List Tree)(js:List Str),(∀y∈ys,y∈xs)->(∀k∈js,aL k<=L)->((Yn m ind ys js<|d+1).map λp=>aL p+(2+ind*D)).sum<=Oa ys*(12*L+40+2*(ind*D)):=by
    intro ys
    induction ys with
    | nil=>intro _ _ _;simp[Yn]
    | cons y ys ihy =>
      intro js hm hj;have h1:=ih y (hm y Ca) (d+1) (by have:=Nd<|hm y Ca;omega) (by have:=Xe<|hm y Ca;omega);have h2:=ihy js.tail (λz hz=>hm z qA) λk hk=>hj k<|List.mem_of_mem_tail hk;have h3:aL (js.headD [])<=L:=by
        cases js with
        | nil=>simp
        | cons a b=>exact hj a Ca
      have h4:=IB<|js.headD [];have h5:aL (if m=true then ([32]:Str) else [])<=1:=by split <;> simp
      rw[Yn,iZ,List.sum_cons,Oa,Nat.add_mul];simp only[dQ,kQ,aZ];omega
  have fin:∀(o c:UInt8)(ps:List Str)(N:Nat),(xs=[]->ps=[])->(ps.map λp=>aL p+(2+ind*D)).sum<=N->aL (Dq m ind d o c ps)+(6*L+6+ind*D)<=1*(12*L+40+2*(ind*D))+N:=by
    intro o c ps N he hN;have h5:aL (if ps=[] then ([]:Str) else Co m ind d)<=1+ind*D:=by
      split
      ·simp
      omega
    have h6:aL (Vp m ind d true ps)<=N:=by
      by_cases hp:ps=[]
      ·subst hp;rw[Vp];simp
      have hx : xs ≠ [] := λh => hp (he h);have h7:1<=Ya xs:=by
        cases xs with
        | nil=>exact absurd rfl hx
        | cons a b => rw[Ya];have : 1 <= Db a := by (obtain⟨_, _, _, _⟩ := a;rw[Db];omega)
                      omega
      exact fQ (Xx m ind d D fX ps true) hN
    rw[Dq];simp only[dQ,kQ,aZ];omega
  rw[Zj,Ja,Nat.add_mul];split
  ·simp only[kQ,aZ];omega
  split
  ·omega
  split
  ·exact fin _ _ _ _ (λh=>by rw[h,Xt])<|key1 xs λ_ h=>h
  split
  ·exact fin _ _ _ _ (λh=>by rw[h,Yn])<|key2 xs ks (λ_ h=>h) (λk hk=>by have:=Si hk;omega)
  omega) x
def Is(x:Tree):Str:=if Eb x=true then Zj false 0 x 0 else []
def OQ(x:Tree):Int:=if Eb x=true then 0 else 1
theorem Eu(q:Tree->Bool):∀xs:List Tree,Er q xs=xs.all (Zb q)
  | []=>rfl
  | x::xs=>by rw[Er,Eu q xs];rfl
def no7(x:Tree):Bool:=decide (x.kind≠7)
def allT_and(p q:Tree->Bool)(x:Tree):Zb (λx=>p x&&q x) x=(Zb p x&&Zb q x):=Tree.ind (Q:=λx=>Zb (λx=>p x&&q x) x=(Zb p x&&Zb q x)) (λk t ks xs ih=>by
  rw[Zb,Zb,Zb,Eu,Eu,Eu];have h:xs.all (Zb λx=>p x&&q x)=(xs.all (Zb p)&&xs.all (Zb q)):=by
    rw[Bool.eq_iff_iff,vQ,List.all_eq_true,List.all_eq_true,List.all_eq_true];refine⟨λg=>⟨λy hy=>?_,λy hy=>?_⟩,λg y hy=>?_⟩
    ·have:=g y hy;rw[ih y hy,vQ]at this;exact this.1
    ·have:=g y hy;rw[ih y hy,vQ]at this;exact this.2
    rw[ih y hy,vQ];exact⟨g.1 y hy,g.2 y hy⟩
  rw[h];cases p (.node k t ks xs) <;> cases q (.node k t ks xs) <;> simp) x
theorem right_eq(x:Tree):Eb x=(Ke x&&Zb no7 x):=by
  have h:Zb rnodeB x=(Zb no7 x&&Zb nodeB x):=allT_and no7 nodeB x;rw[Eb,Ke,h];cases Um x <;> cases Zb no7 x <;> simp
theorem Ci{x:Tree}(h:Eb x=true):Ke x=true:=by grind [right_eq]
theorem F3(x:Tree)(h:Ja x<=1000000000):Ja (Oe x)<=1000000000:=by
  by_cases ho:Ke x=true
  ·grind [Mp,Vy,Aj]
  rw[Oe, tQ ho];decide
theorem Np(x:Tree):Hb (Oe x)<=Hb x:=by
  by_cases ho:Ke x=true
  ·grind [Mp,max_sort]
  rw[Oe, tQ ho];have:Hb zeroT=0:=Pa
  omega
open Go.RowKit
structure Sd where
  has:Bool
  val:Tree
structure Cf where
  path:List Str
  cls:Int
  b:Sd
  l:Sd
  r:Sd
structure Rl where
  pat:List Str
  key:Str
def noS:Sd:=⟨false,zeroT⟩
def Ee:Option Tree->Sd
  | some x=>⟨true,x⟩
  | none=>noS
def Sj(n:Nat):Str:=Nm (NG n)
def Sh(n:Nat):Tree:=.node 7 (Sj n) [] []
def Zk(s:Sd):Sd:=if s.has=true then ⟨true,Jy s.val⟩ else noS
def Fh(c:Cf)(p:Int):Sd × Bool:=if p=0 then (Zk c.b,true) else if p=1 then (Zk c.l,true) else if p=2 then (Zk c.r,true) else (noS,false)
mutual
def Xc:Tree->List Str
  | .node k t _ xs=>(if k=7 then [t] else [])++Fd xs
def Fd:List Tree->List Str
  | []=>[]
  | x::xs=>Xc x++Fd xs
end
def Aw(s:Sd)(cls:Int):Bool:=!s.has || (Eb s.val&&(decide (cls≠5) || decide (s.val.kind=5)))
def Z3(c:Cf):Bool:=Aw c.b c.cls&&(Aw c.l c.cls&&Aw c.r c.cls)
def Qy:Cf:=⟨[],0,noS,noS,noS⟩
def Do(v:Tree)(l:List Cf)(pick:List Int):Bool :=
  decide (aL l=aL pick)&&(decide (aL (Xc v).eraseDups=aL l) &&
    (List.range (aL l)).all λi=>decide ((Xc v).count (Sj i)=1)&&(Z3 (l.getD i Qy)&&(Fh (l.getD i Qy) (pick.getD i 0)).2))
def Dd(v:Tree):Int:=if v.kind≠7 then -1 else if (De v.text).2≠0 then -1 else (R9 (De v.text).1).1
def Qm(l:List Cf)(pick:List Int)(i:Int):Sd:=(Fh (l.getD i.toNat Qy) (pick.getD i.toNat 0)).1
def Nl(l:List Cf)(k:Int)(key:Str)(h:Int)(s:Sd):List Str × List Tree :=
  if s.has=true then
    if k=6 then ([key],[s.val])
    else if 0<=h/\(l.getD h.toNat Qy).cls=5 then ([],s.val.items)
    else ([],[s.val])
  else ([],[])
mutual
def Cc(l:List Cf)(pick:List Int):Tree->Sd
  | .node k t ks xs =>
    if 0<=Dd (.node k t ks xs) then Qm l pick (Dd (.node k t ks xs))
    else ⟨true,.node k t (Zd l pick k ks xs).1 (Zd l pick k ks xs).2⟩
def Zd(l:List Cf)(pick:List Int)(k:Int):List Str->List Tree->List Str × List Tree
  | _,[]=>([],[])
  | ks, x :: xs =>
    let a:=Nl l k (ks.headD []) (Dd x) (Cc l pick x)
    let b:=Zd l pick k ks.tail xs
    (a.1++b.1,a.2++b.2)
end
def Ai(v:Tree)(l:List Cf)(pick:List Int):Tree × Int :=
  if Ke v=true/\Do v l pick=true then
    let s:=Cc l pick v
    if s.has=true then (if Eb s.val=true then (s.val,0) else (zeroT,1)) else (zeroT,8)
  else (zeroT,1)
def numOk(i:Nat):Bool:=decide ((De (Sj i)).2=0)&&(decide ((De (Sj i)).1=NG i)&&(decide (R9 (NG i)=((i:Int),true))&&decide (aL (Sj i)<=20)))
def num_all:(List.range 1000).all numOk=true:=by kernel_rfl
theorem H5{i:Nat}(h:i<1000):(De (Sj i)).2=0/\(De (Sj i)).1=NG i/\R9 (NG i)=((i:Int),true)/\aL (Sj i)<=20:=by
  have:=List.all_eq_true.1 num_all i<|List.mem_range.2 h;grind [numOk]
theorem Vo{i:Nat}(h:i<1000):Dd (Sh i)=i:=by
  obtain⟨h1,h2,h3,-⟩:=H5 h;show (if (7:Int)≠7 then (-1:Int) else if (De<|Sj i).2≠0 then -1 else (R9 (De<|Sj i).1).1)=_;grind
theorem numS_inj{i j:Nat}(hi:i<1000)(hj:j<1000)(h:Sj i=Sj j):i=j:=by grind [H5,NG]
theorem Xn(v:Tree):Oa v.items+1<=Ja v:=by
  cases v;rw[Ja];simp only[Tree.items];omega
theorem Pf{M:Nat}{x:Tree}(h:Hb x<=M):∀y∈x.items,Hb y<=M:=λy hy=>by
  cases x with
  | node k t ks xs =>
    have:=Nd (show y∈xs from hy);grind [Hb]
theorem Ox{M:Nat}{x:Tree}(h:Hb x<=M):∀k∈x.keys,aL k<=M:=λk hk=>by
  cases x with
  | node _ t ks xs =>
    have:=Si (show k∈ks from hk);grind [Hb]
def SdR(s:Sd):Prop:=s=noS\/(s.has=true/\Eb s.val=true)
def CfR(c:Cf):Prop:=SdR c.b/\SdR c.l/\SdR c.r/\(c.cls=5->c.b.val.kind=5/\c.l.val.kind=5/\c.r.val.kind=5)/\1<=c.cls/\c.cls<=6
theorem Wd:∀xs:List Tree,Fd xs=xs.flatMap Xc
  | []=>rfl
  | x::xs=>by rw[Fd,Wd xs,List.flatMap_cons]
open Go.RowKit Go.Proofs Go.Proofs.Tryz
def HI(b:Bool):D:=.lit (.bool b)
def Rc(s:Sd):D:=.agg [HI s.has,Sa s.val]
def Uo(b l r:Sd):D:=.agg [Rc b,Rc l,Rc r]
def VD(c:Cf):D:=.agg [Wa c.path,Pd c.cls,Rc c.b,Rc c.l,Rc c.r]
def DB(x:Rl):D:=.agg [Wa x.pat,Hh x.key]
def Ik(l:List Rl):D:=.slice (l.map DB)
def To(s:Sd):Ic (Rc s)=5:=by
  have:=Cb s.val;simp only[Rc,Ic,Ic.sizeL,this,HI]
def UJ(c:Cf):Ic (VD c)=17:=by simp only[VD,Ic,Ic.sizeL,To,Wa,Pd]
section
variable {S:Nat->Prop}{w:World}
theorem CY{x:Rl}{cs:List Value}(h:Rep S w (DB x) cs):∃A c,cs=[.slice A (aL x.pat) c,I x.key]/\Rep S w (Wa x.pat) [.slice A (aL x.pat) c]:=by grind [DB,Rep,RepL.cons_inv,RepL.nil_inv,Wa,Hh]
theorem Rep.rule_elem{l:List Rl}{A:Option Addr}{len c:Nat}(h:Rep S w (Ik l) [.slice A len c]){i:Nat}(hi:i<aL l) :
    ∃ad B e,A=some ad/\(∀j (hj:j<[Value.slice B (aL l[i].pat) e,I (l[i].key)].length),w.cell? ((ad.add (i*2)).add j)=some [Value.slice B (aL l[i].pat) e,I (l[i].key)][j])/\Rep S w (Wa l[i].pat) [.slice B (aL l[i].pat) e]:=by
  obtain⟨ad,cs,hA,hl,hc,hr⟩:=Rep.elem (sz:=2) h (λd hd=>by obtain⟨k,_,rfl⟩:=nQ.1 hd;rfl) (i:=i) (aS hi);grind [CY]
end
section
variable {cs l:List Value}{b n:Nat}{T:TypeId}{d:D}{u:World}
variable {S:Nat->Prop}{w w' w0:World}{Ds E:List Nat}{pre post bs_ sm sm1:List (Nat × Obj)}{pb:Nat}{RV:Value}{cfs:List Cf}
theorem Rep.side_inv{s:Sd}(h:Rep S w (Rc s) cs):∃ct,cs=.bool s.has::ct/\Rep S w (Sa s.val) ct:=by grind [Rc,Rep,RepL.cons_inv,RepL.nil_inv,HI]
theorem Rep.side_mk{s:Sd}{ct:List Value}(h:Rep S w (Sa s.val) ct):Rep S w (Rc s) (.bool s.has::ct):=by
  unfold Rc;rw[Rep];have h1:Rep S w (HI s.has) [.bool s.has]:=by unfold HI;rw[Rep];exact ae1
  have:=RepL.cons_mk h1<|RepL.cons_mk h RepL.nil_mk;grind
def R4:Rep S w (Rc noS) [.bool false,J 0,I [],aQ,aQ]:=Rep.side_mk (s:=noS) (Zf S w)
structure Tv where
  k:Int
  t:Str
  A:Option Addr
  n:Nat
  c:Nat
  B:Option Addr
  m:Nat
  e:Nat
structure Sv where
  h:Bool
  v:Tv
abbrev Tv.cells(x:Tv):List Value:=[J x.k,I x.t,.slice x.A x.n x.c,.slice x.B x.m x.e]
abbrev Sv.cells(x:Sv):List Value:=[.bool x.h,J x.v.k,I x.v.t,.slice x.v.A x.v.n x.v.c,.slice x.v.B x.v.m x.v.e]
abbrev th(x y z:Sv):List Value:=[.bool x.h,J x.v.k,I x.v.t,.slice x.v.A x.v.n x.v.c,.slice x.v.B x.v.m x.v.e,.bool y.h,J y.v.k,I y.v.t,.slice y.v.A y.v.n y.v.c,.slice y.v.B y.v.m y.v.e,.bool z.h,J z.v.k,I z.v.t,.slice z.v.A z.v.n z.v.c,.slice z.v.B z.v.m z.v.e]
def IQ:Tv:=⟨0,[],none,0,0,none,0,0⟩
def Hj{y:Tree}(h:Rep S w (Sa y) cs):∃x:Tv,cs=x.cells/\x.k=y.kind/\x.t=y.text/\x.n=aL y.keys/\x.m=aL y.items:=by
  obtain⟨k,t,ks,xs⟩:=y;obtain⟨A,c,B,e,rfl,-,-,-,-⟩:=h.tree_inv;exact⟨⟨k,t,A,aL ks,c,B,aL xs,e⟩,O,O,O,O,O⟩
def Md{S:Nat->Prop}{w:World}{t:Tree}{x:Tv}(h:Rep S w (Sa t) x.cells):x.k=t.kind/\x.t=t.text/\x.n=aL t.keys/\x.m=aL t.items/\Rep S w (Wa t.keys) [.slice x.A x.n x.c]/\Rep S w (.slice (Mb t.items)) [.slice x.B x.m x.e]:=by
  obtain⟨k,s,ks,xs⟩:=t;obtain⟨A,c,B,e,hq,-,-,h3,h4⟩:=h.tree_inv;simp only[Tv.cells,List.cons.injEq,Value.int.injEq,Value.string.injEq,Value.slice.injEq,true_and,and_true]at hq;obtain⟨e1,e2,e3,e4⟩:=hq;refine⟨e1,bs_inj.1 e2,e3.2.1,e4.2.1,?_,?_⟩
  ·rw[e3.1, e3.2.1, e3.2.2]
   exact h3
  rw[e4.1, e4.2.1, e4.2.2];exact h4
theorem T4{s:Sd}(h:Rep S w (Rc s) cs):∃x:Sv,cs=x.cells/\x.h=s.has/\x.v.k=s.val.kind/\Rep S w (Sa s.val) x.v.cells:=by
  obtain⟨ct,rfl,h1⟩:=h.side_inv;obtain⟨x,rfl,h2,-⟩:=Hj h1;exact⟨⟨s.has,x⟩,O,O,h2,h1⟩
theorem Hc{s:Sd}{x:Sv}(h:Rep S w (Rc s) x.cells):x.h=s.has/\x.v.k=s.val.kind/\x.v.n=aL s.val.keys/\x.v.m=aL s.val.items/\Rep S w (Sa s.val) x.v.cells:=by
  obtain⟨ct,e,h1⟩:=h.side_inv;obtain⟨y,rfl,h2,-,h3,h4⟩:=Hj h1;grind
def Wi{s:Sd}{x:Tv}(h:Rep S w (Sa s.val) x.cells):Rep S w (Rc s) (Sv.mk s.has x).cells:=Rep.side_mk h
theorem FR.part{bs_:List (Nat × Obj)}(h:FR w0 Ds bs_ w)(i off:Nat){l':List Value}{fz:Nat × Nat}(hi:bs_[i]? = some (b,.cells l.toArray T fz))(hl:(l.drop off).take (aL l')=l') :
    ∀j (hj:j<aL l'),w.cell? ((⟨b,off,none⟩:Addr).add j)=some l'[j]:=λj hj=>by
  have e:(⟨b,off,none⟩:Addr).add j=⟨b,off+j,none⟩:=by unfold Addr.add;split <;> simp_all
  rw[e,Ra (h.heap hi)<|off+j];grind
theorem FR.rowS{w0 w:World}{E:List Nat}{bs_:List (Nat × Obj)}{S:Nat->Prop}{ds:List D}(hF:FR w0 E bs_ w)(k:Nat)(hi:bs_[k]? = some (b,.cells l.toArray T))(hr:RepL S w ds l)(hn:aL ds=n)(hm:n<=9223372036854775807):Rep (λx=>S x\/x=b) w (.slice ds) [.slice (some ⟨b,0,none⟩) n n] :=
  Rep.slice_mk hn.symm (gQ _) hm λ_=>⟨_,rfl,l,λj hj=>⟨hF.cellsAll k hi j hj,.inr rfl⟩,RepL.weaken (λ_ h _=>.inl h) hr⟩
theorem FR.repE{w0 w:World}{Dz:List Nat}{bs_:List (Nat × Obj)}{S:Nat->Prop}(hF:FR w0 Dz bs_ w)(hS:∀b,S b->b<w0.heap.size/\b∉Dz)(h:Rep S w0 d cs):Rep S w d cs:=h.same hF.same λb hb hs=>(hS b hs).2 hb
def Rep.low{S:Nat->Prop}{w:World}(h:Rep S w d cs):Rep (λb=>b<w.heap.size) w d cs:=h.weaken λ_ _ hl=>hl
def wE(w:World):World:={ w with heap:=#[] }
def RX.base{i:List Nat}{ds:List D}(h:RX w0 i w ds cs)(hu:u.heap.size<=w0.heap.size):RX u i w ds cs:=RepL.weaken (λ_ hb _=>⟨fQ hu hb.1,hb.2⟩) h
def RX.empty{i:List Nat}{ds:List D}(h:RX w0 i w ds cs)(u:World):RX (wE u) i w ds cs:=h.base (bZ _)
def ids(sm:List (Nat × Obj)):List Nat:=sm.map (·.1)
def RX.grow{w w':World}{i:List Nat}{sl sl':List (Nat × Obj)}{ds:List D}(h:RX u i w ds cs)(hE:Same (sl.map (·.1)) w w')(hn:∀p∈sl',p.1∈sl.map (·.1)\/w.heap.size<=p.1)(hi:∀x∈sl.map (·.1),x∈i):RX u (i++ids sl') w' ds cs :=
  h.step hE hi λx hx=>by
    rcases mQ.1 hx with h1|h1
    ·exact .inl h1
    obtain⟨p, hp, rfl⟩ := nQ.1 h1;rcases hn p hp with h2|h2
    ·exact .inl<|hi _ h2
    exact .inr h2
structure Mx (i:List Nat) (w:World) (sm:List (Nat × Obj)) (pb:Nat) (RV:Value) (cfs:List Cf):Prop where
  ex:∃(A:Option Addr)(c:Nat)(sl:List (Nat × Obj))(vals:List Value),sm=(pb,.cells #[RV,.slice A (aL cfs) c] 57)::sl/\SlB 38 17 A (aL cfs) c vals sl/\RX (wE w) i w (cfs.map VD) vals
section
variable {i i':List Nat}
def Mx.step(h:Mx i w sm pb RV cfs)(hs:Same E w w')(he:∀b∈E,b∈i)(hi:∀x∈i',x∈i\/w.heap.size<=x):Mx i' w' sm pb RV cfs:=by
  obtain⟨A,c,sl,vals,h1,h2,h3⟩:=h.ex;exact⟨A,c,sl,vals,h1,h2,(h3.step hs he hi).empty w'⟩
def Mx.ext(h:Mx i w sm pb RV cfs)(hs:Same [] w w'):Mx i w' sm pb RV cfs:=h.step hs Ca (λ_ hx=>.inl hx)
def Mx.store(h:Mx i w sm pb RV cfs)(hs:Same E w w')(he:∀b∈E,b∈i):Mx i w' sm pb RV cfs:=h.step hs he (λ_ hx=>.inl hx)
def Mx.alloc(h:Mx i w sm pb RV cfs)(hs:Same [] w w')(hb:b=w.heap.size):Mx (b::i) w' sm pb RV cfs :=
  h.step hs Ca (λx hx=>by rcases oQ.1 hx with rfl|hx;exact .inr fX;exact .inl hx)
def Mx.sub(h:Mx i w sm pb RV cfs)(hi:∀x∈i',x∈i):Mx i' w sm pb RV cfs:=h.step (Same.refl [] w) Ca (λx hx=>.inl<|hi x hx)
theorem SlB.typ1{e m c:Nat}{A:Option Addr}{xs:List Value}{sb:List (Nat × Obj)}(h:SlB e m A n c xs sb):aL sb<=1/\∀q∈sb,∃cur,q.2=.cells cur e:=by
  rcases h.2 with ⟨-,-,rfl⟩|⟨g,cur,-,rfl,-⟩
  ·grind
  grind
theorem Mx.pw(h:Mx i w sm pb RV cfs)(hh:∀q∈sm,w.heap[q.1]? = some q.2):sm.Pairwise (λp q=>q.1≠p.1):=by
  obtain⟨A,c,sl,vals,rfl,h2,-⟩:=h.ex;refine List.pairwise_cons.2 ⟨λq hq e=>?_,h2.pw⟩;obtain⟨cur,e2⟩:=h2.typ1.2 q hq;have h5:=hh q zM;simp_all
theorem Mx.start(h:Mx i w sm pb RV cfs)(hh:∀q∈sm,w.heap[q.1]? = some q.2):FR w (ids sm) ([]++(sm++[])) w:=by
  rw[kZ,qQ];exact⟨.refl _ _,λq hq=>⟨hh q hq,.inr<|List.mem_map_of_mem hq⟩,h.pw hh⟩
theorem Mx.box(h:Mx i w sm pb RV cfs)(hh:∀q∈sm,w.heap[q.1]? = some q.2):∃(A:Option Addr)(c:Nat),w.heap[pb]? = some (.cells #[RV,.slice A (aL cfs) c] 57):=by
  obtain⟨A,c,sl,vals,rfl,-,-⟩:=h.ex;simp_all
def Mx.mem(h:Mx i w sm pb RV cfs):pb∈ids sm:=by
  obtain⟨A,c,sl,vals,rfl,-,-⟩:=h.ex;exact zQ
structure Mc (w:World) (sm:List (Nat × Obj)) (w':World) (sm':List (Nat × Obj)):Prop where
  same:Same (ids sm) w w'
  fresh:∀q∈sm',w.heap.size<=q.1\/q.1∈ids sm
theorem FR.segs_of(hF:FR w0 Ds (pre++(sm++post)) w):∀q∈sm,w.heap[q.1]? = some q.2/\(w0.heap.size<=q.1\/q.1∈Ds):=λq hq=>hF.own q zM
theorem FR.toMc(hF:FR w0 (ids sm1) (pre++(sm++post)) w):Mc w0 sm1 w sm:=⟨hF.same,λq hq=>(hF.segs_of q hq).2⟩
theorem FR.hh(hF:FR w0 Ds bs_ w)(hsp:Spl bs_ pre sm post:=by repeat (first|exact Spl.z|apply Spl.c|apply Spl.a)):∀q∈sm,w.heap[q.1]? = some q.2:=by
  rw[hsp.eq]at hF;exact λq hq=>(hF.segs_of q hq).1
theorem FR.mc(hF:FR w0 (ids sm1) bs_ w)(hsp:Spl bs_ pre sm post:=by repeat (first|exact Spl.z|apply Spl.c|apply Spl.a)):Mc w0 sm1 w sm:=by
  rw[hsp.eq]at hF;exact hF.toMc
theorem FR.swapM(hF:FR w0 Ds bs_ w){cfs1:List Cf}(hM:Mx i w' sm1 pb RV cfs1)(hh:∀q∈sm1,w'.heap[q.1]? = some q.2)(hE:Mc w sm w' sm1)(hsp:Spl bs_ pre sm post:=by repeat (first|exact Spl.z|apply Spl.c|apply Spl.a)):FR w0 Ds (pre++(sm1++post)) w':=by
  rw[hsp.eq]at hF;have hd:=hF.desc;rw[List.pairwise_append,List.pairwise_append]at hd;obtain⟨d1,⟨d2,d3,d4⟩,d5⟩:=hd;have hrest:∀q,q∈pre++post->∀r∈sm,q.1≠r.1:=λq hq r hr e=>by
    rcases mQ.1 hq with hq|hq
    ·exact d5 q hq r (by simp[hr]) e.symm
    exact d4 r hr q hq e
  have hB:FR w0 Ds (pre++post) w:=⟨hF.same,λq hq=>hF.own q (by rcases mQ.1 hq with h|h <;> simp[h]),by
    rw[List.pairwise_append];exact⟨d1,d3,λq hq r hr=>d5 q hq r (by simp[hr])⟩⟩
  have hB':FR w0 Ds (pre++post) w':=hB.touch hE.same λb hb=>by
    obtain⟨r,hr,rfl⟩:=nQ.1 hb;exact⟨λh=>((hF.segs_of r hr).2).resolve_left fX,λz hz e=>hrest z hz r hr e⟩
  have hn:∀q∈sm1,∀z∈pre++post,z.1≠q.1:=λq hq z hz e=>by
    rcases hE.fresh q hq with h1|h1
    ·have:=Ga<|hB.memHeap hz;omega
    obtain⟨r, hr, e'⟩ := nQ.1 h1;exact hrest z hz r hr<|e.trans e'.symm
  refine⟨hB'.same,λq hq=>?_,?_⟩
  ·rcases mQ.1 hq with h|h
   ·exact hB'.own q (by simp[h])
   rcases mQ.1 h with h|h
   ·refine⟨hh q h, ?_⟩
    rcases hE.fresh q h with h1|h1
    ·exact .inl<|fQ hF.same.size h1
    obtain⟨r, hr, e⟩ := nQ.1 h1;rw[<-e];exact (hF.segs_of r hr).2
   exact hB'.own q (by simp[h])
  rw[List.pairwise_append, List.pairwise_append];refine⟨d1,⟨hM.pw hh,d3,λq hq z hz e=>hn q hq z qA e⟩,λz hz q hq e=>?_⟩;rcases mQ.1 hq with h|h
  ·exact hn q h z qA e.symm
  exact d5 z hz q (by simp[h]) e
def Nq(w:World)(sm':List (Nat × Obj))(w':World)(x:Nat):Prop:=Btw w w' x/\x∉ids sm'
def RX.madeM(hw:w0.heap.size<=w.heap.size)(hi:∀x∈i,x<w.heap.size\/x∈ids sm)(h:Rep (Nq w sm w') w' d cs):RX w0 i w' [d] cs :=
  .one (h.weaken λb hb _=>⟨fQ hw hb.1.1,hb.1.2.1,λhm=>by
    rcases hi b hm with h1|h1
    ·have:=hb.1.1;omega
    exact hb.2 h1,hb.1.2.2⟩)
def RX.swap{j:List Nat}{ds:List D}(h:RX u i w ds cs)(hE:Mc w sm w' sm1)(hi:∀x∈ids sm,x∈i)(hj:∀x∈j,x∈i\/x∈ids sm1):RX u j w' ds cs :=
  h.step hE.same hi λx hx=>by
    rcases hj x hx with h1|h1
    ·exact .inl h1
    obtain⟨q, hq, rfl⟩ := nQ.1 h1;rcases hE.fresh q hq with h2|h2
    ·exact .inr h2
    exact .inl<|hi _ h2
theorem RX.nq(h:RX w0 i w [d] cs)(hi:∀x∈ids sm,x∈i):Rep (Nq w0 sm w) w d cs:=h.rep.weaken λ_ hb _=>⟨⟨hb.1,hb.2.1,hb.2.2.2⟩,λhm=>hb.2.2.1<|hi _ hm⟩
def Off(S:Nat->Prop)(w0:World)(sm:List (Nat × Obj)):Prop:=∀b,S b->b<w0.heap.size/\b∉ids sm
theorem FR.repM(hF:FR w0 (ids sm) bs_ w)(hS:Off S w0 sm)(h:Rep S w0 d cs):Rep S w d cs:=h.same hF.same λb hb hs=>(hS b hs).2 hb
theorem FR.offM(hF:FR w0 (ids sm) bs_ w)(hS:Off S w0 sm)(hsp:Spl bs_ pre sm1 post:=by repeat (first|exact Spl.z|apply Spl.c|apply Spl.a)):Off S w sm1:=λb hb=>by
  rw[hsp.eq]at hF;obtain⟨h1,h2⟩:=hS b hb;refine⟨Nat.lt_of_lt_of_le h1 hF.same.size,λhm=>?_⟩;obtain⟨q,hq,rfl⟩:=nQ.1 hm;rcases (hF.segs_of q hq).2 with h3|h3
  ·omega
  grind
def Sg(hi:∀x∈ids sm,x∈i):Off (New w0 i w) w sm:=λb hb=>⟨hb.2.1,λhm=>hb.2.2.1<|hi _ hm⟩
def Off.or{S':Nat->Prop}(h:Off S w sm)(h':Off S' w sm):Off (λb=>S b\/S' b) w sm:=λb hb=>hb.elim (h b)<|h' b
end
end
end Go.Scarf
namespace Go.Scarf
open List renaming length->aL
open Go.RowKit Go.Proofs Go.Proofs.Tryz
variable {r:Reach}{b0:Nat}{v:Value}{q:List MemPlace}
set_option maxRecDepth 100000
section
variable {H:Type}{enc:TypeId × Value->H}{W:World}{base:Nat}{sp:Nat->Bool}{held:Bool}
open Go.ChangeShapes Go.WideShapes Go.ChangeAt Go.Lib Go.Shelf
def DT{d:DataW H}(hv:Value.okWide prog W r b0 42 v)(h:DataW.Trod enc prog W base sp held 42 v d q) :
    ∃(l:List Int)(A:Option Addr)(c:Nat),v=.slice A (aL l) c/\Rep (λ_=>True) W (.slice (l.map Pd)) [.slice A (aL l) c] :=
  HQ (g:=Pd) underlying42 cs3 (λn cs x h=>XR h) hv h
def rec42:prog.readableRec 42=true:=by kernel_rfl
theorem row42:42<prog.types.size:=qX
end
section
variable {H:Type}{enc:TypeId × Value->H}{W:World}{base:Nat}{sp:Nat->Bool}{held:Bool}
instance : Inhabited Rl:=⟨⟨[],[]⟩⟩
def cs53:prog.cellsOf 53=2:=by kernel_rfl
theorem rule_of{fuel:Nat}{cs:List Value}{x:DataW H × List MemPlace}(h:DataW.trod enc prog W base sp held fuel 53 cs=some x):∃q:Rl,Rep (λ_=>True) W (DB q) cs:=by
  obtain⟨xs,n,rfl,-,hcl,hxl,hf⟩:=DataW.trod_struct underlying53 h;have hcl':aL cs=2:=hcl.trans cs53;have get:∀(i:Nat)(hi:i<2),xs[i]? = some (xs[i]'(by rw[hxl];exact hi)):=qJ
  have h0:=(hf 0 _ rfl).trans (get 0 fX);have h1:=(hf 1 _ rfl).trans (get 1 fX);obtain⟨a,ha⟩:=Fy (g:=Hh) wZ cs9 (λn _ cs x h=>N4 h) h0;obtain⟨b,hb⟩:=N4 h1;have ha2:Rep (λ_=>True) W (.slice<|a.map Hh) ((cs.drop 0).take (prog.cellsOf 22)):=ha;have hb2:Rep (λ_=>True) W (Hh b) ((cs.drop 1).take (prog.cellsOf 9)):=hb;rw[show prog.cellsOf 22=1 by kernel_rfl]at ha2;rw[cs9]at hb2;obtain⟨u,v,rfl⟩:∃u v,cs=[u,v]:=by
    match cs,hcl' with
    | [u,v],_=>exact⟨u,v,rfl⟩
  have ha':Rep (λ_=>True) W (Wa a) [u]:=ha2;have hb':Rep (λ_=>True) W (Hh b) [v]:=hb2;refine⟨⟨a,b⟩,?_⟩;rw[DB,Rep,RepL];refine⟨[u],[v],O,ha',?_⟩;rw[RepL];exact⟨[v],[],O,hb',by rw[RepL]⟩
def XM{d:DataW H}(hv:Value.okWide prog W r b0 26 v)(h:DataW.Trod enc prog W base sp held 26 v d q) :
    ∃(l:List Rl)(A:Option Addr)(c:Nat),v=.slice A (aL l) c/\Rep (λ_=>True) W (Ik l) [.slice A (aL l) c] :=
  HQ (g:=DB) underlying26 cs53 (λn cs x h=>rule_of h) hv h
def rec26:prog.readableRec 26=true:=by kernel_rfl
theorem row26:26<prog.types.size:=qX
end
end Go.Scarf
set_option synthInstance.maxHeartbeats 0
set_option synthInstance.maxSize 9999
namespace Go.Scarf
open List renaming length->aL
open Go.RowKit Go.Proofs Go.Proofs.Tryz
variable {x:Tree}{a b t:Str}{acc ks:List Str}{xs:List Tree}{e j m nk nx:Nat}{w':World}{S:Nat->Prop}{d:List Value}{A B:Option Addr}
def pretOk(x:Tree)(ind d:Int):Prop:=Eb x=true/\(0<=ind/\ind<=8)/\(0<=d/\d<=32)
instance (x:Tree) (ind d:Int):Decidable (pretOk x ind d):=by unfold pretOk;infer_instance
theorem Ez(h:Eb x=true)(hm:Hb x<=1073741824)(m:Bool)(ind d:Nat)(hi:ind<=8)(hd:d<=32):aL (Zj m ind x d)<=140737488355328:=by
  have h1:=Ve h;have h2:=VU m ind (Hb x) 64 x d (gQ _) fX;have h3:Ja x<=4096:=HU<|Ci h;have h4:ind*64<=8*64:=qJ
  have h5:Ja x*(12*Hb x+40+2*(ind*64))<=4096*(12*1073741824+40+2*512):=Nat.mul_le_mul h3 fX;omega
theorem GZ(x:Tree)(S:Nat->Prop)(w0:World)(cs:List Value)(rx:Rep S w0 (Sa x) cs)(hG:Gl w0)(hsz:Ja x<=1000000000)(hm:Hb x<=1073741824):Calls prog 198 #[.agg cs.toArray] w0 (Qb λv w'=>v=.tuple #[I (Is x),J (OQ x)]/\Same [] w0 w'):=by
  refine Zi (LV x S w0 cs rx hG (Ae x fX) (okQ_max x fX) hsz λh=>Ez h hm _ _ _ fX fX) λv w' ⟨h1,h2⟩=>⟨?_,h2⟩;grind [Is,OQ]
theorem UR(x:Tree)(S:Nat->Prop)(w0:World)(cs:List Value)(rx:Rep S w0 (Sa x) cs)(hG:Gl w0)(hsz:Ja x<=1000000000)(hm:Hb x<=1073741824):Calls prog 168 #[.agg cs.toArray] w0 (Qb λv w'=>v=.tuple #[I (Is (Oe x)),J (OQ (Oe x))]/\Same [] w0 w'):=by
 have hl:aL cs=4:=rx.length.trans<|Cb x;have ho:=rx.one_;refine Ha func168 ntmps168 ?_;intro hF;refine rn 2<|Cj (v:=.agg<|List.toArray cs) (cs:=(List.toArray cs)) hF O O ?_;rintro b1 w hb1 hF -;refine rn 6<|Da (v:=.agg<|List.toArray cs) (Qa (l:=cs) nZ rZ O hl<|hF.cellsAll 0 O) ?_;refine Yb (GA x hsz _ _ cs (hF.rep rx) (Ae x fX)<|hG.ext hF.same) ?_;rintro _ w ⟨c1,rfl,hRt,hE⟩;have hlc1:aL c1=4:=hRt.length.trans<|Cb _;have hoc1:=hRt.one_;have hX1:=RX.made (ids:=[b1]) hF.same.size (λx hx=>hF.lt_ids qJ) hRt;have hF:=hF.ext hE;clear hE hRt;refine Ta (GZ (Oe x) _ _ c1 hX1.rep (hG.ext hF.same) (F3 x hsz)<|fQ (Np x) hm) ?_;rintro w hF -;refine rn 7 ?_;exact⟨O,hF.same⟩
def nq(q:Bool)(c:UInt8):Bool:=if c=34 then !q else q
def CK(q:Bool)(c:UInt8)(l:Str):Str:=if nq q c=true\/(c≠32/\c≠10) then c::l else l
def Qq:Bool->Str->Str
  | _,[]=>[]
  | q,[c]=>CK q c []
  | q,c::d::r=>if q=true/\c=92 then c::d::Qq q r else CK q c (Qq (nq q c) (d::r))
def Bal(a b:Str):Prop:=∀r,Qq false (a++r)=b++Qq false r
def Inq(a:Str):Prop:=∀r,Qq true (a++r)=a++Qq true r
theorem FA{q:Bool}{c:UInt8}{r:Str}(h:¬(q=true/\c=92)):Qq q (c::r)=CK q c (Qq (nq q c) r):=by
  cases r with
  | nil=>rw[Qq,Qq]
  | cons d r=>grind [Qq]
def Bal.nil:Bal [] []:=λ_=>rfl
def Bal.app{a' b':Str}(h:Bal a a')(k:Bal b b'):Bal (a++b) (a'++b'):=λr=>by rw[sQ,h,k,sQ]
def Inq.nil:Inq []:=λ_=>rfl
def Inq.app(h:Inq a)(k:Inq b):Inq (a++b):=λr=>by rw[sQ,h,k,sQ]
theorem Bal.byte{c:UInt8}(h1:c≠34)(h2:c≠32)(h3:c≠10):Bal [c] [c]:=λr=>by
  grind [Qq,FA,CK,nq]
theorem Bal.bytes:∀{a:Str},(∀c∈a,c≠34/\c≠32/\c≠10)->Bal a a
  | [],_=>Bal.nil
  | c :: a, h => by
    have h1:=h c Ca;exact (Bal.byte h1.1 h1.2.1 h1.2.2).app (Bal.bytes λd hd=>h d (by simp[hd]))
theorem Inq.byte{c:UInt8}(h1:c≠34)(h2:c≠92):Inq [c]:=λr=>by
  grind [Qq,FA,CK,nq]
theorem Inq.bytes:∀{a:Str},(∀c∈a,c≠34/\c≠92)->Inq a
  | [],_=>Inq.nil
  | c :: a, h => by
    have h1:=h c Ca;exact (Inq.byte h1.1 h1.2).app (Inq.bytes λd hd=>h d (by simp[hd]))
def nl(s:Str):Nat:=s.count 10
theorem Ty{k:Int}(h:Eb (.node k t ks xs)=true)(hx:x∈xs):Eb x=true:=by
  unfold Eb Um at h ⊢;simp only[vQ,wQ]at h ⊢;have h1:=Ld hx;have h2:=Xe hx;grind [Ja,Db,Sc]
theorem RN{k:Int}(h:Eb (.node k t ks xs)=true)(hk:k=6):aL ks=aL xs/\∀x∈ks,Lib.validD x=true:=by
  have h1:=(Sc<|Pn h).1;grind [nodeB,Wl]
def Gq(acc:List Str)(s:Str):List Str:=if s∈acc then acc else acc++[s]
def Uc(rows:List (List Str)):List Str:=rows.flatten.foldl Gq []
theorem FZ{s:Str}:t∈Gq acc s↔t∈acc\/t=s:=by grind [Gq]
theorem NP(h:acc.Nodup)(s:Str):(Gq acc s).Nodup:=by grind [Gq]
theorem H2:∀(l:List Str){acc:List Str},acc.Nodup->(l.foldl Gq acc).Nodup
  | [],_,h=>h
  | s::l,_,h=>H2 l<|NP h s
theorem Tq:∀(l:List Str){acc:List Str}{t:Str},t∈l.foldl Gq acc↔t∈acc\/t∈l
  | [],_,_=>by simp
  | s::l,_,_=>by rw[List.foldl_cons,Tq l,FZ,oQ,or_assoc]
theorem PB:∀(l:List Str)(acc:List Str),∃r,l.foldl Gq acc=acc++r/\aL r<=aL l
  | [],acc=>⟨[],Ca⟩
  | s :: l, acc => by
    obtain⟨r,h,hr⟩:=PB l<|Gq acc s;by_cases hs:s∈acc
    ·have e : Gq acc s = acc := uQ hs
     rw[e]at h;exact⟨r,by rw[List.foldl_cons,e,h],by simp;omega⟩
    have e : Gq acc s = acc ++ [s] := tQ hs;rw[e]at h;exact⟨s::r,by rw[List.foldl_cons,e,h];simp,by simp;omega⟩
theorem Id(rows:List (List Str)):(Uc rows).Nodup:=H2 _ List.nodup_nil
def idK(y:Tree):Bool:=decide (y.kind=4) || decide (y.kind=3)
def idB(x:Tree)(key:Str):Bool:=((Di x key).2&&idK (Di x key).1)&&decide (OQ (Oe (Di x key).1)=0)
def AD(x:Tree)(key:Str):Str:=if ((Di x key).2&&idK (Di x key).1)=true then Is (Oe (Di x key).1) else []
def Yp(key:Str):List Tree->List Str->Option (List Str)
  | [],acc=>some acc
  | x::xs,acc=>if idB x key=true/\AD x key∉acc then Yp key xs (acc++[AD x key]) else none
def Fk(v:Tree)(key:Str):Option (List Str):=if Eb v=true/\v.kind=5 then Yp key v.items [] else none
def ZW{key:Str}(h:j<aL xs)(h1:idB xs[j] key=true)(h2:AD xs[j] key∉acc):Yp key (xs.drop j) acc=Yp key (xs.drop (j+1)) (acc++[AD xs[j] key]):=by rw[List.drop_eq_getElem_cons h,Yp,uQ ⟨h1,h2⟩]
def EC{key:Str}(h:j<aL xs)(hn:¬(idB xs[j] key=true/\AD xs[j] key∉acc)):Yp key (xs.drop j) acc=none:=by rw[List.drop_eq_getElem_cons h,Yp,tQ hn]
def idsK_end{key:Str}(h:¬j<aL xs):Yp key (xs.drop j) acc=some acc:=by rw[List.drop_eq_nil_of_le fX,Yp]
theorem PK{key:Str}:∀(xs:List Tree)(acc l:List Str),Yp key xs acc=some l->aL l=aL acc+aL xs
  | [],acc,l,h=>by rw[Yp]at h;cases h;simp
  | x :: xs, acc, l, h => by
    rw[Yp]at h;split at h
    ·have := PK xs _ l h
     simp at this ⊢;omega
    cases h
theorem Hl(h:Eb x=true):Jy x=x:=by grind [Jy,Ci]
inductive Kin:Value->Value->Prop where
  | same (v:Value):Kin v v
  | int (n m:Int):-9223372036854775808<=m->m<=9223372036854775807->Kin (J n) (J m)
  | str (s t:ByteArray):t.size<=9223372036854775807->Kin (.string s) (.string t)
def Kin.trans{a b c:Value}(h:Kin a b)(k:Kin b c):Kin a c:=by
  cases h with
  | same=>exact k
  | int n m h1 h2 =>
    cases k with
    | same=>exact .int n m h1 h2
    | int _ q h3 h4=>exact .int n q h3 h4
  | str s t h1 =>
    cases k with
    | same=>exact .str s t h1
    | str _ q h3=>exact .str s q h3
inductive KinL:List Value->List Value->Prop where
  | nil:KinL [] []
  | cons {a b:Value} {l m:List Value}:Kin a b->KinL l m->KinL (a::l) (b::m)
theorem KinL.refl:∀l:List Value,KinL l l
  | []=>.nil
  | a::l=>.cons (.same a)<|KinL.refl l
theorem KinL.split:∀{c1 c2 d:List Value},KinL (c1++c2) d->∃d1 d2,d=d1++d2/\KinL c1 d1/\KinL c2 d2
  | [],c2,d,h=>⟨[],d,rfl,.nil,h⟩
  | a :: c1, c2, d, h => by
    cases h with
    | cons h1 h2 =>
      obtain⟨d1,d2,rfl,k1,k2⟩:=KinL.split h2;exact⟨_::d1,d2,O,.cons h1 k1,k2⟩
theorem KinL.of:∀{l m:List Value},aL l=aL m->(∀i (h:i<aL l) (h':i<aL m),Kin l[i] m[i])->KinL l m
  | [],[],_,_=>.nil
  | a::l,b::m,hl,h=>.cons (h 0 Ca Ca)<|KinL.of (aS hl) λi hi hi'=>h (i+1) (aS hi) (aS hi')
def Mold(w w':World):Prop:=∀a v,w.cell? a=some v->∃v',w'.cell? a=some v'/\Kin v v'
theorem Mold.refl(w:World):Mold w w:=λa v h=>⟨v,h,.same v⟩
def Mold.trans{a b c:World}(h:Mold a b)(k:Mold b c):Mold a c:=λx v hx=>by
  obtain⟨v1,h1,k1⟩:=h x v hx;obtain⟨v2,h2,k2⟩:=k x v1 h1;exact⟨v2,h2,k1.trans k2⟩
def Mold.same{w:World}(h:Same [] w w'):Mold w w':=λa v hc=>⟨v,((FR.start w []).ext h).cell0 hc,.same v⟩
theorem Mold.set{w:World}{a:Addr}{u v:Value}(hc:w.cell? a=some u)(hk:Kin u v):Mold w (w.setCell a v):=λb x hb=>by
  have key:∀c e f,w.heap[a.block]? = some (.cells c e f)->(w.setCell a v).heap[a.block]? = some (.cells (c.setIfInBounds a.off v) e f):=by
    intro c e f hh;have hs:a.spot.isSome=false:=by
      unfold World.cell? at hc;grind
    simp[World.setCell,Array.getElem?_modify,hh,hs]
  by_cases hbl:b.block=a.block
  ·unfold World.cell? at hb hc ⊢
   rw[hbl]at hb ⊢;cases hh:w.heap[a.block]? with
   | none =>
     rw[hh]at hb;cases hb
   | some o =>
     rw[hh]at hb hc;cases o with
     | cells c e f =>
       rw[key c e f hh];simp only at hb hc ⊢;split at hb
       ·cases hb
       rename_i hsp
       rw[tQ hsp];split at hc
       ·cases hc
       by_cases ho : b.off = a.off
       ·rw[ho]at hb ⊢
        have hx:x=u:=by rw[hc]at hb;exact (lQ hb).symm
        subst hx;have hlt:a.off<c.size:=by
          rcases Nat.lt_or_ge a.off c.size with h|h
          ·exact h
          rw[Array.getElem?_eq_none h]at hc;cases hc
        exact⟨v,by simp[hlt],hk⟩
       exact⟨x,by rw[Array.getElem?_setIfInBounds_ne λe=>ho e.symm];exact hb,.same x⟩
     | _=>cases hb
  refine⟨x, ?_, .same x⟩;rw[<-hb];exact World.cell?_of_block (w:=w)<|Below.heap_setCell _ _ _ _ hbl
theorem CellsAt.mold{w:World}{ad:Addr}{cs:List Value}(h:CellsAt S w ad cs)(hm:Mold w w'):∃cs',CellsAt S w' ad cs'/\KinL cs cs':=by
  have key:∀n,n<=aL cs->∃l:List Value,aL l=n/\∀i (hi:i<aL l),w'.cell? (ad.add i)=some l[i]/\∀h':i<aL cs,Kin cs[i] l[i]:=by
    intro n
    induction n with
    | zero=>simp_all
    | succ n ih =>
      intro hn;obtain⟨l,hl,h1⟩:=ih fX;obtain⟨v',h2,h3⟩:=hm _ _ (h n fX).1;refine⟨l++[v'],by simp[hl],λi hi=>?_⟩;grind
  obtain⟨l,hl,h1⟩:=key (aL cs)<|gQ _;refine⟨l,λi hi=>⟨(h1 i hi).1,(h i fX).2⟩,KinL.of hl.symm λi hi hi'=>(h1 i hi').2 hi⟩
theorem kin_int{n:Int}(h:KinL [J n] d)(hn:-9223372036854775808<=n/\n<=9223372036854775807):∃m:Int,d=[J m]/\-9223372036854775808<=m/\m<=9223372036854775807:=by
  cases h with
  | cons h1 h2 =>
    cases h2;cases h1 with
    | same=>grind
    | int _ m h3 h4=>grind
theorem AQ{s:Str}(h:KinL [I s] d)(hs:aL s<=9223372036854775807):∃t:Str,d=[I t]/\aL t<=9223372036854775807:=by
  cases h with
  | cons h1 h2 =>
    cases h2;cases h1 with
    | same=>grind
    | str _ t h3 =>
      refine⟨t.data.toList,?_,by rw[Array.length_toList];exact h3⟩;grind
def Z_{n c:Nat}(h:KinL [.slice A n c] d):d=[.slice A n c]:=by
  cases h with
  | cons h1 h2 =>
    cases h2;cases h1;rfl
theorem HA{S:Nat->Prop}{w w':World}:∀{ks:List Str}{cs cs':List Value},RepL S w (ks.map Hh) cs->KinL cs cs'->∃ks':List Str,aL ks'=aL ks/\RepL S w' (ks'.map Hh) cs'
  | [], cs, cs', h, k => by
    have:=RepL.nil_inv h;subst this;cases k;exact⟨[],O,RepL.nil_mk⟩
  | s :: ks, cs, cs', h, k => by
    obtain⟨c1,c2,rfl,h1,h2⟩:=RepL.cons_inv h;obtain⟨d1,d2,rfl,k1,k2⟩:=k.split;obtain⟨rfl,hs⟩:=Rep.str_inv h1;obtain⟨t,rfl,ht⟩:=AQ k1 hs;obtain⟨ks',hl,hr⟩:=HA h2 k2;exact⟨t::ks',by simp[hl],RepL.cons_mk (Rep.lit_mk (v:=I t) ht) hr⟩
def MB{w:World}{n c:Nat}(h:Rep S w (Wa ks) [.slice A n c])(hm:Mold w w'):∃ks':List Str,aL ks'=aL ks/\Rep S w' (Wa ks') [.slice A n c]:=by
  have hl:=h.slice_len;obtain⟨A',c',hA,h1,h2,h3⟩:=Rep.slice_inv h;simp only[List.cons.injEq,Value.slice.injEq,and_true]at hA;obtain⟨rfl,_,rfl⟩:=hA;by_cases hne:ks=[]
  ·subst hne
   exact⟨[],O,Rep.slice_mk (aS hl.1) hl.2.1 hl.2.2 λh=>absurd O h⟩
  obtain⟨ad, rfl, es, hc, hr⟩ := h3 (aS hne);obtain⟨es',hc',hk⟩:=hc.mold hm;obtain⟨ks',hl',hr'⟩:=HA hr hk;exact⟨ks',hl',Rep.slice_mk (by rw[hl.1];simp[hl']) hl.2.1 hl.2.2 λ_=>⟨ad,O,es',hc',hr'⟩⟩
def WS(x:Tree):Prop:=∀(S:Nat->Prop)(w w':World)(cs cs':List Value),Rep S w (Sa x) cs->Mold w w'->KinL cs cs'->∃x',Ja x'=Ja x/\Rep S w' (Sa x') cs'
theorem K5{S:Nat->Prop}{w w':World}(hm:Mold w w'):∀{xs:List Tree}{cs cs':List Value},(∀x∈xs,WS x)->RepL S w (Mb xs) cs->KinL cs cs'->∃xs':List Tree,aL xs'=aL xs/\Oa xs'=Oa xs/\RepL S w' (Mb xs') cs'
  | [], cs, cs', _, h, k => by
    have:=RepL.nil_inv h;subst this;cases k;exact⟨[],O,O,RepL.nil_mk⟩
  | x :: xs, cs, cs', hx, h, k => by
    obtain⟨c1,c2,rfl,h1,h2⟩:=RepL.cons_inv h;obtain⟨d1,d2,rfl,k1,k2⟩:=k.split;obtain⟨x',e1,r1⟩:=hx x Ca S w w' c1 d1 h1 hm k1;obtain⟨xs',hl,e2,r2⟩:=K5 hm (λy hy=>hx y qD) h2 k2;exact⟨x'::xs',by simp[hl],by rw[Oa,Oa,e1,e2],RepL.cons_mk r1 r2⟩
def E6{w:World}{n c:Nat}(hx:∀x∈xs,WS x)(h:Rep S w (.slice (Mb xs)) [.slice A n c])(hm:Mold w w'):∃xs':List Tree,aL xs'=aL xs/\Oa xs'=Oa xs/\Rep S w' (.slice (Mb xs')) [.slice A n c]:=by
  have hl:=h.slice_len;obtain⟨A',c',hA,h1,h2,h3⟩:=Rep.slice_inv h;simp only[List.cons.injEq,Value.slice.injEq,and_true]at hA;obtain⟨rfl,_,rfl⟩:=hA;by_cases hne:xs=[]
  ·subst hne
   exact⟨[],O,O,Rep.slice_mk (aS hl.1) hl.2.1 hl.2.2 λh=>absurd O h⟩
  obtain⟨ad, rfl, es, hc, hr⟩ := h3 (λe => hne (List.eq_nil_of_length_eq_zero (by rw[<- Vh, e];rfl)));obtain⟨es',hc',hk⟩:=hc.mold hm;obtain⟨xs',hl',e',hr'⟩:=K5 hm hx hr hk;exact⟨xs',hl',e',Rep.slice_mk (by rw[hl.1];simp[hl']) hl.2.1 hl.2.2 λ_=>⟨ad,O,es',hc',hr'⟩⟩
def moldT(x:Tree):WS x:=Tree.ind (Q:=WS) (λk t ks xs ih S w w' cs cs' hR hm hk=>by
  obtain⟨A,c,B,e,rfl,h1,h2,hK,hX⟩:=hR.tree_inv;obtain⟨d1,d',rfl,k1,hk⟩:=KinL.split (c1:=[_]) hk;obtain⟨d2,d',rfl,k2,hk⟩:=KinL.split (c1:=[_]) hk;obtain⟨d3,d4,rfl,k3,k4⟩:=KinL.split (c1:=[_]) hk;obtain⟨m,rfl,hm1,hm2⟩:=kin_int k1 h1;obtain⟨u,rfl,hu⟩:=AQ k2 h2;obtain rfl:=Z_ k3;obtain rfl:=Z_ k4;obtain⟨ks',-,hK'⟩:=MB hK hm;obtain⟨xs',hl',e',hX'⟩:=E6 ih hX hm;exact⟨.node m u ks' xs',by rw[Ja,Ja,e'],Rep.tree_mk ⟨hm1,hm2⟩ hu hK' hX'⟩) x
noncomputable def Sb (S:Nat->Prop) (w:World):List Nat:=by classical exact (List.range w.heap.size).filter λb=>decide (S b)
def mem_Sb{w:World}{b:Nat}:b∈Sb S w↔b<w.heap.size/\S b:=by simp[Sb]
structure Over (S:Nat->Prop) (w w':World):Prop where
  same:Same (Sb S w) w w'
  mold:Mold w w'
  soft:∀b,ZE w b->ZE w' b
theorem Over.refl(S:Nat->Prop)(w:World):Over S w w:=⟨.refl _ _,.refl _,λ_ h=>h⟩
def Over.next{w0 w:World}{b:Nat}(h:Over S w0 w)(hs:Same [b] w w')(hb:b∈Sb S w0)(hm:Mold w w')(ho:∀x,ZE w x->ZE w' x):Over S w0 w' :=
  ⟨h.same.trans (hs.mono λx hx _=>by obtain rfl:=pQ.1 hx;exact hb),h.mold.trans hm,λx hx=>ho x<|h.soft x hx⟩
def Over.trans{w0 w:World}(hS:∀b,S b->b<w0.heap.size)(h:Over S w0 w)(k:Over S w w'):Over S w0 w' :=
  ⟨h.same.trans (k.same.mono λx hx _=>by have:=(mem_Sb.1 hx).2;exact mem_Sb.2 ⟨hS x this,this⟩),h.mold.trans k.mold,λx hx=>k.soft x<|h.soft x hx⟩
def TreeAt(S:Nat->Prop)(w:World)(A:Option Addr)(nk c:Nat)(B:Option Addr)(nx e m:Nat):Prop :=
  ∃(ks:List Str)(xs:List Tree),aL ks=nk/\aL xs=nx/\Oa xs=m/\Rep S w (Wa ks) [.slice A nk c]/\Rep S w (.slice (Mb xs)) [.slice B nx e]
def TreeAt.mold{w:World}{c:Nat}(h:TreeAt S w A nk c B nx e m)(hm:Mold w w'):TreeAt S w' A nk c B nx e m:=by
  obtain⟨ks,xs,h1,h2,h3,hK,hX⟩:=h;obtain⟨ks',l1,r1⟩:=MB hK hm;obtain⟨xs',l2,e2,r2⟩:=E6 (λx _=>moldT x) hX hm;exact⟨ks',xs',l1.trans h1,l2.trans h2,e2.trans h3,r1,r2⟩
theorem TreeAt.key{w:World}{c:Nat}(h:TreeAt S w A nk c B nx e m){i:Nat}(hi:i<nk):∃ad s,A=some ad/\w.cell? (ad.add (i*1))=some (.string s)/\S (ad.add (i*1)).block:=by
  obtain⟨ks,xs,h1,h2,h3,hK,hX⟩:=h;have hne:ks≠[]:=qJ
  obtain⟨A',c',hA,_,_,h4⟩:=Rep.slice_inv hK;simp only[List.cons.injEq,Value.slice.injEq,and_true]at hA;obtain⟨rfl,_,rfl⟩:=hA;obtain⟨ad,rfl,es,hc,hr⟩:=h4 (aS hne);obtain⟨ad',hA',hcell,-⟩:=hK.str_elem (i:=i) fX;obtain rfl:=lQ hA';have hlen:aL es=aL ks:=by
    have:=hr.length;have e:∀l:List Str,Ic.sizeL (l.map Hh)=aL l:=by
      intro l
      induction l with
      | nil=>rfl
      | cons a l ih =>
        rw[iZ,Ic.sizeL,ih,kQ];simp[Hh,Ic];omega
    rw[e]at this;exact this
  exact⟨ad,_,O,hcell,by rw[Ih];exact (hc 0 fX).2⟩
def TreeAt.item{w:World}{c:Nat}(h:TreeAt S w A nk c B nx e m)(hj:j<nx) :
    ∃ad cs x,B=some ad/\aL cs=4/\(∀q (hq:q<aL cs),w.cell? ((ad.add (j*4)).add q)=some cs[q])/\Rep S w (Sa x) cs/\Ja x<=m/\S (ad.add (j*4)).block/\∃n:Int,w.cell? ((ad.add (j*4)).add 0)=some (J n):=by
  obtain⟨ks,xs,h1,h2,h3,hK,hX⟩:=h;obtain⟨ad,cs,rfl,hl,hc,hr⟩:=hX.tree_elem (i:=j) fX;have hjx:j<aL xs:=by_Om
  obtain⟨A',c',hA,_,_,h4⟩:=Rep.slice_inv hX;simp only[List.cons.injEq,Value.slice.injEq,and_true]at hA;obtain⟨rfl,_,rfl⟩:=hA;obtain⟨ad',hA',es,hce,hre⟩:=h4 (λhz=>by have h0:aL (Mb xs)=0:=(by rw[hz];rfl);rw[Vh]at h0;omega);obtain rfl:=lQ hA';have hpos:0<aL es:=by
    rcases Nat.eq_zero_or_pos (aL es) with h|h
    ·have : es = [] := List.eq_nil_of_length_eq_zero h
     subst this;have h5:=hre.get (sz:=4) (λd hd=>by rw[Fc]at hd;obtain⟨k,_,rfl⟩:=nQ.1 hd;exact Cb k) j (aS hjx);have:=h5.2;simp at this
    exact h
  refine⟨ad,cs,xs[j],O,hl,hc,hr,by rw[<-h3];exact Ld<|eQ hjx,by rw[Ih];exact (hce 0 hpos).2,?_⟩;have h0:=hc 0 fX;generalize hx:xs[j]=x at hr;obtain⟨k,t,ks',ys⟩:=x;obtain⟨_,_,_,_,rfl,_⟩:=hr.tree_inv;exact⟨k,h0⟩
section
variable {P:Program}{R:Exit->Act->World->Prop}{n:Nat}{k:Kt}{s:Nat->Value}{w w0:World}{ops rest:List Oper}{Ds:List Nat}{bs_:List (Nat × Obj)}
variable {ty:TypeId}{pos:String}{aft:Array Edge}{g:Option (Nat × Bool)}
end
end Go.Scarf
namespace Go.Scarf
open List renaming length->aL
open Go.RowKit Go.Proofs Go.Proofs.Tryz
variable {ks:List Str}
def V0(n:Nat)(b:Int):Int:=if n=2 then b-192 else if n=3 then b-224 else if n=4 then b-240 else b
def all_cons{c:UInt8}{s:Str}(h:(c::s).all Qk=true):Qk c=true/\s.all Qk=true:=aS h
def atZ(ks:List Str)(key:Str):Int:=if key∈ks then ((ks.idxOf key:Nat):Int) else -1
theorem MY:∀{ks:List Str}{key:Str}{j:Nat}(h:j<aL ks),(∀x∈ks.take j,x≠key)->ks[j]=key->ks.idxOf key=j
  | k :: ks, key, 0, _, _, he => by
    have he':k=key:=he;rw[List.idxOf_cons,he'];simp
  | k :: ks, key, j + 1, h, hn, he => by
    have h0:k≠key:=hn k Ca;rw[List.idxOf_cons];have hb:(k==key)=false:=aS h0
    rw[hb];simp only[cond_false];rw[MY (ks:=ks) (j:=j) (aS h) (λx hx=>hn x zT) (aS he)]
theorem WY{key:Str}{j:Nat}(h:j<aL ks)(hn:∀x∈ks.take j,x≠key)(he:ks[j]=key):atZ ks key=(j:Int):=by grind [atZ,MY]
theorem at_none{key:Str}(hn:∀x∈ks,x≠key):atZ ks key = -1:=by grind [atZ]
theorem getX_c(x:Tree)(key:Str)(hsz:Ja x<=1000000000)(S:Nat->Prop)(w0:World)(cs:List Value)(hR:Rep S w0 (Sa x) cs)(hk:Rw x)(hG:Gl w0):Calls prog 78 #[.agg cs.toArray,I key] w0 (Qb λv w'=>∃ct:List Value,v=.tuple #[.agg ct.toArray,.bool (Di x key).2]/\Rep (Btw w0 w') w' (Sa (Di x key).1) ct/\Same [] w0 w'):=by
  obtain⟨k,t,ks,xs⟩:=x;grind [getV_c]
def Ends(r:Str):Prop:=∀c s,r=c::s->c=44\/c=93\/c=125
def Ends.nil:Ends []:=λc s h=>by cases h
open Go.RowKit
section
variable {P:Program}{w0 w:World}{Ds:List Nat}{pre post sb:List (Nat × Obj)}
end
section
variable {P:Program}{R:Exit->Act->World->Prop}{n:Nat}{kt:Kt}{s:Nat->Value}{w:World}{ops rest:List Oper}
variable {d:Nat}{ty:TypeId}{pos:String}{aft:Array Edge}{g:Option (Nat × Bool)}
variable {w0:World}{Ds:List Nat}{sb:List (Nat × Obj)}
end
end Go.Scarf
namespace Go.Scarf
open List renaming length->aL
open Go.RowKit Go.Proofs Go.Proofs.Tryz
open Go.RowKit Go.Proofs Go.Maps
variable {l:List Str}{A:Option Addr}{e n t:Nat}
theorem strLt_is(a b:Str):Ls a b=decide (a<b):=bytesLess_eq a b
section
variable {P:Program}{w0 w:World}{Ds ids:List Nat}
theorem RO{ad:Addr}{c:Nat}(h:RX w0 ids w [Wa l] [.slice A n c])(hA:A=some ad):∀q (hq:q<aL l),w.cell? (ad.add (q*1))=some (I (l[q])):=λq hq=>by
  obtain⟨ad',hA',hc,-⟩:=h.rep.str_elem hq;grind
theorem LT{c:Nat}(h:RX w0 ids w [Wa l] [.slice A n c])(hl:0<aL l):∃ad,A=some ad:=by
  obtain⟨ad,hA,-⟩:=h.rep.str_elem hl;grind
def I4{t e:TypeId}(h:P.underlying t=some (.slice e)):P.elem t=e:=by
  unfold Program.elem;rw[h]
theorem GU{ρ:Operand->Value}{dst:Option Nat}{ty:TypeId}{pos:String}{aft:Array Edge}{g:Option (Nat × Bool)}{sz:Nat}{x y:Operand}{c:Nat}{k:IntKind}(m:Nat)(ht:Se P t e sz)(hx:ρ x=.slice A n c)(hy:ρ y=.int k (m:Int))(hm:m<=n) :
    (execOp ρ ⟨dst,.slice t x (some y) none none,ty,pos,aft,g⟩).run P w=.ok (.value (.slice (if c=m then A else A.map (·.add (m*sz))) (n-m) (c-m))) w:=by
  have he:=I4 ht.1;have ht':P.underlying t=some (.slice<|P.elem t):=by rw[he];exact ht.1
  have h:=run_slice_l (P:=P) w t A n c ht' k m fX fX;have hs:(sizeOf<|P.elem t).run P w=.ok sz w:=by rw[he];exact ht.2 w
  rw[hs]at h;simp only[execOp,Option.map_none,Option.map_some,hx,hy,run_sliceAt_slice w t _ _ _ _ ht',Sem.run_bind,h,Result.andThen,sliced,Int.toNat_natCast];rfl
theorem KZ{α:Type}(l:List α)(m:Nat):l.eraseIdx m=l.take m++l.drop (m+1):=qJ
theorem append_left{ty bytes:Nat}{c m:Nat}(hE:Elems P t e 1 bytes)(hL:RX w0 ids w [Wa l] [.slice A n c])(hm:m<n)(hids:∀b∈ids,b<w.heap.size)(hw:w0.heap.size<=w.heap.size)(h63:n<=4611686018427387904)(hb:n*bytes<=140737488355328) :
    ∃A' c' w',(Builtin.append_ #[t,t] ty #[.slice A m m,.slice (if c=m+1 then A else A.map (·.add ((m+1)*1))) (n-(m+1)) (c-(m+1))]).run P w=.ok (.slice A' (n-1) c') w'/\RX w0 ids w' [Wa (l.eraseIdx m)] [.slice A' (n-1) c']/\Same [] w w':=by
  have hn:n=aL l:=by have:=hL.rep.slice_len;simpa using this.1
  have hcap:=hL.rep.slice_len.2;obtain⟨ad,hA⟩:=LT hL fX;subst hA;have hc:=RO hL rfl;have hlen:aL (l.eraseIdx m)=n-1:=qJ
  obtain⟨i,z,hi,hz,h2,h3,h4⟩:=hE.info;have hlits:∀(S:Nat->Prop)(wx:World)(q:List Str),(∀s∈q,aL s<=9223372036854775807)->RepL S wx (q.map Hh) (q.map λs=>Value.string<|bs s):=by
    intro S wx q
    induction q with
    | nil=>grind [RepL.nil_mk]
    | cons s q ih=>exact λh=>RepL.cons_mk (Rep.lit_mk (v:=I s)<|h s Ca)<|ih λx hx=>h x zT
  have hls:∀s∈l,aL s<=9223372036854775807:=by
    intro s hs;obtain⟨q,hq,rfl⟩:=List.mem_iff_getElem.1 hs;obtain⟨_,_,_,h⟩:=hL.rep.str_elem hq;exact h
  by_cases hk:n=m+1
  ·
   refine⟨some ad,m,w,?_,?_,Same.refl _ _⟩
   ·have hz0 : n-(m + 1) = 0 := by omega
    rw[hz0,show n-1=m by omega];have hf:∀A2 c2,(Builtin.firstCells i.size 0<|.slice A2 0 c2).run P w=.ok #[] w:=by
      intro A2 c2;cases A2 <;> simp[Builtin.firstCells,loadCells,loadCellsFrom]
    simp[Builtin.append_,run_underlying hE.ht,sizeOf,typeInfo,hi,Builtin.lenOf,hf,storeCells]
   have e1 : l.eraseIdx m = l.take m := by grind
   rw[e1,show n-1=m by omega];refine .one<|Rep.slice_mk zS (gQ _) fX λhne=>?_;obtain⟨A',c',hA',_,_,h6⟩:=Rep.slice_inv hL.rep;simp only[List.cons.injEq,Value.slice.injEq,and_true]at hA';obtain⟨rfl,_,_⟩:=hA';obtain⟨ad',hA2,es,hce,hre⟩:=h6 (by intro e;have:=xQ List.length e;rw[rQ,aZ]at this;omega);obtain rfl:=lQ hA2;have h0:0<aL es:=by
     rcases Nat.eq_zero_or_pos (aL es) with h|h
     ·have : es = [] := by grind
      subst this;have h7:=hre.length;have hz:∀q:List Str,Ic.sizeL (q.map Hh)=aL q:=by
        intro q
        induction q with
        | nil=>rfl
        | cons a q ih =>
          rw[iZ,Ic.sizeL,ih,kQ];grind [Hh,Ic]
      grind
     exact h
   refine⟨ad,O,(l.take m).map (λs=>Value.string<|bs s),λq hq=>⟨?_,(hce 0 h0).2⟩,hlits _ _ _ λs hs=>hls s<|List.mem_of_mem_take hs⟩;grind
  have hcm:¬c=m+1:=by_Om
  have hold:∀j v,((l.take m).map (λs=>Value.string<|bs s))[j]? = some v->w.cell? (ad.add j)=some v:=qJ
  have hnew:∀j v,((l.drop<|m+1).map (λs=>Value.string<|bs s))[j]? = some v->w.cell? ((ad.add<|(m+1)*1).add j)=some v:=by
    intro j v hj;rw[List.getElem?_map]at hj;cases hg:(l.drop<|m+1)[j]? with
    | none =>
      rw[hg]at hj;cases hj
    | some s =>
      rw[hg]at hj;obtain⟨hj1,hj2⟩:=List.getElem?_eq_some_iff.1 hg;have hq:m+1+j<aL l:=by simp at hj1;omega
      have h8:=hc (m+1+j) hq;rw[Nat.mul_one]at h8;rw[Hr,Nat.mul_one,h8];have:s=l[m+1+j]:=by rw[<-hj2];simp
      simp only[Option.map_some,Option.some.injEq]at hj;rw[<-hj,this]
  have hr:=run_append_grow (P:=P) w t ty e i z hE.ht hi hz ad m m ((l.take m).map λs=>Value.string<|bs s) (by rw[h2];simp;omega) hold (ad.add<|(m+1)*1) (n-(m+1)) (c-(m+1)) ((l.drop<|m+1).map λs=>Value.string<|bs s) (by rw[h2];simp;omega) hnew fX fX
    (growslice_fits fX (by rw[h3];exact fQ (Nat.mul_le_mul_right _ fX) hb))
  rw[tQ hcm];simp only[Option.map_some];have en:m+(n-(m+1))=n-1:=by_Om
  rw[en]at hr;have hsm:=(Same.drew w).trans (Same.alloc w.drew<|.cells (((l.take m).map λs=>Value.string<|bs s).toArray++((l.drop<|m+1).map λs=>Value.string<|bs s).toArray++Builtin.zeroCells z.cells (grownCap w (n-1) m e-(n-1))) e);refine⟨_,_,_,hr,?_,hsm⟩;have hge:=grownCap_ge w (n-1) m e;have hcm2:grownCap w (n-1) m e<=maxLen:=grownCap_le_maxLen w (n-1) m e qR;simp only[maxLen]at hcm2;refine .one<|Rep.slice_mk (by simp[hlen]) hge fX λ_=>?_;have hhe:=heap_alloc_new w.drew<|.cells (((l.take m).map λs=>Value.string<|bs s).toArray++((l.drop<|m+1).map λs=>Value.string<|bs s).toArray++Builtin.zeroCells z.cells (grownCap w (n-1) m e-(n-1))) e;refine⟨_,O,(l.eraseIdx m).map (λs=>Value.string<|bs s),λq hq=>⟨?_,?_⟩,hlits _ _ _ λs hs=>hls s<|List.mem_of_mem_eraseIdx hs⟩
  ·rw[Qe, Nat.zero_add, cell_of_row _ w.heap.size q _ e (0, 0) hhe]
   have hx:((l.eraseIdx m).map λs=>Value.string<|bs s)=((l.take m).map λs=>Value.string<|bs s)++((l.drop<|m+1).map λs=>Value.string<|bs s):=by rw[KZ,jQ]
   rw[<-List.getElem?_eq_getElem hq,hx];rw[hx]at hq;rw[Array.getElem?_append_left (by simp at hq ⊢;omega)];simp
  refine⟨by show w0.heap.size <= w.heap.size;exact hw, by show w.heap.size<_;exact Ga hhe, λhm => ?_, ⟨_, e, hhe⟩⟩;have:=hids _ hm;exact absurd this (by show ¬w.heap.size<w.heap.size;omega)
end
end Go.Scarf
namespace Go.Scarf
open List renaming length->aL
open Go.RowKit Go.Proofs Go.Proofs.Tryz
theorem FE{S:Nat->Prop}{wx:World}:∀{q:List Str},(∀s∈q,aL s<=9223372036854775807)->RepL S wx (q.map Hh) (q.map λs=>Value.string (bs s))
  | [],_=>RepL.nil_mk
  | s::q,h=>RepL.cons_mk (Rep.lit_mk (v:=I s)<|h s Ca)<|FE λx hx=>h x zT
section
variable {α:Type}{f:α->α->Int}{xs ys:List α}{j:Nat}{Q q r:Int}
end
end Go.Scarf
namespace Go.Scarf
open List renaming length->aL
open Go.RowKit Go.Proofs Go.Proofs.Tryz
end Go.Scarf
