/- A part of the proof. -/
import Derived.Test.YteedfdfinodcaaaGreatDoorBd
import Derived.Lib.BufferRead
import Derived.Lib.ItoaMem
import Derived.Lib.DecodeN
set_option linter.all false
set_option maxHeartbeats 8000000
set_option maxRecDepth 10000
namespace Go.Scarf
open List renaming length->aL
theorem DW:∀{xs:List Tree},(∀x∈xs,CW x)->LR xs
  | [],_=>by rw[LR];trivial
  | x::xs,h=>by rw[LR];exact⟨h x Da,DW λy hy=>h y zV⟩
mutual
def Kb:Tree->Nat|.node _ t ks xs=>max (aL t) (max (Th ks) (Qf xs))
def Qf:List Tree->Nat|[]=>0|x::xs=>max (Kb x) (Qf xs)
def Th:List Str->Nat|[]=>0|k::ks=>max (aL k) (Th ks)
end
theorem Hi:∀{ks:List Str}{k:Str},k∈ks->aL k<=Th ks
  | y :: ys, k, h => by
    rw[Th];rcases oQ.1 h with rfl|h
    ·omega
    have:=Hi h;omega
theorem Vd:∀{xs:List Tree}{x:Tree},x∈xs->Kb x<=Qf xs
  | y :: ys, k, h => by
    rw[Qf];rcases oQ.1 h with rfl|h
    ·omega
    have:=Vd h;omega
theorem Fv{n:Nat}:∀{ks:List Str},(∀k∈ks,aL k<=n)->Th ks<=n
  | [],_=>by rw[Th];omega
  | k :: ks, h => by
    rw[Th];have h1:=h k Da;have h2:=Fv (λy hy=>h y zV:∀k∈ks,aL k<=n);omega
theorem Gs{n:Nat}:∀{xs:List Tree},(∀x∈xs,Kb x<=n)->Qf xs<=n
  | [],_=>by rw[Qf];omega
  | k :: ks, h => by
    rw[Qf];have h1:=h k Da;have h2:=Gs (λy hy=>h y zV:∀x∈ks,Kb x<=n);omega
def okQ_max(x:Tree):Kb x<=17592186044416->CW x:=Tree.ind (Q:=λx=>Kb x<=17592186044416->CW x) (λk t ks xs ih h=>by
  rw[Kb]at h;rw[CW];exact⟨by_Om,λk hk=>by have:=Hi hk;omega,DW λy hy=>ih y hy (by have:=Vd hy;omega)⟩) x
def Ef(x:Tree):Kb x<=17592186044416->Sz x:=Tree.ind (Q:=λx=>Kb x<=17592186044416->Sz x) (λk t ks xs ih h=>by
  rw[Kb]at h;rw[Sz];exact⟨by_Om,λk hk=>by have:=Hi hk;omega,HY λy hy=>ih y hy (by have:=Vd hy;omega)⟩) x
theorem short_max(x:Tree):Qk x=true->Kb x<=2048:=Tree.ind (Q:=λx=>Qk x=true->Kb x<=2048) (λk t ks xs ih h=>by
  rw[Qk,vQ,vQ,wQ,List.all_eq_true]at h;rw[Kb];have h1:Th ks<=2048:=Fv λk hk=>by have:=h.1.2 k hk;simp only[wQ]at this;omega
  have key:∀ys:List Tree,(∀y∈ys,y∈xs)->Cr ys=true->Qf ys<=2048:=by
    intro ys
    induction ys with
    | nil=>intro _ _;rw[Qf];omega
    | cons y ys ihy =>
      intro hm hs;rw[Cr,vQ]at hs;rw[Qf];have a:=ih y (hm y Da) hs.1;have b:=ihy (λz hz=>hm z zG) hs.2;omega
  have h2:=key xs (λ_ h=>h) h.2;omega) x
theorem max_sort(x:Tree):Kb (sortT x)<=Kb x:=Tree.ind (Q:=λx=>Kb (sortT x)<=Kb x) (λk t ks xs ih=>by
  have hs:∀y∈Ge xs,Kb y<=Qf xs:=by
    intro y hy;rw[Hf]at hy;obtain⟨z,hz,rfl⟩:=nQ.1 hy;exact fQ (ih z hz)<|Vd hz
  rw[sortT];split
  ·rw[Kb, Kb]
   have h1:Th (Me ks)<=Th ks:=Fv λk hk=>Hi<|Jm.1 hk;have h2:Qf ((Me ks).map λkey=>(Wb ks (Ge xs) key).getD (.node 0 [] [] []))<=Qf xs:=Gs λy hy=>by
     obtain⟨key,_,rfl⟩:=nQ.1 hy;cases hl:Wb ks (Ge xs) key with
     | none=>simp[Kb,Th,Qf]
     | some z=>exact hs z<|Oj hl
   omega
  rw[Kb, Kb];have h2:=Gs hs;have h3:Th []=0:=by rw[Th]
  omega) x
theorem Uz(m:Bool)(ind d:Nat)(D:Nat)(hD:d+1<=D):∀(ps:List Str)(b:Bool),aL (Pq m ind d b ps)<=(ps.map λp=>aL p+(2+ind*D)).sum
  | [],b=>by rw[Pq];simp
  | p :: ps, b => by
    have h1:=Uz m ind d D hD ps false;have h2:=Vz m ind<|d+1;have h3:ind*(d+1)<=ind*D:=Nat.mul_le_mul_left _ hD;have h4:aL (if b=true then ([]:Str) else [44])<=1:=by split <;> simp
    rw[Pq,jZ,List.sum_cons];simp only[dQ];omega
def val_bound(m:Bool)(ind L D:Nat)(x:Tree):∀d,Kb x<=L->d+Cb x<=D->aL (Hl m ind x d)+(6*L+6+ind*D)<=Ka x*(12*L+40+2*(ind*D)) :=
  Tree.ind (Q:=λx=>∀d,Kb x<=L->d+Cb x<=D->aL (Hl m ind x d)+(6*L+6+ind*D)<=Ka x*(12*L+40+2*(ind*D))) (λk t ks xs ih d hL hd=>by
  rw[Kb]at hL;rw[Cb]at hd;have hq:=UE t;have hl:=Vz m ind d;have hid:ind*d<=ind*D:=Nat.mul_le_mul_left _ kX;have key1:∀ys:List Tree,(∀y∈ys,y∈xs)->((Iw m ind ys<|d+1).map λp=>aL p+(2+ind*D)).sum<=Qa ys*(12*L+40+2*(ind*D)):=by
    intro ys
    induction ys with
    | nil=>intro _;simp[Iw]
    | cons y ys ihy =>
      intro hm;have h1:=ih y (hm y Da) (d+1) (by have:=Vd<|hm y Da;omega) (by have:=Rf<|hm y Da;omega);have h2:=ihy λz hz=>hm z zG;rw[Iw,jZ,List.sum_cons,Qa,Nat.add_mul];omega
  have key2:∀(ys:List Tree)(js:List Str),(∀y∈ys,y∈xs)->(∀k∈js,aL k<=L)->((Qp m ind ys js<|d+1).map λp=>aL p+(2+ind*D)).sum<=Qa ys*(12*L+40+2*(ind*D)):=by
    intro ys
    induction ys with
    | nil=>intro _ _ _;simp[Qp]
    | cons y ys ihy =>
      intro js hm hj;have h1:=ih y (hm y Da) (d+1) (by have:=Vd<|hm y Da;omega) (by have:=Rf<|hm y Da;omega);have h2:=ihy js.tail (λz hz=>hm z zG) λk hk=>hj k<|List.mem_of_mem_tail hk;have h3:aL (js.headD [])<=L:=by
        cases js with
        | nil=>simp
        | cons a b=>exact hj a Da
      have h4:=UE<|js.headD [];have h5:aL (if m=true then ([32]:Str) else [])<=1:=by split <;> simp
      rw[Qp,jZ,List.sum_cons,Qa,Nat.add_mul];simp only[dQ,kQ,aZ];omega
  have fin:∀(o c:UInt8)(ps:List Str)(N:Nat),(xs=[]->ps=[])->(ps.map λp=>aL p+(2+ind*D)).sum<=N->aL (Rr m ind d o c ps)+(6*L+6+ind*D)<=1*(12*L+40+2*(ind*D))+N:=by
    intro o c ps N he hN;have h5:aL (if ps=[] then ([]:Str) else Sp m ind d)<=1+ind*D:=by
      split
      ·simp
      omega
    have h6:aL (Pq m ind d true ps)<=N:=by
      by_cases hp:ps=[]
      ·subst hp;rw[Pq];simp
      have hx : xs ≠ [] := λh => hp (he h);have h7:1<=Fb xs:=by
        cases xs with
        | nil=>exact absurd rfl hx
        | cons a b => rw[Fb];have : 1 <= Cb a := by (obtain⟨_, _, _, _⟩ := a;rw[Cb];omega)
                      omega
      exact fQ (Uz m ind d D kX ps true) hN
    rw[Rr];simp only[dQ,kQ,aZ];omega
  rw[Hl,Ka,Nat.add_mul];split
  ·simp only[kQ,aZ];omega
  split
  ·omega
  split
  ·exact fin _ _ _ _ (λh=>by rw[h,Iw])<|key1 xs λ_ h=>h
  split
  ·exact fin _ _ _ _ (λh=>by rw[h,Qp])<|key2 xs ks (λ_ h=>h) (λk hk=>by have:=Hi hk;omega)
  omega) x
def Ru(x:Tree):Str:=if Ob x=true then Hl false 0 x 0 else []
def AZ(x:Tree):Int:=if Ob x=true then 0 else 1
theorem Wr(q:Tree->Bool):∀xs:List Tree,Uq q xs=xs.all (Zb q)
  | []=>rfl
  | x::xs=>by rw[Uq,Wr q xs];rfl
def no7(x:Tree):Bool:=decide (x.kind≠7)
def allT_and(p q:Tree->Bool)(x:Tree):Zb (λx=>p x&&q x) x=(Zb p x&&Zb q x):=Tree.ind (Q:=λx=>Zb (λx=>p x&&q x) x=(Zb p x&&Zb q x)) (λk t ks xs ih=>by
  rw[Zb,Zb,Zb,Wr,Wr,Wr];have h:xs.all (Zb λx=>p x&&q x)=(xs.all (Zb p)&&xs.all (Zb q)):=by
    rw[Bool.eq_iff_iff,vQ,List.all_eq_true,List.all_eq_true,List.all_eq_true];refine⟨λg=>⟨λy hy=>?_,λy hy=>?_⟩,λg y hy=>?_⟩
    ·have:=g y hy;rw[ih y hy,vQ]at this;exact this.1
    ·have:=g y hy;rw[ih y hy,vQ]at this;exact this.2
    rw[ih y hy,vQ];exact⟨g.1 y hy,g.2 y hy⟩
  rw[h];cases p (.node k t ks xs) <;> cases q (.node k t ks xs) <;> simp) x
theorem right_eq(x:Tree):Ob x=(Fd x&&Zb no7 x):=by
  have h:Zb rnodeB x=(Zb no7 x&&Zb nodeB x):=allT_and no7 nodeB x;rw[Ob,Fd,h];cases Ji x <;> cases Zb no7 x <;> simp
theorem Gj{x:Tree}(h:Ob x=true):Fd x=true:=by grind [right_eq]
theorem G6(x:Tree)(h:Ka x<=1000000000):Ka (Ff x)<=1000000000:=by
  by_cases ho:Fd x=true
  ·grind [Xq,An,Ei]
  rw[Ff, tQ ho];decide
theorem Zq(x:Tree):Kb (Ff x)<=Kb x:=by
  by_cases ho:Fd x=true
  ·grind [Xq,max_sort]
  rw[Ff, tQ ho];have:Kb zeroT=0:=Ra
  omega
open Go.RowKit
structure Sd where
  has:Bool
  val:Tree
structure Cf where
  path:List Str
  cls:Int
  b:Sd
  l:Sd
  r:Sd
structure Rl where
  pat:List Str
  key:Str
def noS:Sd:=⟨false,zeroT⟩
def Ni:Option Tree->Sd
  | some x=>⟨true,x⟩
  | none=>noS
def Il(n:Nat):Str:=Ij (CQ n)
def Lj(n:Nat):Tree:=.node 7 (Il n) [] []
def Ro(s:Sd):Sd:=if s.has=true then ⟨true,I6 s.val⟩ else noS
def Kj(c:Cf)(p:Int):Sd × Bool:=if p=0 then (Ro c.b,true) else if p=1 then (Ro c.l,true) else if p=2 then (Ro c.r,true) else (noS,false)
mutual
def Ue:Tree->List Str
  | .node k t _ xs=>(if k=7 then [t] else [])++Ye xs
def Ye:List Tree->List Str
  | []=>[]
  | x::xs=>Ue x++Ye xs
end
def D6(s:Sd)(cls:Int):Bool:=!s.has || (Ob s.val&&(decide (cls≠5) || decide (s.val.kind=5)))
def QC(c:Cf):Bool:=D6 c.b c.cls&&(D6 c.l c.cls&&D6 c.r c.cls)
def JC:Cf:=⟨[],0,noS,noS,noS⟩
def Hs(v:Tree)(l:List Cf)(pick:List Int):Bool :=
  decide (aL l=aL pick)&&(decide (aL (Ue v).eraseDups=aL l) &&
    (List.range (aL l)).all λi=>decide ((Ue v).count (Il i)=1)&&(QC (l.getD i JC)&&(Kj (l.getD i JC) (pick.getD i 0)).2))
def Ch(v:Tree):Int:=if v.kind≠7 then -1 else if (Ld v.text).2≠0 then -1 else (Et (Ld v.text).1).1
def A7(l:List Cf)(pick:List Int)(i:Int):Sd:=(Kj (l.getD i.toNat JC) (pick.getD i.toNat 0)).1
def Lr(l:List Cf)(k:Int)(key:Str)(h:Int)(s:Sd):List Str × List Tree :=
  if s.has=true then
    if k=6 then ([key],[s.val])
    else if 0<=h/\(l.getD h.toNat JC).cls=5 then ([],s.val.items)
    else ([],[s.val])
  else ([],[])
mutual
def Xd(l:List Cf)(pick:List Int):Tree->Sd
  | .node k t ks xs =>
    if 0<=Ch (.node k t ks xs) then A7 l pick (Ch (.node k t ks xs))
    else ⟨true,.node k t (Bh l pick k ks xs).1 (Bh l pick k ks xs).2⟩
def Bh(l:List Cf)(pick:List Int)(k:Int):List Str->List Tree->List Str × List Tree
  | _,[]=>([],[])
  | ks, x :: xs =>
    let a:=Lr l k (ks.headD []) (Ch x) (Xd l pick x)
    let b:=Bh l pick k ks.tail xs
    (a.1++b.1,a.2++b.2)
end
def Qq(v:Tree)(l:List Cf)(pick:List Int):Tree × Int :=
  if Fd v=true/\Hs v l pick=true then
    let s:=Xd l pick v
    if s.has=true then (if Ob s.val=true then (s.val,0) else (zeroT,1)) else (zeroT,8)
  else (zeroT,1)
def numOk(i:Nat):Bool:=decide ((Ld (Il i)).2=0)&&(decide ((Ld (Il i)).1=CQ i)&&(decide (Et (CQ i)=((i:Int),true))&&decide (aL (Il i)<=20)))
def num_all:(List.range 1000).all numOk=true:=by kernel_rfl
theorem U9{i:Nat}(h:i<1000):(Ld (Il i)).2=0/\(Ld (Il i)).1=CQ i/\Et (CQ i)=((i:Int),true)/\aL (Il i)<=20:=by
  have:=List.all_eq_true.1 num_all i<|List.mem_range.2 h;grind [numOk]
theorem hole_ok{i:Nat}(h:i<1000):Er (Il i)=true:=by grind [U9,Er,Jh,Il]
theorem PS{i:Nat}(h:i<1000):Ch (Lj i)=i:=by
  obtain⟨h1,h2,h3,-⟩:=U9 h;show (if (7:Int)≠7 then (-1:Int) else if (Ld<|Il i).2≠0 then -1 else (Et (Ld<|Il i).1).1)=_;grind
theorem Cq(v:Tree):Qa v.items+1<=Ka v:=by
  cases v;rw[Ka];simp only[Tree.items];omega
theorem Bg{M:Nat}{x:Tree}(h:Kb x<=M):∀y∈x.items,Kb y<=M:=λy hy=>by
  cases x with
  | node k t ks xs =>
    have:=Vd (show y∈xs from hy);grind [Kb]
theorem G1{M:Nat}{x:Tree}(h:Kb x<=M):∀k∈x.keys,aL k<=M:=λk hk=>by
  cases x with
  | node _ t ks xs =>
    have:=Hi (show k∈ks from hk);grind [Kb]
def SdR(s:Sd):Prop:=s=noS\/(s.has=true/\Ob s.val=true)
def AQ(c:Cf):Prop:=SdR c.b/\SdR c.l/\SdR c.r/\(c.cls=5->c.b.val.kind=5/\c.l.val.kind=5/\c.r.val.kind=5)/\1<=c.cls/\c.cls<=6
theorem Lf:∀xs:List Tree,Ye xs=xs.flatMap Ue
  | []=>rfl
  | x::xs=>by rw[Ye,Lf xs,List.flatMap_cons]
open Go.RowKit Go.Proofs Go.Proofs.Tryz
def CL(b:Bool):D:=.lit (.bool b)
def Xc(s:Sd):D:=.agg [CL s.has,Ta s.val]
def Ur(b l r:Sd):D:=.agg [Xc b,Xc l,Xc r]
def LK(c:Cf):D:=.agg [Ya c.path,Oe c.cls,Xc c.b,Xc c.l,Xc c.r]
def QF(x:Rl):D:=.agg [Ya x.pat,Ai x.key]
def Co(l:List Rl):D:=.slice (l.map QF)
def Pp(s:Sd):Rc (Xc s)=5:=by
  have:=Eb s.val;simp only[Xc,Rc,Rc.sizeL,this,CL]
def LL(c:Cf):Rc (LK c)=17:=by simp only[LK,Rc,Rc.sizeL,Pp,Ya,Oe]
section
variable {S:Nat->Prop}{w:World}
theorem rule_rep{x:Rl}{cs:List Value}(h:Rep S w (QF x) cs):∃A c,cs=[.slice A (aL x.pat) c,I x.key]/\Rep S w (Ya x.pat) [.slice A (aL x.pat) c]:=by grind [QF,Rep,RepL.cons_inv,RepL.nil_inv,Ya,Ai]
theorem Rep.rule_elem{l:List Rl}{A:Option Addr}{len c:Nat}(h:Rep S w (Co l) [.slice A len c]){i:Nat}(hi:i<aL l) :
    ∃ad B e,A=some ad/\(∀j (hj:j<[Value.slice B (aL l[i].pat) e,I (l[i].key)].length),w.cell? ((ad.add (i*2)).add j)=some [Value.slice B (aL l[i].pat) e,I (l[i].key)][j])/\Rep S w (Ya l[i].pat) [.slice B (aL l[i].pat) e]:=by
  obtain⟨ad,cs,hA,hl,hc,hr⟩:=Rep.elem (sz:=2) h (λd hd=>by obtain⟨k,_,rfl⟩:=nQ.1 hd;rfl) (i:=i) (aS hi);grind [rule_rep]
end
section
variable {cs l:List Value}{b n:Nat}{T:TypeId}{d:D}{u:World}
variable {S:Nat->Prop}{w w' w0:World}{Ds E:List Nat}{pre post bs_ sm sm1:List (Nat × Obj)}{pb:Nat}{RV:Value}{cfs:List Cf}
theorem Rep.side_inv{s:Sd}(h:Rep S w (Xc s) cs):∃ct,cs=.bool s.has::ct/\Rep S w (Ta s.val) ct:=by grind [Xc,Rep,RepL.cons_inv,RepL.nil_inv,CL]
theorem Rep.side_mk{s:Sd}{ct:List Value}(h:Rep S w (Ta s.val) ct):Rep S w (Xc s) (.bool s.has::ct):=by
  unfold Xc;rw[Rep];have h1:Rep S w (CL s.has) [.bool s.has]:=by unfold CL;rw[Rep];exact ae1
  have:=RepL.cons_mk h1<|RepL.cons_mk h RepL.nil_mk;grind
def L8:Rep S w (Xc noS) [.bool false,J 0,I [],aQ,aQ]:=Rep.side_mk (s:=noS) (Tg S w)
structure Tv where
  k:Int
  t:Str
  A:Option Addr
  n:Nat
  c:Nat
  B:Option Addr
  m:Nat
  e:Nat
structure Sv where
  h:Bool
  v:Tv
abbrev Tv.cells(x:Tv):List Value:=[J x.k,I x.t,.slice x.A x.n x.c,.slice x.B x.m x.e]
abbrev Sv.cells(x:Sv):List Value:=[.bool x.h,J x.v.k,I x.v.t,.slice x.v.A x.v.n x.v.c,.slice x.v.B x.v.m x.v.e]
abbrev th(x y z:Sv):List Value:=[.bool x.h,J x.v.k,I x.v.t,.slice x.v.A x.v.n x.v.c,.slice x.v.B x.v.m x.v.e,.bool y.h,J y.v.k,I y.v.t,.slice y.v.A y.v.n y.v.c,.slice y.v.B y.v.m y.v.e,.bool z.h,J z.v.k,I z.v.t,.slice z.v.A z.v.n z.v.c,.slice z.v.B z.v.m z.v.e]
def YY:Tv:=⟨0,[],none,0,0,none,0,0⟩
def Hk{y:Tree}(h:Rep S w (Ta y) cs):∃x:Tv,cs=x.cells/\x.k=y.kind/\x.t=y.text/\x.n=aL y.keys/\x.m=aL y.items:=by
  obtain⟨k,t,ks,xs⟩:=y;obtain⟨A,c,B,e,rfl,-,-,-,-⟩:=h.tree_inv;exact⟨⟨k,t,A,aL ks,c,B,aL xs,e⟩,O,O,O,O,O⟩
def Fe{S:Nat->Prop}{w:World}{t:Tree}{x:Tv}(h:Rep S w (Ta t) x.cells):x.k=t.kind/\x.t=t.text/\x.n=aL t.keys/\x.m=aL t.items/\Rep S w (Ya t.keys) [.slice x.A x.n x.c]/\Rep S w (.slice (Rb t.items)) [.slice x.B x.m x.e]:=by
  obtain⟨k,s,ks,xs⟩:=t;obtain⟨A,c,B,e,hq,-,-,h3,h4⟩:=h.tree_inv;simp only[Tv.cells,List.cons.injEq,Value.int.injEq,Value.string.injEq,Value.slice.injEq,true_and,and_true]at hq;obtain⟨e1,e2,e3,e4⟩:=hq;refine⟨e1,bs_inj.1 e2,e3.2.1,e4.2.1,?_,?_⟩
  ·rw[e3.1, e3.2.1, e3.2.2]
   exact h3
  rw[e4.1, e4.2.1, e4.2.2];exact h4
theorem Q8{s:Sd}(h:Rep S w (Xc s) cs):∃x:Sv,cs=x.cells/\x.h=s.has/\x.v.k=s.val.kind/\Rep S w (Ta s.val) x.v.cells:=by
  obtain⟨ct,rfl,h1⟩:=h.side_inv;obtain⟨x,rfl,h2,-⟩:=Hk h1;exact⟨⟨s.has,x⟩,O,O,h2,h1⟩
theorem Nc{s:Sd}{x:Sv}(h:Rep S w (Xc s) x.cells):x.h=s.has/\x.v.k=s.val.kind/\x.v.n=aL s.val.keys/\x.v.m=aL s.val.items/\Rep S w (Ta s.val) x.v.cells:=by
  obtain⟨ct,e,h1⟩:=h.side_inv;obtain⟨y,rfl,h2,-,h3,h4⟩:=Hk h1;grind
def Sj{s:Sd}{x:Tv}(h:Rep S w (Ta s.val) x.cells):Rep S w (Xc s) (Sv.mk s.has x).cells:=Rep.side_mk h
theorem FR.part{bs_:List (Nat × Obj)}(h:FR w0 Ds bs_ w)(i off:Nat){l':List Value}{fz:Nat × Nat}(hi:bs_[i]? = some (b,.cells l.toArray T fz))(hl:(l.drop off).take (aL l')=l') :
    ∀j (hj:j<aL l'),w.cell? ((⟨b,off,none⟩:Addr).add j)=some l'[j]:=λj hj=>by
  have e:(⟨b,off,none⟩:Addr).add j=⟨b,off+j,none⟩:=by unfold Addr.add;split <;> simp_all
  rw[e,Ua (h.heap hi)<|off+j];grind
theorem FR.rowS{w0 w:World}{E:List Nat}{bs_:List (Nat × Obj)}{S:Nat->Prop}{ds:List D}(hF:FR w0 E bs_ w)(k:Nat)(hi:bs_[k]? = some (b,.cells l.toArray T))(hr:RepL S w ds l)(hn:aL ds=n)(hm:n<=9223372036854775807):Rep (λx=>S x\/x=b) w (.slice ds) [.slice (some ⟨b,0,none⟩) n n] :=
  Rep.slice_mk hn.symm (gQ _) hm λ_=>⟨_,rfl,l,λj hj=>⟨hF.cellsAll k hi j hj,.inr rfl⟩,RepL.weaken (λ_ h _=>.inl h) hr⟩
theorem FR.repE{w0 w:World}{Dz:List Nat}{bs_:List (Nat × Obj)}{S:Nat->Prop}(hF:FR w0 Dz bs_ w)(hS:∀b,S b->b<w0.heap.size/\b∉Dz)(h:Rep S w0 d cs):Rep S w d cs:=h.same hF.same λb hb hs=>(hS b hs).2 hb
def Rep.low{S:Nat->Prop}{w:World}(h:Rep S w d cs):Rep (λb=>b<w.heap.size) w d cs:=h.weaken λ_ _ hl=>hl
def wE(w:World):World:={ w with heap:=#[] }
def RX.base{i:List Nat}{ds:List D}(h:RX w0 i w ds cs)(hu:u.heap.size<=w0.heap.size):RX u i w ds cs:=RepL.weaken (λ_ hb _=>⟨fQ hu hb.1,hb.2⟩) h
def RX.empty{i:List Nat}{ds:List D}(h:RX w0 i w ds cs)(u:World):RX (wE u) i w ds cs:=h.base (cZ _)
def ids(sm:List (Nat × Obj)):List Nat:=sm.map (·.1)
def RX.grow{w w':World}{i:List Nat}{sl sl':List (Nat × Obj)}{ds:List D}(h:RX u i w ds cs)(hE:Same (sl.map (·.1)) w w')(hn:∀p∈sl',p.1∈sl.map (·.1)\/w.heap.size<=p.1)(hi:∀x∈sl.map (·.1),x∈i):RX u (i++ids sl') w' ds cs :=
  h.step hE hi λx hx=>by
    rcases mQ.1 hx with h1|h1
    ·exact .inl h1
    obtain⟨p, hp, rfl⟩ := nQ.1 h1;rcases hn p hp with h2|h2
    ·exact .inl<|hi _ h2
    exact .inr h2
structure Mx (i:List Nat) (w:World) (sm:List (Nat × Obj)) (pb:Nat) (RV:Value) (cfs:List Cf):Prop where
  ex:∃(A:Option Addr)(c:Nat)(sl:List (Nat × Obj))(vals:List Value),sm=(pb,.cells #[RV,.slice A (aL cfs) c] 57)::sl/\SlB 38 17 A (aL cfs) c vals sl/\RX (wE w) i w (cfs.map LK) vals
section
variable {i i':List Nat}
def Mx.step(h:Mx i w sm pb RV cfs)(hs:Same E w w')(he:∀b∈E,b∈i)(hi:∀x∈i',x∈i\/w.heap.size<=x):Mx i' w' sm pb RV cfs:=by
  obtain⟨A,c,sl,vals,h1,h2,h3⟩:=h.ex;exact⟨A,c,sl,vals,h1,h2,(h3.step hs he hi).empty w'⟩
def Mx.ext(h:Mx i w sm pb RV cfs)(hs:Same [] w w'):Mx i w' sm pb RV cfs:=h.step hs Da (λ_ hx=>.inl hx)
def Mx.store(h:Mx i w sm pb RV cfs)(hs:Same E w w')(he:∀b∈E,b∈i):Mx i w' sm pb RV cfs:=h.step hs he (λ_ hx=>.inl hx)
def Mx.alloc(h:Mx i w sm pb RV cfs)(hs:Same [] w w')(hb:b=w.heap.size):Mx (b::i) w' sm pb RV cfs :=
  h.step hs Da (λx hx=>by rcases oQ.1 hx with rfl|hx;exact .inr kX;exact .inl hx)
def Mx.sub(h:Mx i w sm pb RV cfs)(hi:∀x∈i',x∈i):Mx i' w sm pb RV cfs:=h.step (Same.refl [] w) Da (λx hx=>.inl<|hi x hx)
theorem SlB.typ1{e m c:Nat}{A:Option Addr}{xs:List Value}{sb:List (Nat × Obj)}(h:SlB e m A n c xs sb):aL sb<=1/\∀q∈sb,∃cur,q.2=.cells cur e:=by
  rcases h.2 with ⟨-,-,rfl⟩|⟨g,cur,-,rfl,-⟩
  ·grind
  grind
theorem Mx.pw(h:Mx i w sm pb RV cfs)(hh:∀q∈sm,w.heap[q.1]? = some q.2):sm.Pairwise (λp q=>q.1≠p.1):=by
  obtain⟨A,c,sl,vals,rfl,h2,-⟩:=h.ex;refine List.pairwise_cons.2 ⟨λq hq e=>?_,h2.pw⟩;obtain⟨cur,e2⟩:=h2.typ1.2 q hq;have h5:=hh q jB;simp_all
theorem Mx.start(h:Mx i w sm pb RV cfs)(hh:∀q∈sm,w.heap[q.1]? = some q.2):FR w (ids sm) ([]++(sm++[])) w:=by
  rw[lZ,qQ];exact⟨.refl _ _,λq hq=>⟨hh q hq,.inr<|List.mem_map_of_mem hq⟩,h.pw hh⟩
theorem Mx.box(h:Mx i w sm pb RV cfs)(hh:∀q∈sm,w.heap[q.1]? = some q.2):∃(A:Option Addr)(c:Nat),w.heap[pb]? = some (.cells #[RV,.slice A (aL cfs) c] 57):=by
  obtain⟨A,c,sl,vals,rfl,-,-⟩:=h.ex;simp_all
def Mx.mem(h:Mx i w sm pb RV cfs):pb∈ids sm:=by
  obtain⟨A,c,sl,vals,rfl,-,-⟩:=h.ex;exact zQ
structure Mc (w:World) (sm:List (Nat × Obj)) (w':World) (sm':List (Nat × Obj)):Prop where
  same:Same (ids sm) w w'
  fresh:∀q∈sm',w.heap.size<=q.1\/q.1∈ids sm
theorem FR.segs_of(hF:FR w0 Ds (pre++(sm++post)) w):∀q∈sm,w.heap[q.1]? = some q.2/\(w0.heap.size<=q.1\/q.1∈Ds):=λq hq=>hF.own q jB
theorem FR.toMc(hF:FR w0 (ids sm1) (pre++(sm++post)) w):Mc w0 sm1 w sm:=⟨hF.same,λq hq=>(hF.segs_of q hq).2⟩
theorem FR.hh(hF:FR w0 Ds bs_ w)(hsp:Spl bs_ pre sm post:=by repeat (first|exact Spl.z|apply Spl.c|apply Spl.a)):∀q∈sm,w.heap[q.1]? = some q.2:=by
  rw[hsp.eq]at hF;exact λq hq=>(hF.segs_of q hq).1
theorem FR.mc(hF:FR w0 (ids sm1) bs_ w)(hsp:Spl bs_ pre sm post:=by repeat (first|exact Spl.z|apply Spl.c|apply Spl.a)):Mc w0 sm1 w sm:=by
  rw[hsp.eq]at hF;exact hF.toMc
theorem FR.swapM(hF:FR w0 Ds bs_ w){cfs1:List Cf}(hM:Mx i w' sm1 pb RV cfs1)(hh:∀q∈sm1,w'.heap[q.1]? = some q.2)(hE:Mc w sm w' sm1)(hsp:Spl bs_ pre sm post:=by repeat (first|exact Spl.z|apply Spl.c|apply Spl.a)):FR w0 Ds (pre++(sm1++post)) w':=by
  rw[hsp.eq]at hF;have hd:=hF.desc;rw[List.pairwise_append,List.pairwise_append]at hd;obtain⟨d1,⟨d2,d3,d4⟩,d5⟩:=hd;have hrest:∀q,q∈pre++post->∀r∈sm,q.1≠r.1:=λq hq r hr e=>by
    rcases mQ.1 hq with hq|hq
    ·exact d5 q hq r (by simp[hr]) e.symm
    exact d4 r hr q hq e
  have hB:FR w0 Ds (pre++post) w:=⟨hF.same,λq hq=>hF.own q (by rcases mQ.1 hq with h|h <;> simp[h]),by
    rw[List.pairwise_append];exact⟨d1,d3,λq hq r hr=>d5 q hq r (by simp[hr])⟩⟩
  have hB':FR w0 Ds (pre++post) w':=hB.touch hE.same λb hb=>by
    obtain⟨r,hr,rfl⟩:=nQ.1 hb;exact⟨λh=>((hF.segs_of r hr).2).resolve_left kX,λz hz e=>hrest z hz r hr e⟩
  have hn:∀q∈sm1,∀z∈pre++post,z.1≠q.1:=λq hq z hz e=>by
    rcases hE.fresh q hq with h1|h1
    ·have:=Ia<|hB.memHeap hz;omega
    obtain⟨r, hr, e'⟩ := nQ.1 h1;exact hrest z hz r hr<|e.trans e'.symm
  refine⟨hB'.same,λq hq=>?_,?_⟩
  ·rcases mQ.1 hq with h|h
   ·exact hB'.own q (by simp[h])
   rcases mQ.1 h with h|h
   ·refine⟨hh q h, ?_⟩
    rcases hE.fresh q h with h1|h1
    ·exact .inl<|fQ hF.same.size h1
    obtain⟨r, hr, e⟩ := nQ.1 h1;rw[<-e];exact (hF.segs_of r hr).2
   exact hB'.own q (by simp[h])
  rw[List.pairwise_append, List.pairwise_append];refine⟨d1,⟨hM.pw hh,d3,λq hq z hz e=>hn q hq z zG e⟩,λz hz q hq e=>?_⟩;rcases mQ.1 hq with h|h
  ·exact hn q h z zG e.symm
  exact d5 z hz q (by simp[h]) e
def Nq(w:World)(sm':List (Nat × Obj))(w':World)(x:Nat):Prop:=Btw w w' x/\x∉ids sm'
def RX.madeM(hw:w0.heap.size<=w.heap.size)(hi:∀x∈i,x<w.heap.size\/x∈ids sm)(h:Rep (Nq w sm w') w' d cs):RX w0 i w' [d] cs :=
  .one (h.weaken λb hb _=>⟨fQ hw hb.1.1,hb.1.2.1,λhm=>by
    rcases hi b hm with h1|h1
    ·have:=hb.1.1;omega
    exact hb.2 h1,hb.1.2.2⟩)
def RX.swap{j:List Nat}{ds:List D}(h:RX u i w ds cs)(hE:Mc w sm w' sm1)(hi:∀x∈ids sm,x∈i)(hj:∀x∈j,x∈i\/x∈ids sm1):RX u j w' ds cs :=
  h.step hE.same hi λx hx=>by
    rcases hj x hx with h1|h1
    ·exact .inl h1
    obtain⟨q, hq, rfl⟩ := nQ.1 h1;rcases hE.fresh q hq with h2|h2
    ·exact .inr h2
    exact .inl<|hi _ h2
theorem RX.nq(h:RX w0 i w [d] cs)(hi:∀x∈ids sm,x∈i):Rep (Nq w0 sm w) w d cs:=h.rep.weaken λ_ hb _=>⟨⟨hb.1,hb.2.1,hb.2.2.2⟩,λhm=>hb.2.2.1<|hi _ hm⟩
def Off(S:Nat->Prop)(w0:World)(sm:List (Nat × Obj)):Prop:=∀b,S b->b<w0.heap.size/\b∉ids sm
theorem FR.repM(hF:FR w0 (ids sm) bs_ w)(hS:Off S w0 sm)(h:Rep S w0 d cs):Rep S w d cs:=h.same hF.same λb hb hs=>(hS b hs).2 hb
theorem FR.offM(hF:FR w0 (ids sm) bs_ w)(hS:Off S w0 sm)(hsp:Spl bs_ pre sm1 post:=by repeat (first|exact Spl.z|apply Spl.c|apply Spl.a)):Off S w sm1:=λb hb=>by
  rw[hsp.eq]at hF;obtain⟨h1,h2⟩:=hS b hb;refine⟨Nat.lt_of_lt_of_le h1 hF.same.size,λhm=>?_⟩;obtain⟨q,hq,rfl⟩:=nQ.1 hm;rcases (hF.segs_of q hq).2 with h3|h3
  ·omega
  grind
def Gh(hi:∀x∈ids sm,x∈i):Off (New w0 i w) w sm:=λb hb=>⟨hb.2.1,λhm=>hb.2.2.1<|hi _ hm⟩
def Off.or{S':Nat->Prop}(h:Off S w sm)(h':Off S' w sm):Off (λb=>S b\/S' b) w sm:=λb hb=>hb.elim (h b)<|h' b
end
end
end Go.Scarf
namespace Go.Scarf
open List renaming length->aL
open Go.RowKit Go.Proofs Go.Proofs.Tryz
set_option maxRecDepth 100000
section
variable {H:Type}{enc:TypeId × Value->H}{W:World}{base:Nat}{sp:Nat->Bool}{held:Bool}
open Go.ChangeShapes Go.WideShapes Go.ChangeAt Go.Lib Go.Shelf
end
section
variable {H:Type}{enc:TypeId × Value->H}{W:World}{base:Nat}{sp:Nat->Bool}{held:Bool}
instance : Inhabited Rl:=⟨⟨[],[]⟩⟩
def cs53:prog.cellsOf 53=2:=by kernel_rfl
theorem rule_of{fuel:Nat}{cs:List Value}{x:DataW H × List MemPlace}(h:DataW.trod enc prog W base sp held fuel 53 cs=some x):∃q:Rl,Rep (λ_=>True) W (QF q) cs:=by
  obtain⟨xs,n,rfl,-,hcl,hxl,hf⟩:=DataW.trod_struct underlying53 h;have hcl':aL cs=2:=hcl.trans cs53;have get:∀(i:Nat)(hi:i<2),xs[i]? = some (xs[i]'(by rw[hxl];exact hi)):=qK
  have h0:=(hf 0 _ rfl).trans (get 0 kX);have h1:=(hf 1 _ rfl).trans (get 1 kX);obtain⟨a,ha⟩:=X2 (g:=Ai) zZ cs9 (λn _ cs x h=>S8 h) h0;obtain⟨b,hb⟩:=S8 h1;have ha2:Rep (λ_=>True) W (.slice<|a.map Ai) ((cs.drop 0).take (prog.cellsOf 22)):=ha;have hb2:Rep (λ_=>True) W (Ai b) ((cs.drop 1).take (prog.cellsOf 9)):=hb;rw[show prog.cellsOf 22=1 by kernel_rfl]at ha2;rw[cs9]at hb2;obtain⟨u,v,rfl⟩:∃u v,cs=[u,v]:=by
    match cs,hcl' with
    | [u,v],_=>exact⟨u,v,rfl⟩
  have ha':Rep (λ_=>True) W (Ya a) [u]:=ha2;have hb':Rep (λ_=>True) W (Ai b) [v]:=hb2;refine⟨⟨a,b⟩,?_⟩;rw[QF,Rep,RepL];refine⟨[u],[v],O,ha',?_⟩;rw[RepL];exact⟨[v],[],O,hb',by rw[RepL]⟩
def ES{r:Reach}{b0:Nat}{v:Value}{d:DataW H}{q:List MemPlace}(hv:Value.okWide prog W r b0 26 v)(h:DataW.Trod enc prog W base sp held 26 v d q) :
    ∃(l:List Rl)(A:Option Addr)(c:Nat),v=.slice A (aL l) c/\Rep (λ_=>True) W (Co l) [.slice A (aL l) c] :=
  open_sl (g:=QF) underlying26 cs53 (λn cs x h=>rule_of h) hv h
def rec26:prog.readableRec 26=true:=by kernel_rfl
theorem row26:26<prog.types.size:=qB
end
end Go.Scarf
set_option synthInstance.maxHeartbeats 0
set_option synthInstance.maxSize 9999
namespace Go.Scarf
open List renaming length->aL
open Go.RowKit Go.Proofs Go.Proofs.Tryz
variable {x:Tree}{a b t:Str}{acc ks:List Str}{xs:List Tree}{e j m nk nx:Nat}{w':World}{S:Nat->Prop}{d:List Value}{A B:Option Addr}
def pretOk(x:Tree)(ind d:Int):Prop:=Ob x=true/\(0<=ind/\ind<=8)/\(0<=d/\d<=32)
instance (x:Tree) (ind d:Int):Decidable (pretOk x ind d):=by unfold pretOk;infer_instance
theorem D5(h:Ob x=true)(hm:Kb x<=1073741824)(m:Bool)(ind d:Nat)(hi:ind<=8)(hd:d<=32):aL (Hl m ind x d)<=140737488355328:=by
  have h1:=Bl h;have h2:=val_bound m ind (Kb x) 64 x d (gQ _) kX;have h3:Ka x<=4096:=open_size<|Gj h;have h4:ind*64<=8*64:=qK
  have h5:Ka x*(12*Kb x+40+2*(ind*64))<=4096*(12*1073741824+40+2*512):=Nat.mul_le_mul h3 kX;omega
theorem comp_c(x:Tree)(S:Nat->Prop)(w0:World)(cs:List Value)(rx:Rep S w0 (Ta x) cs)(hG:Gl w0)(hsz:Ka x<=1000000000)(hm:Kb x<=1073741824):Calls prog 198 #[.agg cs.toArray] w0 (Qb λv w'=>v=.tuple #[I (Ru x),J (AZ x)]/\Same [] w0 w'):=by
  refine Bk (PZ x S w0 cs rx hG (Ef x kX) (okQ_max x kX) hsz λh=>D5 h hm _ _ _ kX kX) λv w' ⟨h1,h2⟩=>⟨?_,h2⟩;grind [Ru,AZ]
theorem PX(x:Tree)(S:Nat->Prop)(w0:World)(cs:List Value)(rx:Rep S w0 (Ta x) cs)(hG:Gl w0)(hsz:Ka x<=1000000000)(hm:Kb x<=1073741824):Calls prog 168 #[.agg cs.toArray] w0 (Qb λv w'=>v=.tuple #[I (Ru (Ff x)),J (AZ (Ff x))]/\Same [] w0 w'):=by
 have hl:aL cs=4:=rx.length.trans<|Eb x;have ho:=rx.one_;refine Ga func168 ntmps168 ?_;intro hF;refine rn 2<|Oi (v:=.agg<|List.toArray cs) (cs:=(List.toArray cs)) hF O O ?_;rintro b1 w hb1 hF -;refine rn 6<|Ca (v:=.agg<|List.toArray cs) (Pa (l:=cs) oZ tZ O hl<|hF.cellsAll 0 O) ?_;refine Gc (JG x hsz _ _ cs (hF.rep rx) (Ef x kX)<|hG.ext hF.same) ?_;rintro _ w ⟨c1,rfl,hRt,hE⟩;have hlc1:aL c1=4:=hRt.length.trans<|Eb _;have hoc1:=hRt.one_;have hX1:=RX.made (ids:=[b1]) hF.same.size (λx hx=>hF.lt_ids qK) hRt;have hF:=hF.ext hE;clear hE hRt;refine Sa (comp_c (Ff x) _ _ c1 hX1.rep (hG.ext hF.same) (G6 x hsz)<|fQ (Zq x) hm) ?_;rintro w hF -;refine rn 7 ?_;exact⟨O,hF.same⟩
def nq(q:Bool)(c:UInt8):Bool:=if c=34 then !q else q
def WM(q:Bool)(c:UInt8)(l:Str):Str:=if nq q c=true\/(c≠32/\c≠10) then c::l else l
def Fs:Bool->Str->Str
  | _,[]=>[]
  | q,[c]=>WM q c []
  | q,c::d::r=>if q=true/\c=92 then c::d::Fs q r else WM q c (Fs (nq q c) (d::r))
def Bal(a b:Str):Prop:=∀r,Fs false (a++r)=b++Fs false r
def Inq(a:Str):Prop:=∀r,Fs true (a++r)=a++Fs true r
theorem OG{q:Bool}{c:UInt8}{r:Str}(h:¬(q=true/\c=92)):Fs q (c::r)=WM q c (Fs (nq q c) r):=by
  cases r with
  | nil=>rw[Fs,Fs]
  | cons d r=>grind [Fs]
def Bal.nil:Bal [] []:=λ_=>rfl
def Bal.app{a' b':Str}(h:Bal a a')(k:Bal b b'):Bal (a++b) (a'++b'):=λr=>by rw[sQ,h,k,sQ]
def Inq.nil:Inq []:=λ_=>rfl
def Inq.app(h:Inq a)(k:Inq b):Inq (a++b):=λr=>by rw[sQ,h,k,sQ]
theorem Bal.byte{c:UInt8}(h1:c≠34)(h2:c≠32)(h3:c≠10):Bal [c] [c]:=λr=>by
  grind [Fs,OG,WM,nq]
theorem Bal.bytes:∀{a:Str},(∀c∈a,c≠34/\c≠32/\c≠10)->Bal a a
  | [],_=>Bal.nil
  | c :: a, h => by
    have h1:=h c Da;exact (Bal.byte h1.1 h1.2.1 h1.2.2).app (Bal.bytes λd hd=>h d (by simp[hd]))
theorem Inq.byte{c:UInt8}(h1:c≠34)(h2:c≠92):Inq [c]:=λr=>by
  grind [Fs,OG,WM,nq]
theorem Inq.bytes:∀{a:Str},(∀c∈a,c≠34/\c≠92)->Inq a
  | [],_=>Inq.nil
  | c :: a, h => by
    have h1:=h c Da;exact (Inq.byte h1.1 h1.2).app (Inq.bytes λd hd=>h d (by simp[hd]))
def nl(s:Str):Nat:=s.count 10
theorem T5{k:Int}(h:Ob (.node k t ks xs)=true)(hx:x∈xs):Ob x=true:=by
  unfold Ob Ji at h ⊢;simp only[vQ,wQ]at h ⊢;have h1:=Kd hx;have h2:=Rf hx;grind [Ka,Cb,Yc]
theorem OR{k:Int}(h:Ob (.node k t ks xs)=true)(hk:k=6):aL ks=aL xs/\∀x∈ks,Lib.validD x=true:=by
  have h1:=(Yc<|U4 h).1;grind [nodeB,Aj]
def Tr(acc:List Str)(s:Str):List Str:=if s∈acc then acc else acc++[s]
def Ec(rows:List (List Str)):List Str:=rows.flatten.foldl Tr []
theorem addU_mem{s:Str}:t∈Tr acc s↔t∈acc\/t=s:=by grind [Tr]
theorem YS(h:acc.Nodup)(s:Str):(Tr acc s).Nodup:=by grind [Tr]
theorem F6:∀(l:List Str){acc:List Str},acc.Nodup->(l.foldl Tr acc).Nodup
  | [],_,h=>h
  | s::l,_,h=>F6 l<|YS h s
theorem Uo:∀(l:List Str){acc:List Str}{t:Str},t∈l.foldl Tr acc↔t∈acc\/t∈l
  | [],_,_=>by simp
  | s::l,_,_=>by rw[List.foldl_cons,Uo l,addU_mem,oQ,or_assoc]
theorem KG:∀(l:List Str)(acc:List Str),∃r,l.foldl Tr acc=acc++r/\aL r<=aL l
  | [],acc=>⟨[],Da⟩
  | s :: l, acc => by
    obtain⟨r,h,hr⟩:=KG l<|Tr acc s;by_cases hs:s∈acc
    ·have e : Tr acc s = acc := uQ hs
     rw[e]at h;exact⟨r,by rw[List.foldl_cons,e,h],by simp;omega⟩
    have e : Tr acc s = acc ++ [s] := tQ hs;rw[e]at h;exact⟨s::r,by rw[List.foldl_cons,e,h];simp,by simp;omega⟩
theorem Zc(rows:List (List Str)):(Ec rows).Nodup:=F6 _ List.nodup_nil
def idK(y:Tree):Bool:=decide (y.kind=4) || decide (y.kind=3)
def idB(x:Tree)(key:Str):Bool:=((Xi x key).2&&idK (Xi x key).1)&&decide (AZ (Ff (Xi x key).1)=0)
def UH(x:Tree)(key:Str):Str:=if ((Xi x key).2&&idK (Xi x key).1)=true then Ru (Ff (Xi x key).1) else []
def Nr(key:Str):List Tree->List Str->Option (List Str)
  | [],acc=>some acc
  | x::xs,acc=>if idB x key=true/\UH x key∉acc then Nr key xs (acc++[UH x key]) else none
def Fl(v:Tree)(key:Str):Option (List Str):=if Ob v=true/\v.kind=5 then Nr key v.items [] else none
def idsK_next{key:Str}(h:j<aL xs)(h1:idB xs[j] key=true)(h2:UH xs[j] key∉acc):Nr key (xs.drop j) acc=Nr key (xs.drop (j+1)) (acc++[UH xs[j] key]):=by rw[List.drop_eq_getElem_cons h,Nr,uQ ⟨h1,h2⟩]
def XF{key:Str}(h:j<aL xs)(hn:¬(idB xs[j] key=true/\UH xs[j] key∉acc)):Nr key (xs.drop j) acc=none:=by rw[List.drop_eq_getElem_cons h,Nr,tQ hn]
def idsK_end{key:Str}(h:¬j<aL xs):Nr key (xs.drop j) acc=some acc:=by rw[List.drop_eq_nil_of_le kX,Nr]
theorem ML{key:Str}:∀(xs:List Tree)(acc l:List Str),Nr key xs acc=some l->aL l=aL acc+aL xs
  | [],acc,l,h=>by rw[Nr]at h;cases h;simp
  | x :: xs, acc, l, h => by
    rw[Nr]at h;split at h
    ·have := ML xs _ l h
     simp at this ⊢;omega
    cases h
theorem Jq(h:Ob x=true):I6 x=x:=by grind [I6,Gj]
inductive Kin:Value->Value->Prop where
  | same (v:Value):Kin v v
  | int (n m:Int):-9223372036854775808<=m->m<=9223372036854775807->Kin (J n) (J m)
  | str (s t:ByteArray):t.size<=9223372036854775807->Kin (.string s) (.string t)
def Kin.trans{a b c:Value}(h:Kin a b)(k:Kin b c):Kin a c:=by
  cases h with
  | same=>exact k
  | int n m h1 h2 =>
    cases k with
    | same=>exact .int n m h1 h2
    | int _ q h3 h4=>exact .int n q h3 h4
  | str s t h1 =>
    cases k with
    | same=>exact .str s t h1
    | str _ q h3=>exact .str s q h3
inductive KinL:List Value->List Value->Prop where
  | nil:KinL [] []
  | cons {a b:Value} {l m:List Value}:Kin a b->KinL l m->KinL (a::l) (b::m)
theorem KinL.refl:∀l:List Value,KinL l l
  | []=>.nil
  | a::l=>.cons (.same a)<|KinL.refl l
theorem KinL.split:∀{c1 c2 d:List Value},KinL (c1++c2) d->∃d1 d2,d=d1++d2/\KinL c1 d1/\KinL c2 d2
  | [],c2,d,h=>⟨[],d,rfl,.nil,h⟩
  | a :: c1, c2, d, h => by
    cases h with
    | cons h1 h2 =>
      obtain⟨d1,d2,rfl,k1,k2⟩:=KinL.split h2;exact⟨_::d1,d2,O,.cons h1 k1,k2⟩
theorem KinL.of:∀{l m:List Value},aL l=aL m->(∀i (h:i<aL l) (h':i<aL m),Kin l[i] m[i])->KinL l m
  | [],[],_,_=>.nil
  | a::l,b::m,hl,h=>.cons (h 0 Da Da)<|KinL.of (aS hl) λi hi hi'=>h (i+1) (aS hi) (aS hi')
def Mold(w w':World):Prop:=∀a v,w.cell? a=some v->∃v',w'.cell? a=some v'/\Kin v v'
theorem Mold.refl(w:World):Mold w w:=λa v h=>⟨v,h,.same v⟩
def Mold.trans{a b c:World}(h:Mold a b)(k:Mold b c):Mold a c:=λx v hx=>by
  obtain⟨v1,h1,k1⟩:=h x v hx;obtain⟨v2,h2,k2⟩:=k x v1 h1;exact⟨v2,h2,k1.trans k2⟩
def Mold.same{w:World}(h:Same [] w w'):Mold w w':=λa v hc=>⟨v,((FR.start w []).ext h).cell0 hc,.same v⟩
theorem Mold.set{w:World}{a:Addr}{u v:Value}(hc:w.cell? a=some u)(hk:Kin u v):Mold w (w.setCell a v):=λb x hb=>by
  have key:∀c e f,w.heap[a.block]? = some (.cells c e f)->(w.setCell a v).heap[a.block]? = some (.cells (c.setIfInBounds a.off v) e f):=by
    intro c e f hh;have hs:a.spot.isSome=false:=by
      unfold World.cell? at hc;grind
    simp[World.setCell,Array.getElem?_modify,hh,hs]
  by_cases hbl:b.block=a.block
  ·unfold World.cell? at hb hc ⊢
   rw[hbl]at hb ⊢;cases hh:w.heap[a.block]? with
   | none =>
     rw[hh]at hb;cases hb
   | some o =>
     rw[hh]at hb hc;cases o with
     | cells c e f =>
       rw[key c e f hh];simp only at hb hc ⊢;split at hb
       ·cases hb
       rename_i hsp
       rw[tQ hsp];split at hc
       ·cases hc
       by_cases ho : b.off = a.off
       ·rw[ho]at hb ⊢
        have hx:x=u:=by rw[hc]at hb;exact (lQ hb).symm
        subst hx;have hlt:a.off<c.size:=by
          rcases Nat.lt_or_ge a.off c.size with h|h
          ·exact h
          rw[Array.getElem?_eq_none h]at hc;cases hc
        exact⟨v,by simp[hlt],hk⟩
       exact⟨x,by rw[Array.getElem?_setIfInBounds_ne λe=>ho e.symm];exact hb,.same x⟩
     | _=>cases hb
  refine⟨x, ?_, .same x⟩;rw[<-hb];exact World.cell?_of_block (w:=w)<|Below.heap_setCell _ _ _ _ hbl
theorem CellsAt.mold{w:World}{ad:Addr}{cs:List Value}(h:CellsAt S w ad cs)(hm:Mold w w'):∃cs',CellsAt S w' ad cs'/\KinL cs cs':=by
  have key:∀n,n<=aL cs->∃l:List Value,aL l=n/\∀i (hi:i<aL l),w'.cell? (ad.add i)=some l[i]/\∀h':i<aL cs,Kin cs[i] l[i]:=by
    intro n
    induction n with
    | zero=>simp_all
    | succ n ih =>
      intro hn;obtain⟨l,hl,h1⟩:=ih kX;obtain⟨v',h2,h3⟩:=hm _ _ (h n kX).1;refine⟨l++[v'],by simp[hl],λi hi=>?_⟩;grind
  obtain⟨l,hl,h1⟩:=key (aL cs)<|gQ _;refine⟨l,λi hi=>⟨(h1 i hi).1,(h i kX).2⟩,KinL.of hl.symm λi hi hi'=>(h1 i hi').2 hi⟩
theorem kin_int{n:Int}(h:KinL [J n] d)(hn:-9223372036854775808<=n/\n<=9223372036854775807):∃m:Int,d=[J m]/\-9223372036854775808<=m/\m<=9223372036854775807:=by
  cases h with
  | cons h1 h2 =>
    cases h2;cases h1 with
    | same=>grind
    | int _ m h3 h4=>grind
theorem PV{s:Str}(h:KinL [I s] d)(hs:aL s<=9223372036854775807):∃t:Str,d=[I t]/\aL t<=9223372036854775807:=by
  cases h with
  | cons h1 h2 =>
    cases h2;cases h1 with
    | same=>grind
    | str _ t h3 =>
      refine⟨t.data.toList,?_,by rw[Array.length_toList];exact h3⟩;grind
def IE{n c:Nat}(h:KinL [.slice A n c] d):d=[.slice A n c]:=by
  cases h with
  | cons h1 h2 =>
    cases h2;cases h1;rfl
theorem DE{S:Nat->Prop}{w w':World}:∀{ks:List Str}{cs cs':List Value},RepL S w (ks.map Ai) cs->KinL cs cs'->∃ks':List Str,aL ks'=aL ks/\RepL S w' (ks'.map Ai) cs'
  | [], cs, cs', h, k => by
    have:=RepL.nil_inv h;subst this;cases k;exact⟨[],O,RepL.nil_mk⟩
  | s :: ks, cs, cs', h, k => by
    obtain⟨c1,c2,rfl,h1,h2⟩:=RepL.cons_inv h;obtain⟨d1,d2,rfl,k1,k2⟩:=k.split;obtain⟨rfl,hs⟩:=Rep.str_inv h1;obtain⟨t,rfl,ht⟩:=PV k1 hs;obtain⟨ks',hl,hr⟩:=DE h2 k2;exact⟨t::ks',by simp[hl],RepL.cons_mk (Rep.lit_mk (v:=I t) ht) hr⟩
def TE{w:World}{n c:Nat}(h:Rep S w (Ya ks) [.slice A n c])(hm:Mold w w'):∃ks':List Str,aL ks'=aL ks/\Rep S w' (Ya ks') [.slice A n c]:=by
  have hl:=h.slice_len;obtain⟨A',c',hA,h1,h2,h3⟩:=Rep.slice_inv h;simp only[List.cons.injEq,Value.slice.injEq,and_true]at hA;obtain⟨rfl,_,rfl⟩:=hA;by_cases hne:ks=[]
  ·subst hne
   exact⟨[],O,Rep.slice_mk (aS hl.1) hl.2.1 hl.2.2 λh=>absurd O h⟩
  obtain⟨ad, rfl, es, hc, hr⟩ := h3 (aS hne);obtain⟨es',hc',hk⟩:=hc.mold hm;obtain⟨ks',hl',hr'⟩:=DE hr hk;exact⟨ks',hl',Rep.slice_mk (by rw[hl.1];simp[hl']) hl.2.1 hl.2.2 λ_=>⟨ad,O,es',hc',hr'⟩⟩
def BZ(x:Tree):Prop:=∀(S:Nat->Prop)(w w':World)(cs cs':List Value),Rep S w (Ta x) cs->Mold w w'->KinL cs cs'->∃x',Ka x'=Ka x/\Rep S w' (Ta x') cs'
theorem E9{S:Nat->Prop}{w w':World}(hm:Mold w w'):∀{xs:List Tree}{cs cs':List Value},(∀x∈xs,BZ x)->RepL S w (Rb xs) cs->KinL cs cs'->∃xs':List Tree,aL xs'=aL xs/\Qa xs'=Qa xs/\RepL S w' (Rb xs') cs'
  | [], cs, cs', _, h, k => by
    have:=RepL.nil_inv h;subst this;cases k;exact⟨[],O,O,RepL.nil_mk⟩
  | x :: xs, cs, cs', hx, h, k => by
    obtain⟨c1,c2,rfl,h1,h2⟩:=RepL.cons_inv h;obtain⟨d1,d2,rfl,k1,k2⟩:=k.split;obtain⟨x',e1,r1⟩:=hx x Da S w w' c1 d1 h1 hm k1;obtain⟨xs',hl,e2,r2⟩:=E9 hm (λy hy=>hx y zV) h2 k2;exact⟨x'::xs',by simp[hl],by rw[Qa,Qa,e1,e2],RepL.cons_mk r1 r2⟩
def UA{w:World}{n c:Nat}(hx:∀x∈xs,BZ x)(h:Rep S w (.slice (Rb xs)) [.slice A n c])(hm:Mold w w'):∃xs':List Tree,aL xs'=aL xs/\Qa xs'=Qa xs/\Rep S w' (.slice (Rb xs')) [.slice A n c]:=by
  have hl:=h.slice_len;obtain⟨A',c',hA,h1,h2,h3⟩:=Rep.slice_inv h;simp only[List.cons.injEq,Value.slice.injEq,and_true]at hA;obtain⟨rfl,_,rfl⟩:=hA;by_cases hne:xs=[]
  ·subst hne
   exact⟨[],O,O,Rep.slice_mk (aS hl.1) hl.2.1 hl.2.2 λh=>absurd O h⟩
  obtain⟨ad, rfl, es, hc, hr⟩ := h3 (λe => hne (List.eq_nil_of_length_eq_zero (by rw[<- Ii, e];rfl)));obtain⟨es',hc',hk⟩:=hc.mold hm;obtain⟨xs',hl',e',hr'⟩:=E9 hm hx hr hk;exact⟨xs',hl',e',Rep.slice_mk (by rw[hl.1];simp[hl']) hl.2.1 hl.2.2 λ_=>⟨ad,O,es',hc',hr'⟩⟩
def moldT(x:Tree):BZ x:=Tree.ind (Q:=BZ) (λk t ks xs ih S w w' cs cs' hR hm hk=>by
  obtain⟨A,c,B,e,rfl,h1,h2,hK,hX⟩:=hR.tree_inv;obtain⟨d1,d',rfl,k1,hk⟩:=KinL.split (c1:=[_]) hk;obtain⟨d2,d',rfl,k2,hk⟩:=KinL.split (c1:=[_]) hk;obtain⟨d3,d4,rfl,k3,k4⟩:=KinL.split (c1:=[_]) hk;obtain⟨m,rfl,hm1,hm2⟩:=kin_int k1 h1;obtain⟨u,rfl,hu⟩:=PV k2 h2;obtain rfl:=IE k3;obtain rfl:=IE k4;obtain⟨ks',-,hK'⟩:=TE hK hm;obtain⟨xs',hl',e',hX'⟩:=UA ih hX hm;exact⟨.node m u ks' xs',by rw[Ka,Ka,e'],Rep.tree_mk ⟨hm1,hm2⟩ hu hK' hX'⟩) x
noncomputable def Sb (S:Nat->Prop) (w:World):List Nat:=by classical exact (List.range w.heap.size).filter λb=>decide (S b)
def mem_Sb{w:World}{b:Nat}:b∈Sb S w↔b<w.heap.size/\S b:=by simp[Sb]
structure Over (S:Nat->Prop) (w w':World):Prop where
  same:Same (Sb S w) w w'
  mold:Mold w w'
  soft:∀b,JI w b->JI w' b
theorem Over.refl(S:Nat->Prop)(w:World):Over S w w:=⟨.refl _ _,.refl _,λ_ h=>h⟩
def Over.next{w0 w:World}{b:Nat}(h:Over S w0 w)(hs:Same [b] w w')(hb:b∈Sb S w0)(hm:Mold w w')(ho:∀x,JI w x->JI w' x):Over S w0 w' :=
  ⟨h.same.trans (hs.mono λx hx _=>by obtain rfl:=pQ.1 hx;exact hb),h.mold.trans hm,λx hx=>ho x<|h.soft x hx⟩
def Over.trans{w0 w:World}(hS:∀b,S b->b<w0.heap.size)(h:Over S w0 w)(k:Over S w w'):Over S w0 w' :=
  ⟨h.same.trans (k.same.mono λx hx _=>by have:=(mem_Sb.1 hx).2;exact mem_Sb.2 ⟨hS x this,this⟩),h.mold.trans k.mold,λx hx=>k.soft x<|h.soft x hx⟩
def TreeAt(S:Nat->Prop)(w:World)(A:Option Addr)(nk c:Nat)(B:Option Addr)(nx e m:Nat):Prop :=
  ∃(ks:List Str)(xs:List Tree),aL ks=nk/\aL xs=nx/\Qa xs=m/\Rep S w (Ya ks) [.slice A nk c]/\Rep S w (.slice (Rb xs)) [.slice B nx e]
def TreeAt.mold{w:World}{c:Nat}(h:TreeAt S w A nk c B nx e m)(hm:Mold w w'):TreeAt S w' A nk c B nx e m:=by
  obtain⟨ks,xs,h1,h2,h3,hK,hX⟩:=h;obtain⟨ks',l1,r1⟩:=TE hK hm;obtain⟨xs',l2,e2,r2⟩:=UA (λx _=>moldT x) hX hm;exact⟨ks',xs',l1.trans h1,l2.trans h2,e2.trans h3,r1,r2⟩
theorem TreeAt.key{w:World}{c:Nat}(h:TreeAt S w A nk c B nx e m){i:Nat}(hi:i<nk):∃ad s,A=some ad/\w.cell? (ad.add (i*1))=some (.string s)/\S (ad.add (i*1)).block:=by
  obtain⟨ks,xs,h1,h2,h3,hK,hX⟩:=h;have hne:ks≠[]:=qK
  obtain⟨A',c',hA,_,_,h4⟩:=Rep.slice_inv hK;simp only[List.cons.injEq,Value.slice.injEq,and_true]at hA;obtain⟨rfl,_,rfl⟩:=hA;obtain⟨ad,rfl,es,hc,hr⟩:=h4 (aS hne);obtain⟨ad',hA',hcell,-⟩:=hK.str_elem (i:=i) kX;obtain rfl:=lQ hA';have hlen:aL es=aL ks:=by
    have:=hr.length;have e:∀l:List Str,Rc.sizeL (l.map Ai)=aL l:=by
      intro l
      induction l with
      | nil=>rfl
      | cons a l ih =>
        rw[jZ,Rc.sizeL,ih,kQ];simp[Ai,Rc];omega
    rw[e]at this;exact this
  exact⟨ad,_,O,hcell,by rw[Yh];exact (hc 0 kX).2⟩
def TreeAt.item{w:World}{c:Nat}(h:TreeAt S w A nk c B nx e m)(hj:j<nx) :
    ∃ad cs x,B=some ad/\aL cs=4/\(∀q (hq:q<aL cs),w.cell? ((ad.add (j*4)).add q)=some cs[q])/\Rep S w (Ta x) cs/\Ka x<=m/\S (ad.add (j*4)).block/\∃n:Int,w.cell? ((ad.add (j*4)).add 0)=some (J n):=by
  obtain⟨ks,xs,h1,h2,h3,hK,hX⟩:=h;obtain⟨ad,cs,rfl,hl,hc,hr⟩:=hX.tree_elem (i:=j) kX;have hjx:j<aL xs:=by_Om
  obtain⟨A',c',hA,_,_,h4⟩:=Rep.slice_inv hX;simp only[List.cons.injEq,Value.slice.injEq,and_true]at hA;obtain⟨rfl,_,rfl⟩:=hA;obtain⟨ad',hA',es,hce,hre⟩:=h4 (λhz=>by have h0:aL (Rb xs)=0:=(by rw[hz];rfl);rw[Ii]at h0;omega);obtain rfl:=lQ hA';have hpos:0<aL es:=by
    rcases Nat.eq_zero_or_pos (aL es) with h|h
    ·have : es = [] := List.eq_nil_of_length_eq_zero h
     subst this;have h5:=hre.get (sz:=4) (λd hd=>by rw[Pc]at hd;obtain⟨k,_,rfl⟩:=nQ.1 hd;exact Eb k) j (aS hjx);have:=h5.2;simp at this
    exact h
  refine⟨ad,cs,xs[j],O,hl,hc,hr,by rw[<-h3];exact Kd<|eQ hjx,by rw[Yh];exact (hce 0 hpos).2,?_⟩;have h0:=hc 0 kX;generalize hx:xs[j]=x at hr;obtain⟨k,t,ks',ys⟩:=x;obtain⟨_,_,_,_,rfl,_⟩:=hr.tree_inv;exact⟨k,h0⟩
section
variable {P:Program}{R:Exit->Act->World->Prop}{n:Nat}{k:Kt}{s:Nat->Value}{w w0:World}{ops rest:List Oper}{Ds:List Nat}{bs_:List (Nat × Obj)}
variable {ty:TypeId}{pos:String}{aft:Array Edge}{g:Option (Nat × Bool)}
end
end Go.Scarf
namespace Go.Scarf
open List renaming length->aL
open Go.RowKit Go.Proofs Go.Proofs.Tryz
variable {b0 b1 b2 b3 i j m:Nat}{b k v v3:Int}{Z:Str}
def Cm(c:Int):Int:=if c<128 then 1 else if 194<=c/\c<=223 then 2 else if 224<=c/\c<=239 then 3 else if 240<=c/\c<=244 then 4 else 0
theorem wideZ_rng(c:Int):Cm c=0\/Cm c=1\/Cm c=2\/Cm c=3\/Cm c=4:=by grind [Cm]
def bZ(s:Str)(p:Nat):Int:=(((bs s).get! p).toNat:Int)
theorem Pi{s:Str}{p:Nat}(h:p<aL s):((s[p].toNat:Nat):Int)=bZ s p:=by
  have h':p<aL (bs s).data.toList:=h;unfold bZ;have:(bs s).get! p=s[p]:=by
    show (bs s).data[p]! = s[p];grind
  rw[this]
def Vg(s:Str)(p:Nat):0<=bZ s p/\bZ s p<256:=by
  unfold bZ;have:=UInt8.toNat_lt<|(bs s).get! p;omega
def VB(s:Str)(p:Nat):Utf8.decode (bs s) p=Lib.decodeN (aL s-p) (bZ s p).toNat (bZ s (p+1)).toNat (bZ s (p+2)).toNat (bZ s (p+3)).toNat:=by
  rw[Lib.decode_at];rfl
theorem next_v{s:Str}{p:Nat}(h1:1<=i)(h4:i<4)
    (hv:(i=1->v=v3)/\(i=2->v=64*v3+bZ s (p+1)-128)/\(i=3->v=64*(64*v3+bZ s (p+1)-128)+bZ s (p+2)-128)/\(i=4->v=64*(64*(64*v3+bZ s (p+1)-128)+bZ s (p+2)-128)+bZ s (p+3)-128)) :
    (i+1=1->64*v+bZ s (p+i)-128=v3)/\(i+1=2->64*v+bZ s (p+i)-128=64*v3+bZ s (p+1)-128)/\(i+1=3->64*v+bZ s (p+i)-128=64*(64*v3+bZ s (p+1)-128)+bZ s (p+2)-128)/\(i+1=4->64*v+bZ s (p+i)-128=64*(64*(64*v3+bZ s (p+1)-128)+bZ s (p+2)-128)+bZ s (p+3)-128):=qK
theorem next_c_{s:Str}{p:Nat}(h1:1<=i)(h4:i<4)(hc:128<=bZ s (p+i)/\bZ s (p+i)<=191)
    (hcb:(2<=i->128<=bZ s (p+1)/\bZ s (p+1)<=191)/\(3<=i->128<=bZ s (p+2)/\bZ s (p+2)<=191)/\(4<=i->128<=bZ s (p+3)/\bZ s (p+3)<=191)) :
    (2<=i+1->128<=bZ s (p+1)/\bZ s (p+1)<=191)/\(3<=i+1->128<=bZ s (p+2)/\bZ s (p+2)<=191)/\(4<=i+1->128<=bZ s (p+3)/\bZ s (p+3)<=191):=qK
theorem next_b{s:Str}{p:Nat}(h1:1<=i)(h4:i<=4)(h0:0<=v3/\v3<=255)
    (hv:(i=1->v=v3)/\(i=2->v=64*v3+bZ s (p+1)-128)/\(i=3->v=64*(64*v3+bZ s (p+1)-128)+bZ s (p+2)-128)/\(i=4->v=64*(64*(64*v3+bZ s (p+1)-128)+bZ s (p+2)-128)+bZ s (p+3)-128))
    (hcb:(2<=i->128<=bZ s (p+1)/\bZ s (p+1)<=191)/\(3<=i->128<=bZ s (p+2)/\bZ s (p+2)<=191)/\(4<=i->128<=bZ s (p+3)/\bZ s (p+3)<=191))
    (r1:0<=bZ s (p+1)/\bZ s (p+1)<256) (r2:0<=bZ s (p+2)/\bZ s (p+2)<256) (r3:0<=bZ s (p+3)/\bZ s (p+3)<256):0<=v/\v<100000000:=qK
def LD{a:Int}{d:Nat × Nat}(h1:a=(d.1:Int))(h2:b=(d.2:Int)):Value.tuple #[.int .i32 a,J b]=.tuple #[.int .i32 (d.1:Int),J (d.2:Int)]:=by rw[h1,h2]
theorem decN_0(h:(128<=b0/\b0<194)\/(245<=b0/\b0<256)):Lib.decodeN m b0 b1 b2 b3=(65533,1):=by
  unfold Lib.decodeN;grind
theorem decN_1(h:b0<128):Lib.decodeN m b0 b1 b2 b3=(b0,1):=by
  unfold Lib.decodeN;grind
theorem MR(h:194<=b0/\b0<224)(h1:b1<256):Lib.decodeN m b0 b1 b2 b3=if 1<m/\(128<=b1/\b1<=191) then (64*(b0-192)+(b1-128),2) else (65533,1):=by
  unfold Lib.decodeN;grind
theorem BS(h:224<=b0/\b0<240)(h1:b1<256)(h2:b2<256):Lib.decodeN m b0 b1 b2 b3=if 2<m/\(128<=b1/\b1<=191)/\(128<=b2/\b2<=191) then
    (if 64*(64*(b0-224)+(b1-128))+(b2-128)<2048\/(55296<=64*(64*(b0-224)+(b1-128))+(b2-128)/\64*(64*(b0-224)+(b1-128))+(b2-128)<57344) then (65533,1) else (64*(64*(b0-224)+(b1-128))+(b2-128),3)) else (65533,1):=by
  unfold Lib.decodeN;grind
theorem NV(h:240<=b0/\b0<245)(h1:b1<256)(h2:b2<256)(h3:b3<256):Lib.decodeN m b0 b1 b2 b3=if 3<m/\(128<=b1/\b1<=191)/\(128<=b2/\b2<=191)/\(128<=b3/\b3<=191) then
    (if 64*(64*(64*(b0-240)+(b1-128))+(b2-128))+(b3-128)<65536\/1114111<64*(64*(64*(b0-240)+(b1-128))+(b2-128))+(b3-128) then (65533,1) else (64*(64*(64*(b0-240)+(b1-128))+(b2-128))+(b3-128),4)) else (65533,1):=by
  unfold Lib.decodeN;grind
theorem M0{n:Nat}(hb:0<=b/\b<256)(h:Cm b=(n:Int)):(n=0/\((128<=b/\b<194)\/(245<=b/\b<256)))\/(n=1/\b<128)\/(n=2/\194<=b/\b<224)\/(n=3/\224<=b/\b<240)\/(n=4/\240<=b/\b<245):=by grind [Cm]
def V0(n:Nat)(b:Int):Int:=if n=2 then b-192 else if n=3 then b-224 else if n=4 then b-240 else b
def U8{s:Str}{p n:Nat}(hp:p<aL s)(hw:Cm (bZ s p)=(n:Int))(h:n=0\/(aL s:Int)-p<n):Utf8.decode (bs s) p=(65533,1):=by
  have h0:=Vg s p;have h1:=Vg s<|p+1;have h2:=Vg s<|p+2;have h3:=Vg s<|p+3;rw[VB];rcases M0 h0 hw with ⟨hn,hb⟩|⟨hn,hb⟩|⟨hn,hb⟩|⟨hn,hb⟩|⟨hn,hb⟩
  ·exact decN_0 kX
  ·omega
  ·rw[MR kX kX,tQ kX]
  ·rw[BS kX kX kX,tQ kX]
  rw[NV kX kX kX kX,tQ kX]
def ZD{s:Str}{p n:Nat}(hw:Cm (bZ s p)=(n:Int))(h1i:1<=i)(hi:i<n)(hc:bZ s (p+i)<128\/191<bZ s (p+i)):Utf8.decode (bs s) p=(65533,1):=by
  have h0:=Vg s p;have h1:=Vg s<|p+1;have h2:=Vg s<|p+2;have h3:=Vg s<|p+3;rw[VB];rcases M0 h0 hw with ⟨hn,hb⟩|⟨hn,hb⟩|⟨hn,hb⟩|⟨hn,hb⟩|⟨hn,hb⟩
  ·omega
  ·omega
  ·obtain rfl : i = 1 := by omega
   rw[MR kX kX,tQ kX]
  ·rw[BS kX kX kX, tQ]
   rintro⟨-,a,b⟩;obtain rfl|rfl:i=1\/i=2:=by_Om
   ·omega
   omega
  rw[NV kX kX kX kX, tQ];rintro⟨-,a,b,c⟩;obtain rfl|rfl|rfl:i=1\/i=2\/i=3:=by_Om
  ·omega
  ·omega
  omega
def OA{s:Str}{p n:Nat}(hw:Cm (bZ s p)=(n:Int))(hn0:¬n=0)(hm:(n:Int)<=(aL s:Int)-p)(hin:n<=i)(hi1:1<=i/\(i<=n\/i=1))(hv0:v3=V0 n (bZ s p))
    (hv:(i=1->v=v3)/\(i=2->v=64*v3+bZ s (p+1)-128)/\(i=3->v=64*(64*v3+bZ s (p+1)-128)+bZ s (p+2)-128)/\(i=4->v=64*(64*(64*v3+bZ s (p+1)-128)+bZ s (p+2)-128)+bZ s (p+3)-128))
    (hcb:(2<=i->128<=bZ s (p+1)/\bZ s (p+1)<=191)/\(3<=i->128<=bZ s (p+2)/\bZ s (p+2)<=191)/\(4<=i->128<=bZ s (p+3)/\bZ s (p+3)<=191)) :
    0<=v/\v<2147483648/\Utf8.decode (bs s) p=if (n=3/\v<2048)\/(n=4/\v<65536)\/1114111<v\/(55296<=v/\v<57344) then (65533,1) else (v.toNat,n):=by
  have h0:=Vg s p;have h1:=Vg s<|p+1;have h2:=Vg s<|p+2;have h3:=Vg s<|p+3;rw[VB];rcases M0 h0 hw with ⟨hn,hb⟩|⟨hn,hb⟩|⟨hn,hb⟩|⟨hn,hb⟩|⟨hn,hb⟩
  ·exact absurd hn hn0
  ·subst hn
   obtain rfl:i=1:=by_Om
   have e:=hv.1 rfl;have e0:v3=bZ s p:=hv0;clear hv hcb hv0;refine⟨by_Om,by_Om,?_⟩;rw[decN_1 kX,tQ kX];exact Prod.ext (by show _=v.toNat;omega) O
  ·subst hn
   obtain rfl:i=2:=by_Om
   have e:=hv.2.1 rfl;have c1:=hcb.1 kX;have e0:v3=bZ s p-192:=hv0;clear hv hcb hv0;refine⟨by_Om,by_Om,?_⟩;rw[MR kX kX,uQ kX,tQ kX];exact Prod.ext (by show _=v.toNat;simp only;omega) O
  ·subst hn
   obtain rfl:i=3:=by_Om
   have e:=hv.2.2.1 rfl;have c1:=hcb.1 kX;have c2:=hcb.2.1 kX;have e0:v3=bZ s p-224:=hv0;clear hv hcb hv0;refine⟨by_Om,by_Om,?_⟩;rw[BS kX kX kX,uQ kX];have ev:64*(64*((bZ s p).toNat-224)+((bZ s<|p+1).toNat-128))+((bZ s<|p+2).toNat-128)=v.toNat:=by_Om
   rw[ev];by_cases hx:(3=3/\v<2048)\/(3=4/\v<65536)\/1114111<v\/(55296<=v/\v<57344)
   ·rw[uQ hx,uQ kX]
   rw[tQ hx,tQ kX]
  subst hn;obtain rfl:i=4:=by_Om
  have e:=hv.2.2.2 rfl;have c1:=hcb.1 kX;have c2:=hcb.2.1 kX;have c3:=hcb.2.2 kX;have e0:v3=bZ s p-240:=hv0;clear hv hcb hv0;refine⟨by_Om,by_Om,?_⟩;rw[NV kX kX kX kX,uQ kX];have ev:64*(64*(64*((bZ s p).toNat-240)+((bZ s<|p+1).toNat-128))+((bZ s<|p+2).toNat-128))+((bZ s<|p+3).toNat-128)=v.toNat:=by_Om
  rw[ev];by_cases hx:(4=3/\v<2048)\/(4=4/\v<65536)\/1114111<v\/(55296<=v/\v<57344)
  ·rw[uQ hx,uQ kX]
  rw[tQ hx,tQ kX]
def wide_c(c:Int)(w0:World):Calls prog 249 #[J c] w0 (Qb λv w'=>v=J (Cm c)/\Same [] w0 w'):=by
  refine Ga func249 ntmps249 ?_;intro hF;refine rn 13 ⟨λhc0=>?_,λhc0=>?_⟩
  ·
   refine rn 6 ⟨xQ (Value.int .i64) ?_,hF.same⟩;unfold Cm
   (repeat' split) <;> omega
  refine rn 4<|Sc (λσ w=>∃(bd:Bool),(bd=decide (194<=c/\c<=223))/\AllEq σ [(0,J c),(10,.bool bd)]/\FR w0 [] [] w) ?_ ?_
  ·
   refine rn 5 ⟨λhg0=>?_,λhg0=>?_⟩
   ·
    refine rn 4 ?_;exact Ja ⟨decide ((c:Int)<=(223:Int)),qJ,Ib,hF⟩
   refine rn 4 ?_;exact Ja ⟨false,qJ,Ib,hF⟩
  rintro σ w ⟨bd,hbd,hzz,hF⟩;refine Kq hzz 2 ⟨λhc1=>?_,λhc1=>?_⟩
  ·
   have hd1:=kZ<|hbd.symm.trans hc1;refine rn 6 ⟨xQ (Value.int .i64) ?_,hF.same⟩;unfold Cm
   (repeat' split) <;> omega
  have hd1:=of_decide_eq_false<|hbd.symm.trans hc1;refine rn 4<|Sc (λσ w=>∃(bd:Bool),(bd=decide (224<=c/\c<=239))/\AllEq σ [(0,J c),(16,.bool bd)]/\FR w0 [] [] w) ?_ ?_
  ·
   refine rn 5 ⟨λhg1=>?_,λhg1=>?_⟩
   ·
    refine rn 4 ?_;exact Ja ⟨decide ((c:Int)<=(239:Int)),qJ,Ib,hF⟩
   refine rn 4 ?_;exact Ja ⟨false,qJ,Ib,hF⟩
  rintro σ w ⟨bd,hbd,hzz,hF⟩;refine Kq hzz 2 ⟨λhc2=>?_,λhc2=>?_⟩
  ·
   have hd2:=kZ<|hbd.symm.trans hc2;refine rn 6 ⟨xQ (Value.int .i64) ?_,hF.same⟩;unfold Cm
   (repeat' split) <;> omega
  have hd2:=of_decide_eq_false<|hbd.symm.trans hc2;refine rn 4<|Sc (λσ w=>∃(bd:Bool),(bd=decide (240<=c/\c<=244))/\AllEq σ [(22,.bool bd)]/\FR w0 [] [] w) ?_ ?_
  ·
   refine rn 5 ⟨λhg2=>?_,λhg2=>?_⟩
   ·
    refine rn 4 ?_;exact Ja ⟨decide ((c:Int)<=(244:Int)),qJ,Ib,hF⟩
   refine rn 4 ?_;exact Ja ⟨false,qJ,Ib,hF⟩
  rintro σ w ⟨bd,hbd,hzz,hF⟩;refine Kq hzz 2 ⟨λhc3=>?_,λhc3=>?_⟩
  ·
   have hd3:=kZ<|hbd.symm.trans hc3;refine rn 6 ⟨xQ (Value.int .i64) ?_,hF.same⟩;unfold Cm
   (repeat' split) <;> omega
  have hd3:=of_decide_eq_false<|hbd.symm.trans hc3;refine rn 8 ⟨xQ (Value.int .i64) ?_,hF.same⟩;unfold Cm
  (repeat' split) <;> omega
def next_c(s:Str)(p:Nat)(hp:p<aL s)(hl:aL s<=140737488355328)(w0:World):Calls prog 212 #[I s,J (p:Int)] w0 (Qb λv w'=>v=.tuple #[.int .i32 ((Utf8.decode (bs s) p).1:Int),J ((Utf8.decode (bs s) p).2:Int)]/\Same [] w0 w'):=by
 obtain⟨n,hw,hn4⟩:∃n:Nat,Cm (bZ s p)=(n:Int)/\n<=4:=by rcases wideZ_rng (bZ s p)with h|h|h|h|h;exact⟨0,h,by_Om⟩;exact⟨1,h,by_Om⟩;exact⟨2,h,by_Om⟩;exact⟨3,h,by_Om⟩;exact⟨4,h,by_Om⟩
 have hb0:=Vg s p;have hb1:=Vg s<|p+1;have hb2:=Vg s<|p+2;have hb3:=Vg s<|p+3;refine Ga func212 ntmps212 ?_;intro hF;refine rn 10<|Ca (v:=.bool false) (Ed (CO O O) kX) ?_;refine rn 4<|Ca (v:=.bool false) (Ed (MK O O) kX) ?_;refine rn 10 ?_;refine Ca (v:=.int .u8<|bZ s p) (by rw[<-Pi hp];exact Ud p gX O O hp) ?_;refine Ca (v:=J<|bZ s p) (Yd cX bX O<|Of kX kX)<|Gc (wide_c (bZ s p) _) ?_;rintro _ w ⟨rfl,hE⟩;rw[hw];have hF:=hF.ext hE;refine rn 10 ⟨λhg0=>?_,λhg0=>?_⟩;refine rn 17 ?_;exact⟨by rw[U8 hp hw<|.inl kX];rfl,hF.same⟩;refine rn 4<|Kc Fp ?_;refine rn 5 ⟨λhc1=>?_,λhc1=>?_⟩;refine rn 7 ?_;exact⟨by rw[U8 hp hw<|.inr kX];rfl,hF.same⟩;refine rn 6 ?_;refine Ca (v:=.int .u8<|bZ s p) (by rw[<-Pi hp];exact Ud p gX O O hp) ?_;refine Ca (v:=J<|bZ s p) (Yd cX bX O<|Of kX kX)<|rn 4 ?_;refine Sc (λσ w=>∃(v1:Int),(v1=if n=2 then bZ s p-192 else bZ s p)/\AllEq σ [(0,I s),(1,J<|(p:Int)),(6,J<|(n:Int)),(7,J v1)]/\FR w0 [] [] w) ?_ ?_;refine rn 7 ⟨λhc2=>?_,λhc2=>?_⟩;refine rn 2<|Kc Fp ?_;refine rn 2 ?_;exact Ja ⟨(bZ s p:Int)-192,jM,Ib,hF⟩;refine rn 1 ?_;exact Ja ⟨bZ s p,jM,Ib,hF⟩;rintro σ w ⟨v1,hv1,hzz,hF⟩;refine Kq hzz 2<|Sc (λσ w=>∃(v2:Int),(v2=if n=3 then v1-224 else v1)/\AllEq σ [(0,I s),(1,J<|(p:Int)),(6,J<|(n:Int)),(7,J v2)]/\FR w0 [] [] w) ?_ ?_;refine rn 7 ⟨λhc3=>?_,λhc3=>?_⟩;refine rn 2<|Kc Fp ?_;refine rn 2 ?_;exact Ja ⟨(v1:Int)-224,jM,Ib,hF⟩;refine rn 1 ?_;exact Ja ⟨v1,jM,Ib,hF⟩;rintro σ w ⟨v2,hv2,hzz,hF⟩;refine Kq hzz 2<|Sc (λσ w=>∃(v3:Int),(v3=if n=4 then v2-240 else v2)/\AllEq σ [(0,I s),(1,J<|(p:Int)),(6,J<|(n:Int)),(7,J v3)]/\FR w0 [] [] w) ?_ ?_
 refine rn 7 ⟨λhc4=>?_,λhc4=>?_⟩;refine rn 2<|Kc Fp ?_;refine rn 2 ?_;exact Ja ⟨(v2:Int)-240,jM,Ib,hF⟩;refine rn 1 ?_;exact Ja ⟨v2,jM,Ib,hF⟩;rintro σ w ⟨v3,hv3,hzz,hF⟩;refine Kq hzz 8 ?_;have hv0:v3=V0 n (bZ s p):=by rw[hv3,hv2,hv1];unfold V0;(repeat' split) <;> omega
 have hv00:0<=v3/\v3<=255:=by rw[hv0];unfold V0;rcases M0 hb0 hw with ⟨hn,hb⟩|⟨hn,hb⟩|⟨hn,hb⟩|⟨hn,hb⟩|⟨hn,hb⟩ <;> subst hn <;> simp <;> omega
 have hm:(n:Int)<=(aL s:Int)-p:=by_Om
 have hn0:¬n=0:=by_Om
 refine Wa (λμ σ w=>∃(i:Nat),∃(v:Int),μ=n+1-i/\(1<=i/\(i<=n\/i=1))/\((i=1->v=v3)/\(i=2->v=64*v3+bZ s (p+1)-128)/\(i=3->v=64*(64*v3+bZ s (p+1)-128)+bZ s (p+2)-128)/\(i=4->v=64*(64*(64*v3+bZ s (p+1)-128)+bZ s (p+2)-128)+bZ s (p+3)-128))/\((2<=i->128<=bZ s (p+1)/\bZ s (p+1)<=191)/\(3<=i->128<=bZ s (p+2)/\bZ s (p+2)<=191)/\(4<=i->128<=bZ s (p+3)/\bZ s (p+3)<=191))/\AllEq σ [(0,I s),(1,J<|(p:Int)),(6,J<|(n:Int)),(7,J v),(8,J<|(i:Int))]/\FR w0 [] [] w) _ ⟨1,v3,O,kX,kX,kX,Ib,hF⟩ ?_;rintro μ σ w ⟨i,v,rfl,hi1,hv,hcb,hzz,hF⟩;have hvb:=next_b hi1.1 (by omega:i<=4) hv00 hv hcb (Vg s<|p+1) (Vg s<|p+2)<|Vg s<|p+3;refine Tf hzz 9 ⟨λhc5=>?_,λhc5=>?_⟩;have hbi:=Vg s<|p+i;refine rn 9<|Kc (Ce<|((p+i:Nat):Int)) ?_;refine Ca (v:=.int .u8<|bZ s<|p+i) (by rw[<-Pi (show p+i<aL s by omega)];exact Ud (p+i) gX O O kX) ?_;refine Ca (v:=J<|bZ s<|p+i) (Yd cX bX O<|Of kX kX)<|rn 10 ⟨λhg1=>?_,λhg1=>?_⟩;refine rn 13 ?_;exact⟨by rw[ZD hw hi1.1 kX<|.inl kX];rfl,hF.same⟩;refine rn 6 ⟨λhc6=>?_,λhc6=>?_⟩;refine rn 7 ?_;exact⟨by rw[ZD hw hi1.1 kX<|.inr kX];rfl,hF.same⟩;refine rn 4<|Ca (v:=J<|64*v) (Zx O O<|Of kX kX) ?_;refine rn 1<|Kc Ui<|Kc Fp ?_;refine rn 6<|Kc (Ce<|((i+1:Nat):Int)) ?_;refine rn 2<|Ja ⟨_,?_,i+1,64*v+bZ s (p+i)-128,O,kX,next_v hi1.1 kX hv,next_c_ hi1.1 kX kX hcb,Ib,hF⟩;omega;refine rn 4<|Sc (λσ w=>∃(bd:Bool),(bd=decide ((n=3/\v<2048)\/(n=4/\v<65536)\/1114111<v\/(55296<=v/\v<57344)))/\AllEq σ [(6,J<|(n:Int)),(7,J v),(96,.bool bd)]/\FR w0 [] [] w) ?_ ?_;refine rn 5 ⟨λhg2=>?_,λhg2=>?_⟩;refine rn 5 ⟨λhg3=>?_,λhg3=>?_⟩;refine rn 20 ?_;exact Ja ⟨true,qJ,Ib,hF⟩;refine rn 4 ⟨λhg4=>?_,λhg4=>?_⟩
 refine rn 6 ⟨λhg5=>?_,λhg5=>?_⟩;refine rn 12 ?_;exact Ja ⟨true,qJ,Ib,hF⟩;refine rn 5 ⟨λhg6=>?_,λhg6=>?_⟩;refine rn 8 ?_;exact Ja ⟨true,qJ,Ib,hF⟩;refine rn 4 ⟨λhg7=>?_,λhg7=>?_⟩;refine rn 5 ?_;exact Ja ⟨decide ((v:Int)<(57344:Int)),qJ,Ib,hF⟩;refine rn 5 ?_;exact Ja ⟨false,qJ,Ib,hF⟩;refine rn 10 ⟨λhg8=>?_,λhg8=>?_⟩;refine rn 8 ?_;exact Ja ⟨true,qJ,Ib,hF⟩;refine rn 4 ⟨λhg9=>?_,λhg9=>?_⟩;refine rn 5 ?_;exact Ja ⟨decide ((v:Int)<(57344:Int)),qJ,Ib,hF⟩;refine rn 5 ?_;exact Ja ⟨false,qJ,Ib,hF⟩;refine rn 8 ⟨λhg10=>?_,λhg10=>?_⟩;refine rn 6 ⟨λhg11=>?_,λhg11=>?_⟩;refine rn 12 ?_;exact Ja ⟨true,qJ,Ib,hF⟩;refine rn 5 ⟨λhg12=>?_,λhg12=>?_⟩;refine rn 8 ?_;exact Ja ⟨true,qJ,Ib,hF⟩
 refine rn 4 ⟨λhg13=>?_,λhg13=>?_⟩;refine rn 5 ?_;exact Ja ⟨decide ((v:Int)<(57344:Int)),qJ,Ib,hF⟩;refine rn 5 ?_;exact Ja ⟨false,qJ,Ib,hF⟩;refine rn 10 ⟨λhg14=>?_,λhg14=>?_⟩;refine rn 8 ?_;exact Ja ⟨true,qJ,Ib,hF⟩;refine rn 4 ⟨λhg15=>?_,λhg15=>?_⟩;refine rn 5 ?_;exact Ja ⟨decide ((v:Int)<(57344:Int)),qJ,Ib,hF⟩;refine rn 5 ?_;exact Ja ⟨false,qJ,Ib,hF⟩;rintro σ w ⟨bd,hbd,hzz,hF⟩;refine Kq hzz 2 ⟨λhc7=>?_,λhc7=>?_⟩;have hd7:=kZ<|hbd.symm.trans hc7;refine rn 7 ?_;have ha:=OA hw hn0 hm kX hi1 hv0 hv hcb;clear hv hcb;obtain⟨ha1,ha2,ha3⟩:=ha;refine⟨?_,hF.same⟩;rw[ha3]
 first|(rw[uQ kX];rfl)|(rw[tQ kX];exact LD (by show v=((v.toNat:Nat):Int);omega) rfl)
 have hd7:=of_decide_eq_false<|hbd.symm.trans hc7;refine rn 5 ?_;refine Ca (v:=.int .i32 v) (Yd bX underlying21 O (by have ha:=OA hw hn0 hm kX hi1 hv0 hv hcb;clear hv hcb;rw[IntKind.wrap_i32];omega)) ?_;refine rn 6 ?_;have ha:=OA hw hn0 hm kX hi1 hv0 hv hcb;clear hv hcb;obtain⟨ha1,ha2,ha3⟩:=ha;refine⟨?_,hF.same⟩;rw[ha3]
 first|(rw[uQ kX];rfl)|(rw[tQ kX];exact LD (by show v=((v.toNat:Nat):Int);omega) rfl)
def UO(s:Str)(p:Nat):Bool:=!(decide ((Utf8.decode (bs s) p).1=65533)&&decide ((Utf8.decode (bs s) p).2=1))
theorem good_c(s:Str)(p:Nat)(hp:p<aL s)(hl:aL s<=140737488355328)(w0:World):Calls prog 211 #[I s,J (p:Int)] w0 (Qb λv w'=>v=.bool (UO s p)/\Same [] w0 w'):=by
 refine Ga func211 ntmps211 ?_;intro hF;refine rn 9<|Sa (next_c s p kX hl _) ?_;rintro w hF -;refine rn 10 ?_;refine Ca (v:=.bool true) (Ug TB (by have:=Te s p;omega)) ?_;refine rn 5 ⟨λhg0=>?_,λhg0=>?_⟩;refine rn 9 ⟨xQ Value.bool ?_,hF.same⟩;unfold UO;have e1:decide ((((Utf8.decode (bs s) p).1:Nat):Int)=65533)=decide ((Utf8.decode (bs s) p).1=65533):=decide_eq_decide.2 kX;have e2:decide ((((Utf8.decode (bs s) p).2:Nat):Int)=1)=decide ((Utf8.decode (bs s) p).2=1):=decide_eq_decide.2 kX
 ·first|(rw[<-e1,<-e2];simp_all;done)|(rw[<-e1];simp_all;done)|(simp_all;omega)
 refine rn 9 ⟨xQ Value.bool ?_,hF.same⟩;unfold UO;have e1:decide ((((Utf8.decode (bs s) p).1:Nat):Int)=65533)=decide ((Utf8.decode (bs s) p).1=65533):=decide_eq_decide.2 kX;have e2:decide ((((Utf8.decode (bs s) p).2:Nat):Int)=1)=decide ((Utf8.decode (bs s) p).2=1):=decide_eq_decide.2 kX
 ·first|(rw[<-e1,<-e2];simp_all;done)|(rw[<-e1];simp_all;done)|(simp_all;omega)
theorem IM{s:Str}{q:Nat}(h:q<aL s):Lib.validD (s.drop q)=if UO s q=false then false else Lib.validD (s.drop (q+(Utf8.decode (bs s) q).2)):=by
  have hne:s.drop q≠[]:=qB
  rw[Lib.validD_step _ hne,Wn,List.drop_drop];unfold UO;grind
theorem rvalid_c(s:Str)(hl:aL s<=140737488355328)(w0:World):Calls prog 178 #[I s] w0 (Qb λv w'=>∃n,v=.tuple #[J n,.bool (Lib.validD s)]/\Same [] w0 w'):=by
 refine Ga func178 ntmps178 ?_;intro hF;refine rn 13<|Wa (λμ σ w=>∃(q:Nat),μ=aL s-q/\(q<=aL s)/\(Lib.validD s=Lib.validD (s.drop q))/\AllEq σ [(0,I s),(4,J<|(q:Int))]/\FR w0 [] [] w) _ ⟨0,O,cZ _,by rw[List.drop_zero],Ib,hF⟩ ?_;rintro μ σ w ⟨q,rfl,hq,hv,hzz,hF⟩;refine Tf hzz 10 ⟨λhc0=>?_,λhc0=>?_⟩;refine rn 7<|Sa (good_c s q kX hl _) ?_;rintro w hF -;refine rn 11 ⟨λhc1=>?_,λhc1=>?_⟩;refine rn 8 ?_;exact⟨_,by rw[hv,IM kX,uQ qB],hF.same⟩;refine rn 6<|Sa (next_c s q kX hl _) ?_;rintro w hF -;refine rn 10 ?_;refine Ca (v:=J<|((q+(Utf8.decode (bs s) q).2:Nat):Int)) (Ku O O (by have:=Gq s q;exact Od kX kX kX)) ?_;refine rn 3<|Ja ⟨_,?_,q+(Utf8.decode (bs s) q).2,O,Gq s q,by rw[hv,IM kX,tQ qB],Ib,hF⟩;have:=Te s q;have:=Gq s q;omega;refine rn 11 ?_;exact⟨_,by rw[hv,List.drop_eq_nil_of_le kX];rfl,hF.same⟩
def utf_c(s:Str)(hl:aL s<=140737488355328)(w0:World):Calls prog 148 #[I s] w0 (Qb λv w'=>v=.bool (Lib.validD s)/\Same [] w0 w'):=by
 refine Ga func148 ntmps148 ?_;intro hF;refine rn 8<|Gc (rvalid_c s hl _) ?_;rintro _ w ⟨nn,rfl,hE⟩;have hF:=hF.ext hE;refine rn 14 ?_;exact⟨O,hF.same⟩
theorem res_6{P:Program}{fn:Func}{n:Nat}{s:Nat->Value}{w:World}{t1 t2 t3 t4 t5 t6:Nat}{v1 v2 v3 v4 v5 v6:Value}(h:fn.results=#[.tmp t1,.tmp t2,.tmp t3,.tmp t4,.tmp t5,.tmp t6])(h1:ev n s (.tmp t1)=v1)(h2:ev n s (.tmp t2)=v2)(h3:ev n s (.tmp t3)=v3)(h4:ev n s (.tmp t4)=v4)(h5:ev n s (.tmp t5)=v5)(h6:ev n s (.tmp t6)=v6) :
    (results fn (Vi n s).tmps).run P w=.ok (.tuple #[v1,v2,v3,v4,v5,v6]) w:=by
  have:(results fn (Vi n s).tmps).run P w=.ok (.tuple #[(Vi n s).tmps.getD t1 undef,(Vi n s).tmps.getD t2 undef,(Vi n s).tmps.getD t3 undef,(Vi n s).tmps.getD t4 undef,(Vi n s).tmps.getD t5 undef,(Vi n s).tmps.getD t6 undef]) w:=by simp[results,h]
  grind [Ci]
theorem all_end{s:Str}(hj:aL s<=j)(h:(s.take j).all Md=true):decide ((0:Int)<(aL (s:Str):Int))=Df s:=by
  rw[dZ hj]at h;grind [len_pos,Df]
theorem BX{s:Str}(hj:j<aL s)(h:Md s[j]=false):Df s=false:=by grind [Df]
theorem dig_of{c:UInt8}(h1:¬((c.toNat:Nat):Int)<48)(h2:¬(57:Int)<((c.toNat:Nat):Int)):Md c=true:=by grind [Md]
theorem FW{c:UInt8}(h:((c.toNat:Nat):Int)<48\/(57:Int)<((c.toNat:Nat):Int)):Md c=false:=by grind [Md]
def Tw(s:Str)(hl:aL s<=140737488355328)(w0:World):Calls prog 213 #[I s] w0 (Qb λv w'=>v=.bool (Df s)/\Same [] w0 w'):=by
 refine Ga func213 ntmps213 ?_;intro hF;refine rn 12<|Wa (λμ σ w=>∃(j:Nat),μ=aL s-j/\(j<=aL s)/\((s.take j).all Md=true)/\AllEq σ [(0,I s),(3,J<|(j:Int))]/\FR w0 [] [] w) _ ⟨0,O,cZ _,Da,Ib,hF⟩ ?_;rintro μ σ w ⟨j,rfl,hj,ha,hzz,hF⟩;refine Tf hzz 10 ⟨λhc0=>?_,λhc0=>?_⟩;refine rn 8<|Ca (v:=.int .u8<|(((s:Str)[j]' kX).toNat:Int)) (Ud (j) gX O O kX) ?_;refine rn 3 ⟨λhg0=>?_,λhg0=>?_⟩;refine rn 14 ?_;exact⟨xQ Value.bool (BX (j:=j) kX<|FW<|.inl qW).symm,hF.same⟩;refine rn 2<|Ca (v:=.int .u8<|(((s:Str)[j]' kX).toNat:Int)) (Ud (j) gX O O kX) ?_;refine rn 5 ⟨λhc1=>?_,λhc1=>?_⟩;refine rn 6 ?_;exact⟨xQ Value.bool (BX (j:=j) kX<|FW<|.inr qW).symm,hF.same⟩;refine rn 5<|Kc (Ce<|((j+1:Nat):Int)) ?_;refine rn 2<|Ja ⟨_,?_,j+1,O,kX,Gy kX ha<|dig_of qW qW,Ib,hF⟩;omega;refine rn 11 ?_;exact⟨xQ Value.bool<|all_end kX ha,hF.same⟩
def GM(x:Num)(w0:World):Calls prog 209 #[Tm x] w0 (Qb λv w'=>v=.bool (decide (x=Num.zero))/\Same [] w0 w'):=by
 refine Ga func209 ntmps209 ?_;intro hF;refine rn 3 ?_;rintro b1 w hb1 hF -;refine rn 6<|Ca (w':=w) (v:=.agg #[.bool false,I [],J 0]) Gb ?_;refine Ca (v:=.bool<|decide (x=Num.zero)) (x_eqlN (a:=x) (b:=Num.zero) O O)<|rn 4 ?_;exact⟨O,hF.same⟩
def NM(x:Num)(hl:aL x.digits<=140737488355328)(w0:World):Calls prog 179 #[Tm x] w0 (Qb λv w'=>v=.bool (Wc x)/\Same [] w0 w'):=by
 refine Ga func179 ntmps179 ?_;intro hF;refine rn 3 ?_;rintro b1 w hb1 hF -;refine rn 7<|Sa (GM x _) ?_;rintro w hF -;refine rn 3 ⟨λhc0=>?_,λhc0=>?_⟩;refine rn 6 ?_;exact⟨by rw[W6 hc0],hF.same⟩;refine rn 6<|Sa (Tw (x.digits) kX _) ?_;rintro w hF -;refine rn 16 ⟨λhg0=>?_,λhg0=>?_⟩;refine rn 5 ⟨λhg1=>?_,λhg1=>?_⟩;have hpos:0<aL x.digits:=List.length_pos_iff.2<|Nj qW;refine rn 2<|Ca (v:=.int .u8<|(((x.digits:Str)[0]'(hpos)).toNat:Int)) (Ud (0) gX O O hpos) ?_;refine rn 4 ⟨λhg2=>?_,λhg2=>?_⟩;refine rn 3<|Kc (W5<|((aL x.digits-1:Nat):Int))<|Ca (v:=.int .u8<|(((x.digits:Str)[aL x.digits-1]' kX).toNat:Int)) (Ud (aL x.digits-1) gX O O kX) ?_;refine rn 4 ⟨λhg3=>?_,λhg3=>?_⟩;refine rn 6 ⟨λhg4=>?_,λhg4=>?_⟩;refine rn 8 ?_;exact⟨by rw[Dq hc0 (by rw[(by assumption:Df x.digits=true)];rfl) kX hpos qW kX qW,fZ (show (-1000000:Int)<=x.exp by omega),Bool.true_and],hF.same⟩;refine rn 8 ?_;exact⟨by rw[Dq hc0 (by rw[(by assumption:Df x.digits=true)];rfl) kX hpos qW kX qW,eZ (show ¬(-1000000:Int)<=x.exp by omega),Bool.false_and],hF.same⟩;refine rn 13 ?_;exact⟨by rw[N7 hc0 kX kX],hF.same⟩;refine rn 21 ?_;exact⟨by rw[R7 hc0 hpos kX],hF.same⟩;refine rn 27 ?_;exact⟨by rw[D7 hc0 kX],hF.same⟩;refine rn 31 ?_;exact⟨by rw[H6 hc0 (by rw[(by assumption:Df x.digits=false)];rfl)],hF.same⟩
def Ym:∀m:Nat,m<10->((([48,49,50,51,52,53,54,55,56,57]:Str).take (m+1)).drop m)=[UInt8.ofNat (48+m)]:=Ra
def SQ(n:Int):Prop:=∀w0:World,Calls prog 210 #[J n] w0 (Qb λv w'=>v=I (Lib.itoa n)/\Same [] w0 w')
def dec_ge(h:¬m<10):Lib.decDigits m=Lib.decDigits (m/10)++[UInt8.ofNat (48+m%10)]:=by rw[Lib.decDigits,dif_neg h]
theorem neg_tdiv_(m:Nat):(-(m:Int)).tdiv 10 = -((m/10:Nat):Int):=qK
theorem JF(m:Nat):(-(m:Int)).tmod 10 = -((m%10:Nat):Int):=qK
def dec_pos(m:Nat)(hm:(m:Int)<=9223372036854775807)(ih:∀q:Nat,q<m->SQ (q:Int)):SQ (m:Int):=by
 intro w0;refine Ga func210 ntmps210 ?_;intro hF;refine rn 14<|Ca (v:=.bool true) (Ug (MK O O) kX) ?_;refine rn 7 ⟨λhc0=>?_,λhc0=>?_⟩;refine rn 5<|Kc (Ce<|((m+1:Nat):Int)) ?_;refine Ca (v:=I<|(([48,49,50,51,52,53,54,55,56,57]:Str).take (m+1)).drop (m)) (I2 (m) (m+1) gX rfl rfl rfl zT zT) ?_;refine rn 4 ?_;exact⟨by rw[Ym m kX,Lib.itoa_nonneg,Lib.decDigits_one kX],hF.same⟩;refine rn 6<|Ca (v:=.bool true) (Ug TB kX) ?_;refine rn 4<|Wd (zs:=.of []) (bQ [0,1,3,4,5,6,7,8,9]<|.act 2<|.free 10<|.free 11 .nil) hF ?_;intro w hF;refine rn 1<|Fa O (v:=J<|((m/10:Nat):Int)) (λw hC=>x_quo O O Ra<|Od O kX kX) ?_;refine rn 2<|Fa O (v:=J<|((m%10:Nat):Int)) (λw hC=>VX O O Ra O) ?_;refine rn 1<|Fa O (v:=J<|((m%10:Nat):Int)) (λw hC=>VX O O Ra O)<|Dv O (Ce<|((m%10+1:Nat):Int)) ?_;refine Fa rfl (v:=I<|(([48,49,50,51,52,53,54,55,56,57]:Str).take (m%10+1)).drop (m%10)) (λw hC=>I2 (m%10) (m%10+1) gX rfl rfl rfl zT zT) ?_;refine Ie (ih (m/10) kX _) ?_;rintro w hF -;refine Fa O (v:=I<|(Lib.itoa ((m/10:Nat):Int))++((([48,49,50,51,52,53,54,55,56,57]:Str).take (m%10+1)).drop (m%10))) (λw hC=>Rj O O (by have:=Lib.itoa_length_le ((m/10:Nat):Int) kX kX;rw[Ym _ kX];exact fQ (Nat.add_le_add_right this 1) Ra)) ?_;refine rn 4 ?_;exact⟨by rw[Ym _ kX,Lib.itoa_nonneg,Lib.itoa_nonneg,dec_ge (m:=m) kX],hF.same⟩
def dec_neg(m:Nat)(h1:1<=m)(hm:(m:Int)<=9223372036854775808)(ih:∀q:Nat,q<m->1<=q->SQ (-(q:Int))):SQ (-(m:Int)):=by
 intro w0;refine Ga func210 ntmps210 ?_;intro hF;refine rn 14<|Ca (v:=.bool false) (Ed (MK O O) kX) ?_;refine rn 13<|Ca (v:=.bool false) (Ed TB kX) ?_;refine rn 13 ⟨λhc2=>?_,λhc2=>?_⟩;refine rn 4<|Ca (v:=J<|(m:Int)) (Qu O<|Od kX kX kX) ?_;refine rn 1<|Ca (v:=J<|(m:Int)) (Qu O<|Od kX kX kX)<|Kc (Ce<|((m+1:Nat):Int)) ?_;refine Ca (v:=I<|(([48,49,50,51,52,53,54,55,56,57]:Str).take (m+1)).drop (m)) (I2 (m) (m+1) gX rfl rfl rfl zT zT) ?_;refine Ca (v:=I<|([45])++((([48,49,50,51,52,53,54,55,56,57]:Str).take (m+1)).drop (m))) (Rj O O (by rw[Ym _ kX];simp)) ?_;refine rn 4 ?_;exact⟨by rw[Ym m kX,Lib.itoa_neg m kX,Lib.decDigits_one kX];rfl,hF.same⟩;refine rn 3<|Wd (zs:=.of []) (bQ [0,1,3,4,5,6,7,8,9,10,11]<|.act 2<|.free 12<|.free 13 .nil) hF ?_;intro w hF;refine rn 1<|Fa O (v:=J<|-((m/10:Nat):Int)) (λw hC=>x_quo O O Ra<|Od (neg_tdiv_ m) kX kX) ?_;refine rn 2<|Fa O (v:=J<|-((m%10:Nat):Int)) (λw hC=>VX O O Ra<|JF m)<|Fa O (v:=J<|((m%10:Nat):Int)) (λw hC=>Qu O<|Od kX kX kX) ?_;refine rn 1<|Fa O (v:=J<|-((m%10:Nat):Int)) (λw hC=>VX O O Ra<|JF m)<|Fa O (v:=J<|((m%10:Nat):Int)) (λw hC=>Qu O<|Od kX kX kX)<|Dv O (Ce<|((m%10+1:Nat):Int)) ?_;refine Fa rfl (v:=I<|(([48,49,50,51,52,53,54,55,56,57]:Str).take (m%10+1)).drop (m%10)) (λw hC=>I2 (m%10) (m%10+1) gX rfl rfl rfl zT zT) ?_;refine Ie (ih (m/10) kX kX _) ?_;rintro w hF -;refine Fa O (v:=I<|(Lib.itoa<|-((m/10:Nat):Int))++((([48,49,50,51,52,53,54,55,56,57]:Str).take (m%10+1)).drop (m%10))) (λw hC=>Rj O O (by have:=Lib.itoa_length_le (-((m/10:Nat):Int)) kX kX;rw[Ym _ kX];exact fQ (Nat.add_le_add_right this 1) Ra)) ?_
 refine rn 4 ?_;exact⟨by rw[Ym _ kX,Lib.itoa_neg m kX,Lib.itoa_neg (m/10) kX,dec_ge (m:=m) kX];rfl,hF.same⟩
def dec_c(n:Int)(h1:-9223372036854775808<=n)(h2:n<=9223372036854775807):SQ n:=by
  have hp:∀m:Nat,(m:Int)<=9223372036854775807->SQ (m:Int):=λm=>by
    induction m using Nat.strongRecOn with
    | ind m ih=>exact λhm=>dec_pos m hm λq hq=>ih q hq kX
  have hn:∀m:Nat,1<=m->(m:Int)<=9223372036854775808->SQ (-(m:Int)):=λm=>by
    induction m using Nat.strongRecOn with
    | ind m ih=>exact λh1 hm=>dec_neg m h1 hm λq hq hq1=>ih q hq hq1 kX
  rcases Int.lt_or_le n 0 with h|h
  ·have := hn n.natAbs kX kX
   rwa [show -((n.natAbs:Nat):Int)=n by omega]at this
  have := hp n.toNat kX
  rwa [show ((n.toNat:Nat):Int)=n by omega]at this
theorem Hu{x:Num}(h:Wc x=true)(h0:¬x=Num.zero):x.digits≠[]:=by grind [Wc,Nj]
theorem rtext_c(x:Num)(hl:aL x.digits<=140737488355328)(w0:World):Calls prog 177 #[Tm x] w0 (Qb λv w'=>v=I (Ij x)/\Same [] w0 w'):=by
 refine Ga func177 ntmps177 ?_;intro hF;refine rn 3 ?_;rintro b1 w hb1 hF -;refine rn 6<|Sa (NM x hl _) ?_;rintro w hF -;refine rn 11 ⟨λhc0=>?_,λhc0=>?_⟩;refine rn 6 ?_;exact⟨by rw[Ij,uQ qB],hF.same⟩;refine rn 6<|Sa (GM x _) ?_;rintro w hF -;refine rn 3 ⟨λhc1=>?_,λhc1=>?_⟩;refine rn 6 ?_;have hz:x=Num.zero:=qW;exact⟨by subst hz;rfl,hF.same⟩;refine rn 17 ⟨λhc2=>?_,λhc2=>?_⟩;refine rn 2 ?_;refine Ca (v:=I<|([45])++(x.digits)) (Rj O O qP) ?_;refine rn 12 ⟨λhc3=>?_,λhc3=>?_⟩;refine rn 2 ?_;refine Ca (v:=I<|(([45])++(x.digits))++([101])) (Rj O O qP) ?_;refine rn 2 ?_;refine Sa (dec_c x.exp wR wR _) ?_;rintro w hF -;refine Ca (v:=I<|((([45])++(x.digits))++([101]))++(Lib.itoa x.exp)) (Rj O O kW) ?_;refine rn 10 ⟨xQ (λy=>Value.string<|bs y) ?_,hF.same⟩;have hne:=Hu (x:=x) qB qW;rw[Ij,tQ qB,tQ hne];simp_all;refine rn 9 ⟨xQ (λy=>Value.string<|bs y) ?_,hF.same⟩;have hne:=Hu (x:=x) qB qW;rw[Ij,tQ qB,tQ hne];simp_all;refine rn 11 ⟨λhc3=>?_,λhc3=>?_⟩;refine rn 2 ?_;refine Ca (v:=I<|(x.digits)++([101])) (Rj O O qP) ?_;refine rn 2 ?_;refine Sa (dec_c x.exp wR wR _) ?_;rintro w hF -;refine Ca (v:=I<|((x.digits)++([101]))++(Lib.itoa x.exp)) (Rj O O kW) ?_;refine rn 10 ⟨xQ (λy=>Value.string<|bs y) ?_,hF.same⟩;have hne:=Hu (x:=x) qB qW;rw[Ij,tQ qB,tQ hne]
 simp_all;refine rn 9 ⟨xQ (λy=>Value.string<|bs y) ?_,hF.same⟩;have hne:=Hu (x:=x) qB qW;rw[Ij,tQ qB,tQ hne];simp_all
def Mg(s:Str)(k:Int):Bool:=decide ((0:Int)<(aL s:Int))&&decide (bZ s 0=k)
theorem F2{s:Str}(h:(0:Int)<(aL s:Int):=by omega)(e:bZ s 0=k:=by omega):Mg s k=true:=by grind [Mg]
theorem Kl{s:Str}(h:¬(0:Int)<(aL s:Int):=by omega):Mg s k=false:=by grind [Mg]
theorem Nv{s:Str}(e:¬bZ s 0=k:=by omega):Mg s k=false:=by grind [Mg]
theorem T8{s:Str}(h:(0:Int)<(aL s:Int)):Mg s k=decide (bZ s 0=k):=by grind [Mg]
theorem SN(s:Str)(c:UInt8):Mg s (c.toNat:Int)=Lib.hasPrefix s [c]:=by
  cases s with
  | nil=>rfl
  | cons a s =>
    have h0:bZ (a::s) 0=(a.toNat:Int):=(Pi (s:=a::s) (p:=0) Da).symm;rw[Mg,h0,fZ Da,Bool.true_and];by_cases h:a=c
    ·subst h
     simp[Lib.hasPrefix]
    have : ¬ ((a.toNat : Int) = (c.toNat : Int)) := λe => h (UInt8.toNat.inj kX);have h2:(c==a)=false:=qK
    rw[eZ this];simp[Lib.hasPrefix,List.isPrefixOf,h2]
theorem O2{at_ s:Str}(hno:∀c∈s.take j,at_.contains c=false)(h:∀h:j<aL s,at_.contains s[j]=true)(hj:j<=aL s:=by omega):Za at_ s=(s.take j,s.drop (j+1),decide (j<aL s)):=by
  by_cases hl:j<aL s
  ·grind [W4]
  rw[dZ kX]at hno ⊢;rw[M3 hno,List.drop_eq_nil_of_le kX,eZ hl]
def eE_in{c:UInt8}(h:((c.toNat:Nat):Int)=101\/((c.toNat:Nat):Int)=69):([101,69]:Str).contains c=true:=by
  rcases h with h|h
  ·rw[(UX (n:=101) kX).1 h];decide
  rw[(UX (n:=69) kX).1 h];decide
theorem eE_out{c:UInt8}(h1:¬((c.toNat:Nat):Int)=101)(h2:¬((c.toNat:Nat):Int)=69):([101,69]:Str).contains c=false:=by
  rw[Bool.eq_false_iff];intro h;simp only[List.contains_cons,List.contains_nil,Bool.or_false,Bool.or_eq_true,beq_iff_eq]at h;rcases h with rfl|rfl
  ·grind
  grind
def dot_in{c:UInt8}(h:((c.toNat:Nat):Int)=46):([46]:Str).contains c=true:=by rw[(UX (n:=46) kX).1 h];decide
theorem dot_out{c:UInt8}(h1:¬((c.toNat:Nat):Int)=46):([46]:Str).contains c=false:=by
  rw[Bool.eq_false_iff];intro h;simp_all
def Du(f:Bool)(Z:Str):Str:=if f=true then (if Mg Z 45=true\/Mg Z 43=true then Z.drop 1 else Z) else [48]
theorem Y1(h:Mg Z 45=true):Du true Z=Z.drop 1:=by grind [Du]
theorem G2(h:Mg Z 43=true):Du true Z=Z.drop 1:=by grind [Du]
theorem C0(h:Mg Z 45=false)(h2:Mg Z 43=false):Du true Z=Z:=by grind [Du]
def okR(W R E:Str):Bool:=Df W&&(Df R&&(Df E&&(decide (W=[48]) || decide (¬bZ W 0=48))))
structure Parts (s:Str) (neg:Bool) (whole rest:Str) (minus:Bool) (exp:Str) (ok:Bool):Prop where
  h : ∃(s1 W Z R1 : Str)(f g : Bool), neg = Mg s 45 /\ s1 = (if Mg s 45 = true then s.drop 1 else s) /\ Za [101, 69] s1 = ((Za [101, 69] s1).1, Z, f) /\ Za [46] (Za [101, 69] s1).1 = (W, R1, g) /\
    whole=W/\rest=(if g=true then R1 else [])/\minus=(f&&Mg Z 45)/\exp=Du f Z/\ok=okR W (if g=true then R1 else [48]) (Du f Z)
theorem parts_c(s:Str)(hl:aL s<=140737488355328)(w0:World):Calls prog 208 #[I s] w0 (Qb λv w'=>∃neg whole rest minus exp ok,v=.tuple #[.bool neg,I whole,I rest,.bool minus,I exp,.bool ok]/\Parts s neg whole rest minus exp ok/\Same [] w0 w'):=by
 refine Ga func208 ntmps208 ?_;intro hF;refine rn 11<|Sc (λσ w=>∃(ng:Bool),(ng=Mg s 45)/\(ng=true->(0:Int)<aL s)/\AllEq σ [(0,I s),(8,.bool ng)]/\FR w0 [] [] w) ?_ ?_;refine rn 6 ⟨λhg0=>?_,λhg0=>?_⟩;refine rn 1 ?_;refine Ca (v:=.int .u8<|bZ (s) 0) (by rw[<-Pi (s:=s) (p:=0) kX];exact Ud 0 gX O O kX) ?_;refine rn 4 ?_;exact Ja ⟨decide ((bZ (s) 0:Int)=(45:Int)),bJ,jU,Ib,hF⟩;refine rn 6 ?_;exact Ja ⟨false,bJ,jU,Ib,hF⟩;rintro σ w ⟨ng,hng,hnl,hzz,hF⟩;refine Kq hzz 2<|Sc (λσ w=>∃(s1:Str),(s1=if Mg s 45=true then s.drop 1 else s)/\AllEq σ [(0,I s1),(8,.bool ng)]/\FR w0 [] [] w) ?_ ?_;refine rn 6 ⟨λhc0=>?_,λhc0=>?_⟩;have hnl2:=hnl hc0;refine rn 2<|Ca (v:=I<|(s:Str).drop (1)) (Nl (1) gX) ?_;refine rn 2 ?_;exact Ja ⟨(s:Str).drop (1),(by rw[<-hng];first|rw[uQ qW]|rw[tQ (by rw[hc0];decide)]),Ib,hF⟩;refine rn 1 ?_;exact Ja ⟨s,(by rw[<-hng];first|rw[uQ qW]|rw[tQ (by rw[hc0];decide)]),Ib,hF⟩;rintro σ w ⟨s1,hs1,hzz,hF⟩;have hl1:aL s1<=140737488355328:=by rw[hs1];split <;> (try simp) <;> omega
 refine Kq hzz 7<|Sc (λσ w=>∃(k:Nat),(k<=aL s1)/\(Za [101,69] s1=(s1.take k,s1.drop<|k+1,decide (k<aL s1)))/\AllEq σ [(0,I s1),(8,.bool ng),(9,J<|(k:Int))]/\FR w0 [] [] w) ?_ ?_;refine rn 1<|Wa (λμ σ w=>∃(j:Nat),μ=aL s1-j/\(j<=aL s1)/\(∀c∈s1.take j,([101,69]:Str).contains c=false)/\AllEq σ [(0,I s1),(8,.bool ng),(9,J<|(j:Int))]/\FR w0 [] [] w) _ ⟨0,O,cZ _,Da,Ib,hF⟩ ?_;rintro μ σ w ⟨j,rfl,hj,hno,hzz,hF⟩;refine Tf hzz 9 ⟨λhg1=>?_,λhg1=>?_⟩;refine rn 2<|Ca (v:=.int .u8<|(((s1:Str)[j]' kX).toNat:Int)) (Ud (j) gX O O kX) ?_;refine rn 4 ⟨λhg2=>?_,λhg2=>?_⟩;refine rn 2<|Ca (v:=.int .u8<|(((s1:Str)[j]' kX).toNat:Int)) (Ud (j) gX O O kX) ?_;refine rn 5 ⟨λhc1=>?_,λhc1=>?_⟩;refine rn 5<|Kc (Ce<|((j+1:Nat):Int)) ?_;refine rn 3<|Ja ⟨_,?_,j+1,O,kX,CH kX hno<|eE_out kX kX,Ib,hF⟩;omega;refine rn 1 ?_;exact Ja ⟨j,kX,O2 hno λh=>eE_in kX,Ib,hF⟩;refine rn 9 ?_;exact Ja ⟨j,kX,O2 hno λh=>eE_in kX,Ib,hF⟩;refine rn 15 ?_;exact Ja ⟨j,kX,O2 hno λh=>eE_in kX,Ib,hF⟩;rintro σ w ⟨k,hk,hcut,hzz,hF⟩;refine Kq hzz 11 ?_;have hZl:(aL (((s1:Str).drop (k+1)):Str):Int)=(aL s1-(k+1):Nat):=Da
 refine rn 1<|Sc (λσ w=>∃(ex:Str),∃(mi:Bool),(ex=Du (decide (k<aL s1)) ((s1:Str).drop (k+1)))/\(mi=(decide (k<aL s1)&&Mg ((s1:Str).drop (k+1)) 45))/\AllEq σ [(0,I s1),(8,.bool ng),(9,J<|(k:Int)),(10,I ex),(11,.bool mi)]/\FR w0 [] [] w) ?_ ?_;refine rn 9 ⟨λhc2=>?_,λhc2=>?_⟩;refine rn 4<|Kc (Ce<|((k+1:Nat):Int))<|Ca (v:=I<|(s1:Str).drop (k+1)) (Nl (k+1) gX) ?_;refine rn 4<|Sc (λσ w=>∃(mj:Bool),(mj=Mg ((s1:Str).drop (k+1)) 45)/\(mj=true->(0:Int)<(aL (((s1:Str).drop (k+1)):Str):Int))/\AllEq σ [(0,I s1),(8,.bool ng),(9,J<|(k:Int)),(10,I<|(s1:Str).drop (k+1)),(11,.bool mj)]/\FR w0 [] [] w) ?_ ?_;refine rn 6 ⟨λhg3=>?_,λhg3=>?_⟩;refine rn 1 ?_;refine Ca (v:=.int .u8<|bZ (((s1:Str).drop (k+1))) 0) kM ?_;refine rn 4 ?_;exact Ja ⟨decide ((bZ (((s1:Str).drop (k+1))) 0:Int)=(45:Int)),bJ,jU,Ib,hF⟩;refine rn 6 ?_;exact Ja ⟨false,bJ,jU,Ib,hF⟩;rintro σ w ⟨mj,hmj,hml,hzz,hF⟩;refine Kq hzz 6 ⟨λhg4=>?_,λhg4=>?_⟩;refine rn 12 ?_;have hZ1:(0:Int)<(aL (((s1:Str).drop (k+1)):Str):Int):=by first|omega|exact hml qW
 refine rn 2<|Ca (v:=I<|((s1:Str).drop (k+1):Str).drop (1)) (Nl (1) gX) ?_;refine rn 2 ?_;exact Ja ⟨((s1:Str).drop (k+1):Str).drop (1),mj,qV,qR,Ib,hF⟩;refine rn 5 ⟨λhg5=>?_,λhg5=>?_⟩;refine rn 1 ?_;refine Ca (v:=.int .u8<|bZ (((s1:Str).drop (k+1))) 0) kM ?_;refine rn 6 ⟨λhc3=>?_,λhc3=>?_⟩;have hZ1:(0:Int)<(aL (((s1:Str).drop (k+1)):Str):Int):=by first|omega|exact hml qW
 refine rn 2<|Ca (v:=I<|((s1:Str).drop (k+1):Str).drop (1)) (Nl (1) gX) ?_;refine rn 2 ?_;exact Ja ⟨((s1:Str).drop (k+1):Str).drop (1),mj,qV,qR,Ib,hF⟩;refine rn 1 ?_;exact Ja ⟨(s1:Str).drop (k+1),mj,qV,qR,Ib,hF⟩;refine rn 9 ?_;exact Ja ⟨(s1:Str).drop (k+1),mj,qV,qR,Ib,hF⟩;refine rn 1 ?_;exact Ja ⟨[48],false,qV,qR,Ib,hF⟩
 rintro σ w ⟨ex,mi,hex,hmi,hzz,hF⟩;have hex2:aL ex<=140737488355328:=by rw[hex];unfold Du;(repeat' split) <;> (try simp) <;> omega
 have hlt:aL (s1.take k)<=140737488355328:=by simp;omega
 refine Kq hzz 5<|Ca (v:=I<|(s1:Str).take (k)) (L2 (k) gX O O kX) ?_;refine rn 9<|Sc (λσ w=>∃(q:Nat),(q<=aL ((s1:Str).take k))/\(Za [46] ((s1:Str).take k)=((((s1:Str).take k).take q),(((s1:Str).take k).drop (q+1)),decide (q<aL ((s1:Str).take k))))/\AllEq σ [(0,I<|(s1:Str).take (k)),(8,.bool ng),(9,J<|(q:Int)),(10,I ex),(11,.bool mi)]/\FR w0 [] [] w) ?_ ?_;refine rn 1<|Wa (λμ σ w=>∃(j:Nat),μ=aL ((s1:Str).take k)-j/\(j<=aL ((s1:Str).take k))/\(∀c∈((s1:Str).take k).take j,([46]:Str).contains c=false)/\AllEq σ [(0,I<|(s1:Str).take (k)),(8,.bool ng),(9,J<|(j:Int)),(10,I ex),(11,.bool mi)]/\FR w0 [] [] w) _ ⟨0,O,cZ _,Da,Ib,hF⟩ ?_;rintro μ σ w ⟨j,rfl,hj,hno,hzz,hF⟩;refine Tf hzz 9 ⟨λhg6=>?_,λhg6=>?_⟩;refine rn 2<|Ca (v:=.int .u8<|((((s1:Str).take (k):Str)[j]' kX).toNat:Int)) (Ud (j) gX O O kX) ?_;refine rn 5 ⟨λhc4=>?_,λhc4=>?_⟩;refine rn 5<|Kc (Ce<|((j+1:Nat):Int)) ?_;refine rn 3<|Ja ⟨_,?_,j+1,O,kX,CH kX hno<|dot_out kX,Ib,hF⟩;omega;refine rn 1 ?_;exact Ja ⟨j,kX,O2 hno λh=>dot_in kX,Ib,hF⟩;refine rn 9 ?_;exact Ja ⟨j,kX,O2 hno λh=>dot_in kX,Ib,hF⟩;rintro σ w ⟨q,hq,hcut2,hzz,hF⟩;refine Kq hzz 5<|Ca (v:=I<|((s1:Str).take (k):Str).take (q)) (L2 (q) gX O O kX) ?_;refine rn 9<|Sc (λσ w=>∃(re:Str),(re=if decide (q<aL ((s1:Str).take k))=true then (((s1:Str).take k).drop (q+1)) else [48])/\AllEq σ [(0,I<|(s1:Str).take (k)),(8,.bool ng),(9,J<|(q:Int)),(10,I ex),(11,.bool mi),(12,I<|((s1:Str).take (k):Str).take (q)),(13,I re)]/\FR w0 [] [] w) ?_ ?_;refine rn 9 ⟨λhc5=>?_,λhc5=>?_⟩;refine rn 3<|Kc (Ce<|((q+1:Nat):Int))<|Ca (v:=I<|((s1:Str).take (k):Str).drop (q+1)) (Nl (q+1) gX) ?_;refine rn 2 ?_
 ·exact Ja ⟨((s1:Str).take (k):Str).drop (q+1),wF,Ib,hF⟩
 refine rn 1 ?_
 ·exact Ja ⟨[48],wF,Ib,hF⟩
 rintro σ w ⟨re,hre,hzz,hF⟩;have hre2:aL re<=140737488355328:=by rw[hre];split <;> (try simp) <;> omega
 refine Kq hzz 2<|Sc (λσ w=>∃(ok:Bool),(ok=okR (((s1:Str).take k).take q) re ex)/\AllEq σ [(0,I<|(s1:Str).take (k)),(8,.bool ng),(9,J<|(q:Int)),(10,I ex),(11,.bool mi),(12,I<|((s1:Str).take (k):Str).take (q)),(13,I re),(14,.bool ok)]/\FR w0 [] [] w) ?_ ?_;refine rn 2 ?_;refine Sa (Tw (((s1:Str).take (k):Str).take (q)) (by have:=hlt;first|omega|(simp only[iZ,yQ]at *;omega)) _) ?_;rintro w hF -;refine rn 2 ⟨λhg7=>?_,λhg7=>?_⟩;refine rn 1<|Sa (Tw (re) hre2 _) ?_;rintro w hF -;refine rn 3 ⟨λhg8=>?_,λhg8=>?_⟩;refine rn 1<|Sa (Tw (ex) hex2 _) ?_;rintro w hF -;refine rn 3 ⟨λhg9=>?_,λhg9=>?_⟩;refine rn 4 ⟨λhg10=>?_,λhg10=>?_⟩;refine rn 7 ?_;exact Ja ⟨true,wS,Ib,hF⟩;refine rn 1 ?_;refine Ca (v:=.int .u8<|bZ ((((s1:Str).take k).take q)) 0) (by rw[<-Pi (s:=(((s1:Str).take k).take q)) (p:=0) (List.length_pos_iff.2<|Nj qW)];exact Ud 0 gX O O<|List.length_pos_iff.2<|Nj qW) ?_;refine rn 5 ?_;exact Ja ⟨decide ((bZ ((((s1:Str).take k).take q)) 0:Int)≠(48:Int)),wS,Ib,hF⟩;refine rn 10 ?_;exact Ja ⟨false,wS,Ib,hF⟩;refine rn 14 ?_;exact Ja ⟨false,wS,Ib,hF⟩;refine rn 18 ?_;exact Ja ⟨false,wS,Ib,hF⟩;rintro σ w ⟨ok,hok,hzz,hF⟩;refine Kq hzz 2<|Sc (λσ w=>∃(rs:Str),(rs=if decide (q<aL ((s1:Str).take k))=true then (((s1:Str).take k).drop (q+1)) else [])/\AllEq σ [(8,.bool ng),(10,I ex),(11,.bool mi),(12,I<|((s1:Str).take (k):Str).take (q)),(13,I rs),(14,.bool ok)]/\FR w0 [] [] w) ?_ ?_;refine rn 9 ⟨λhc6=>?_,λhc6=>?_⟩;refine rn 3 ?_
 ·exact Ja ⟨[],wP,Ib,hF⟩
 refine rn 1 ?_
 ·exact Ja ⟨re,wP,Ib,hF⟩
 rintro σ w ⟨rs,hrs,hzz,hF⟩;refine Kq hzz 17<|Do<|Tj λ_ hr=>Qg (res_6 (v1:=.bool _) (v2:=I<|((s1:Str).take (k):Str).take (q)) (v3:=I rs) (v4:=.bool _) (v5:=I ex) (v6:=.bool _) hr O O O O O O) ?_;exact⟨_,_,_,_,_,_,O,⟨s1,((s1:Str).take k).take q,(s1:Str).drop (k+1),((s1:Str).take k).drop (q+1),_,_,hng,hs1,by rw[hcut],by rw[hcut];exact hcut2,O,hrs,hmi,hex,by rw[<-hre,<-hex];exact hok⟩,hF.same⟩
def Ends(r:Str):Prop:=∀c s,r=c::s->c=44\/c=93\/c=125
def Ends.nil:Ends []:=λc s h=>by cases h
open Go.RowKit
section
variable {P:Program}{w0 w:World}{Ds:List Nat}{pre post sb:List (Nat × Obj)}
end
section
variable {P:Program}{R:Exit->Act->World->Prop}{n:Nat}{kt:Kt}{s:Nat->Value}{w:World}{ops rest:List Oper}
variable {d:Nat}{ty:TypeId}{pos:String}{aft:Array Edge}{g:Option (Nat × Bool)}
variable {w0:World}{Ds:List Nat}{sb:List (Nat × Obj)}
end
end Go.Scarf
