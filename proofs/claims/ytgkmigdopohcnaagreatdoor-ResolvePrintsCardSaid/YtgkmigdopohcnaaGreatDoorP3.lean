/- A part of the proof. -/
import Derived.Test.YtgkmigdopohcnaaGreatDoorBd
import Derived.Test.YtgkmigdopohcnaaGreatDoorP1
import Derived.Test.YtgkmigdopohcnaaGreatDoorRow
import Derived.Lib.BufferRead
set_option linter.all false
set_option maxHeartbeats 8000000
set_option maxRecDepth 10000
namespace Go.Scarf
theorem JN:∀{xs:List Tree},(∀x∈xs,KO x)->CL xs
  | [],_=>by rw[CL];trivial
  | x::xs,h=>by rw[CL];exact⟨h x Ma,JN (λy hy=>h y (by simp[hy]))⟩
mutual
def Be:Tree->Nat|.node _ t ks xs=>max t.length (max (Rm ks) (Pm xs))
def Pm:List Tree->Nat|[]=>0|x::xs=>max (Be x) (Pm xs)
def Rm:List Str->Nat|[]=>0|k::ks=>max k.length (Rm ks)
end
theorem Wm:∀{ks:List Str}{k:Str},k∈ks->k.length<=Rm ks
  | y :: ys, k, h => by
    rw[Rm];rcases oQ.1 h with rfl|h
    ·omega
    have:=Wm h;omega
theorem Oj:∀{xs:List Tree}{x:Tree},x∈xs->Be x<=Pm xs
  | y :: ys, k, h => by
    rw[Pm];rcases oQ.1 h with rfl|h
    ·omega
    have:=Oj h;omega
theorem Hz{n:Nat}:∀{ks:List Str},(∀k∈ks,k.length<=n)->Rm ks<=n
  | [],_=>by rw[Rm];omega
  | k :: ks, h => by
    rw[Rm];have h1:=h k Ma;have h2:=Hz (λy hy=>h y (by simp[hy]):∀k∈ks,k.length<=n);omega
theorem F0{n:Nat}:∀{xs:List Tree},(∀x∈xs,Be x<=n)->Pm xs<=n
  | [],_=>by rw[Pm];omega
  | k :: ks, h => by
    rw[Pm];have h1:=h k Ma;have h2:=F0 (λy hy=>h y (by simp[hy]):∀x∈ks,Be x<=n);omega
theorem okQ_max(x:Tree):Be x<=17592186044416->KO x:=Tree.ind (Q:=λx=>Be x<=17592186044416->KO x) (λk t ks xs ih h=>by
  rw[Be]at h;rw[KO];exact⟨by omega,λk hk=>by have:=Wm hk;omega,JN λy hy=>ih y hy (by have:=Oj hy;omega)⟩) x
theorem Ln(x:Tree):Be x<=17592186044416->Vp x:=Tree.ind (Q:=λx=>Be x<=17592186044416->Vp x) (λk t ks xs ih h=>by
  rw[Be]at h;rw[Vp];exact⟨by omega,λk hk=>by have:=Wm hk;omega,I4 λy hy=>ih y hy (by have:=Oj hy;omega)⟩) x
theorem QR(x:Tree):Ll x=true->Be x<=2048:=Tree.ind (Q:=λx=>Ll x=true->Be x<=2048) (λk t ks xs ih h=>by
  rw[Ll,Bool.and_eq_true,Bool.and_eq_true,decide_eq_true_eq,List.all_eq_true]at h;rw[Be];have h1:Rm ks<=2048:=Hz λk hk=>by have:=h.1.2 k hk;simp only[decide_eq_true_eq]at this;omega
  have key:∀ys:List Tree,(∀y∈ys,y∈xs)->Wp ys=true->Pm ys<=2048:=by
    intro ys
    induction ys with
    | nil=>intro _ _;rw[Pm];omega
    | cons y ys ihy =>
      intro hm hs;rw[Wp,Bool.and_eq_true]at hs;rw[Pm];have a:=ih y (hm y Ma) hs.1;have b:=ihy (λz hz=>hm z (by simp[hz])) hs.2;omega
  have h2:=key xs (λ_ h=>h) h.2;omega) x
theorem MY(x:Tree):Be (sortT x)<=Be x:=Tree.ind (Q:=λx=>Be (sortT x)<=Be x) (λk t ks xs ih=>by
  have hs:∀y∈If xs,Be y<=Pm xs:=by
    intro y hy;rw[Rg]at hy;obtain⟨z,hz,rfl⟩:=nQ.1 hy;exact fQ (ih z hz) (Oj hz)
  rw[sortT];split
  ·rw[Be, Be]
   have h1:Rm (Ok ks)<=Rm ks:=Hz λk hk=>Wm (Xm.1 hk);have h2:Pm ((Ok ks).map λkey=>(Mf ks (If xs) key).getD (.node 0 [] [] []))<=Pm xs:=F0 λy hy=>by
     obtain⟨key,_,rfl⟩:=nQ.1 hy;cases hl:Mf ks (If xs) key with
     | none=>simp[Be,Rm,Pm]
     | some z=>exact hs z (Ur hl)
   omega
  rw[Be, Be];have h2:=F0 hs;have h3:Rm []=0:=by rw[Rm]
  omega) x
theorem Qy(m:Bool)(ind d:Nat)(D:Nat)(hD:d+1<=D):∀(ps:List Str)(b:Bool),(Ig m ind d b ps).length<=(ps.map λp=>p.length+(2+ind*D)).sum
  | [],b=>by rw[Ig];simp
  | p :: ps, b => by
    have h1:=Qy m ind d D hD ps false;have h2:=Vy m ind (d+1);have h3:ind*(d+1)<=ind*D:=Nat.mul_le_mul_left _ hD;have h4:(if b=true then ([]:Str) else [44]).length<=1:=by split <;> simp
    rw[Ig,List.map_cons,List.sum_cons];simp only[dQ];omega
theorem MS(m:Bool)(ind L D:Nat)(x:Tree):∀d,Be x<=L->d+Cd x<=D->(Mg m ind x d).length+(6*L+6+ind*D)<=Qb x*(12*L+40+2*(ind*D)) :=
  Tree.ind (Q:=λx=>∀d,Be x<=L->d+Cd x<=D->(Mg m ind x d).length+(6*L+6+ind*D)<=Qb x*(12*L+40+2*(ind*D))) (λk t ks xs ih d hL hd=>by
  rw[Be]at hL;rw[Cd]at hd;have hq:=C_ t;have hl:=Vy m ind d;have hid:ind*d<=ind*D:=Nat.mul_le_mul_left _ Aa;have key1:∀ys:List Tree,(∀y∈ys,y∈xs)->((Il m ind ys (d+1)).map λp=>p.length+(2+ind*D)).sum<=Dc ys*(12*L+40+2*(ind*D)):=by
    intro ys
    induction ys with
    | nil=>intro _;simp[Il]
    | cons y ys ihy =>
      intro hm;have h1:=ih y (hm y Ma) (d+1) (by have:=Oj (hm y Ma);omega) (by have:=Gh (hm y Ma);omega);have h2:=ihy (λz hz=>hm z (by simp[hz]));rw[Il,List.map_cons,List.sum_cons,Dc,Nat.add_mul];omega
  have key2:∀(ys:List Tree)(js:List Str),(∀y∈ys,y∈xs)->(∀k∈js,k.length<=L)->((Jj m ind ys js (d+1)).map λp=>p.length+(2+ind*D)).sum<=Dc ys*(12*L+40+2*(ind*D)):=by
    intro ys
    induction ys with
    | nil=>intro _ _ _;simp[Jj]
    | cons y ys ihy =>
      intro js hm hj;have h1:=ih y (hm y Ma) (d+1) (by have:=Oj (hm y Ma);omega) (by have:=Gh (hm y Ma);omega);have h2:=ihy js.tail (λz hz=>hm z (by simp[hz])) (λk hk=>hj k (List.mem_of_mem_tail hk));have h3:(js.headD []).length<=L:=by
        cases js with
        | nil=>simp
        | cons a b=>exact hj a Ma
      have h4:=C_ (js.headD []);have h5:(if m=true then ([32]:Str) else []).length<=1:=by split <;> simp
      rw[Jj,List.map_cons,List.sum_cons,Dc,Nat.add_mul];simp only[dQ,kQ,List.length_nil];omega
  have fin:∀(o c:UInt8)(ps:List Str)(N:Nat),(xs=[]->ps=[])->(ps.map λp=>p.length+(2+ind*D)).sum<=N->(Ym m ind d o c ps).length+(6*L+6+ind*D)<=1*(12*L+40+2*(ind*D))+N:=by
    intro o c ps N he hN;have h5:(if ps=[] then ([]:Str) else Vj m ind d).length<=1+ind*D:=by
      split
      ·simp
      omega
    have h6:(Ig m ind d true ps).length<=N:=by
      by_cases hp:ps=[]
      ·subst hp;rw[Ig];simp
      have hx : xs ≠ [] := λh => hp (he h);have h7:1<=Jd xs:=by
        cases xs with
        | nil=>exact absurd rfl hx
        | cons a b => rw[Jd];have : 1 <= Cd a := by (obtain⟨_, _, _, _⟩ := a;rw[Cd];omega)
                      omega
      exact fQ (Qy m ind d D Aa ps true) hN
    rw[Ym];simp only[dQ,kQ,List.length_nil];omega
  rw[Mg,Qb,Nat.add_mul];split
  ·simp only[kQ,List.length_nil];omega
  split
  ·omega
  split
  ·exact fin _ _ _ _ (λh=>by rw[h,Il]) (key1 xs (λ_ h=>h))
  split
  ·exact fin _ _ _ _ (λh=>by rw[h,Jj]) (key2 xs ks (λ_ h=>h) (λk hk=>by have:=Wm hk;omega))
  omega) x
def Yk(x:Tree):Str:=if Yd x=true then Mg false 0 x 0 else []
def Lq(x:Tree):Int:=if Yd x=true then 0 else 1
theorem Nj(q:Tree->Bool):∀xs:List Tree,Yq q xs=xs.all (Xc q)
  | []=>rfl
  | x::xs=>by rw[Yq,Nj q xs];rfl
theorem all_perm{α:Type}(q:α->Bool){xs ys:List α}(h:xs.Perm ys):xs.all q=ys.all q:=by
  rw[Bool.eq_iff_iff,List.all_eq_true,List.all_eq_true];exact⟨λg y hy=>g y (h.mem_iff.2 hy),λg y hy=>g y (h.mem_iff.1 hy)⟩
def no7(x:Tree):Bool:=decide (x.kind≠7)
theorem PX(p q:Tree->Bool)(x:Tree):Xc (λx=>p x&&q x) x=(Xc p x&&Xc q x):=Tree.ind (Q:=λx=>Xc (λx=>p x&&q x) x=(Xc p x&&Xc q x)) (λk t ks xs ih=>by
  rw[Xc,Xc,Xc,Nj,Nj,Nj];have h:xs.all (Xc λx=>p x&&q x)=(xs.all (Xc p)&&xs.all (Xc q)):=by
    rw[Bool.eq_iff_iff,Bool.and_eq_true,List.all_eq_true,List.all_eq_true,List.all_eq_true];refine⟨λg=>⟨λy hy=>?_,λy hy=>?_⟩,λg y hy=>?_⟩
    ·have:=g y hy;rw[ih y hy,Bool.and_eq_true]at this;exact this.1
    ·have:=g y hy;rw[ih y hy,Bool.and_eq_true]at this;exact this.2
    rw[ih y hy,Bool.and_eq_true];exact⟨g.1 y hy,g.2 y hy⟩
  rw[h];cases p (.node k t ks xs) <;> cases q (.node k t ks xs) <;> simp) x
theorem no7_sort(x:Tree):Xc nodeB x=true->Xc no7 (sortT x)=Xc no7 x:=Tree.ind (Q:=λx=>Xc nodeB x=true->Xc no7 (sortT x)=Xc no7 x) (λk t ks xs ih hx=>by
  obtain⟨hn,hxs⟩:=Ee hx;have hs:(If xs).all (Xc no7)=xs.all (Xc no7):=by
    rw[Rg,List.all_map,Bool.eq_iff_iff,List.all_eq_true,List.all_eq_true];refine⟨λg y hy=>?_,λg y hy=>?_⟩
    ·have:=g y hy;simp only[Function.comp_apply]at this;rwa [ih y hy (hxs y hy)]at this
    simp only[Function.comp_apply];rw[ih y hy (hxs y hy)];exact g y hy
  rw[X1];split
  ·rename_i h6
   subst h6;obtain⟨nd,len⟩:=Gr hn;rw[Xc,Xc,Nj,Nj,all_perm _ (JB nd len),hs];rfl
  rw[Xc, Xc, Nj, Nj, hs];rfl) x
theorem Gv(x:Tree):Yd x=(Kd x&&Xc no7 x):=by
  have h:Xc rnodeB x=(Xc no7 x&&Xc nodeB x):=PX no7 nodeB x;rw[Yd,Kd,h];cases Im x <;> cases Xc no7 x <;> simp
theorem Jf{x:Tree}(h:Yd x=true):Kd x=true:=by
  rw[Gv,Bool.and_eq_true]at h;exact h.1
theorem QT:Kd zeroT=false:=by kernel_rfl
theorem As(x:Tree):Yd (Od x)=Yd x:=by
  by_cases h:Kd x=true
  ·rw[Ak h,Gv,Gv,VS h,h,no7_sort x (Yi h)]
  rw[Od,if_neg h,Gv,Gv,QT,Bool.eq_false_iff.2 h];rfl
theorem ZH(x:Tree)(h:Qb x<=1000000000):Qb (Od x)<=1000000000:=by
  by_cases ho:Kd x=true
  ·rw[Ak ho,(C9 x (Yi ho)).1];exact h
  rw[Od,if_neg ho];decide
theorem ZF(x:Tree):Be (Od x)<=Be x:=by
  by_cases ho:Kd x=true
  ·rw[Ak ho];exact MY x
  rw[Od, if_neg ho];have:Be zeroT=0:=by decide
  omega
open Go.RowKit
structure Sd where
  has:Bool
  val:Tree
structure Cf where
  path:List Str
  cls:Int
  b:Sd
  l:Sd
  r:Sd
def noS:Sd:=⟨false,zeroT⟩
def Sp(n:Nat):Str:=Tf (I2 n)
def AH(n:Nat):Tree:=.node 7 (Sp n) [] []
def Mk(s:Sd):Sd:=if s.has=true then ⟨true,Iu s.val⟩ else noS
def Qj(c:Cf)(p:Int):Sd × Bool:=if p=0 then (Mk c.b,true) else if p=1 then (Mk c.l,true) else if p=2 then (Mk c.r,true) else (noS,false)
mutual
def Ng:Tree->List Str
  | .node k t _ xs=>(if k=7 then [t] else [])++Bi xs
def Bi:List Tree->List Str
  | []=>[]
  | x::xs=>Ng x++Bi xs
end
def O1(s:Sd)(cls:Int):Bool:=!s.has || (Yd s.val&&(decide (cls≠5) || decide (s.val.kind=5)))
def T8(c:Cf):Bool:=O1 c.b c.cls&&(O1 c.l c.cls&&O1 c.r c.cls)
def noC:Cf:=⟨[],0,noS,noS,noS⟩
def Wr(v:Tree)(l:List Cf)(pick:List Int):Bool :=
  decide (l.length=pick.length)&&(decide ((Ng v).eraseDups.length=l.length) &&
    (List.range l.length).all λi=>decide ((Ng v).count (Sp i)=1)&&(T8 (l.getD i noC)&&(Qj (l.getD i noC) (pick.getD i 0)).2))
def Aj(v:Tree):Int:=if v.kind≠7 then -1 else if (Fc v.text).2≠0 then -1 else (Er (Fc v.text).1).1
def Bt(l:List Cf)(pick:List Int)(i:Int):Sd:=(Qj (l.getD i.toNat noC) (pick.getD i.toNat 0)).1
def Ms(l:List Cf)(k:Int)(key:Str)(h:Int)(s:Sd):List Str × List Tree :=
  if s.has=true then
    if k=6 then ([key],[s.val])
    else if 0<=h/\(l.getD h.toNat noC).cls=5 then ([],s.val.items)
    else ([],[s.val])
  else ([],[])
mutual
def Kf(l:List Cf)(pick:List Int):Tree->Sd
  | .node k t ks xs =>
    if 0<=Aj (.node k t ks xs) then Bt l pick (Aj (.node k t ks xs))
    else ⟨true,.node k t (Ii l pick k ks xs).1 (Ii l pick k ks xs).2⟩
def Ii(l:List Cf)(pick:List Int)(k:Int):List Str->List Tree->List Str × List Tree
  | _,[]=>([],[])
  | ks, x :: xs =>
    let a:=Ms l k (ks.headD []) (Aj x) (Kf l pick x)
    let b:=Ii l pick k ks.tail xs
    (a.1++b.1,a.2++b.2)
end
def Fk(v:Tree)(l:List Cf)(pick:List Int):Tree × Int :=
  if Kd v=true/\Wr v l pick=true then
    let s:=Kf l pick v
    if s.has=true then (if Yd s.val=true then (s.val,0) else (zeroT,1)) else (zeroT,8)
  else (zeroT,1)
def numOk(i:Nat):Bool:=decide ((Fc (Sp i)).2=0)&&(decide ((Fc (Sp i)).1=I2 i)&&(decide (Er (I2 i)=((i:Int),true))&&decide ((Sp i).length<=20)))
theorem num_all:(List.range 1000).all numOk=true:=by kernel_rfl
theorem num_is{i:Nat}(h:i<1000):(Fc (Sp i)).2=0/\(Fc (Sp i)).1=I2 i/\Er (I2 i)=((i:Int),true)/\(Sp i).length<=20:=by
  have:=List.all_eq_true.1 num_all i (List.mem_range.2 h);simpa[numOk]using this
theorem PK{i:Nat}(h:i<1000):Aj (AH i)=i:=by
  obtain⟨h1,h2,h3,-⟩:=num_is h;show (if (7:Int)≠7 then (-1:Int) else if (Fc (Sp i)).2≠0 then -1 else (Er (Fc (Sp i)).1).1)=_;rw[if_neg Ab,if_neg (by rw[h1];decide),h2,h3]
theorem Ox(v:Tree):Dc v.items+1<=Qb v:=by cases v;rw[Qb];simp only[Tree.items];omega
theorem M9{M:Nat}{x:Tree}(h:Be x<=M):∀y∈x.items,Be y<=M:=λy hy=>by
  cases x with
  | node k t ks xs =>
    have:=Oj (show y∈xs from hy);rw[Be]at h;omega
theorem AF{M:Nat}{x:Tree}(h:Be x<=M):∀k∈x.keys,k.length<=M:=λk hk=>by
  cases x with
  | node _ t ks xs =>
    have:=Wm (show k∈ks from hk);rw[Be]at h;omega
def SdR(s:Sd):Prop:=s=noS\/(s.has=true/\Yd s.val=true)
def CfR(c:Cf):Prop:=SdR c.b/\SdR c.l/\SdR c.r/\(c.cls=5->c.b.val.kind=5/\c.l.val.kind=5/\c.r.val.kind=5)/\1<=c.cls/\c.cls<=6
theorem Ko:∀xs:List Tree,Bi xs=xs.flatMap Ng
  | []=>rfl
  | x::xs=>by rw[Bi,Ko xs,List.flatMap_cons]
theorem SB(q:Tree->Bool)(k:Int)(t:Str)(ks:List Str)(xs:List Tree):Xc q (.node k t ks xs)=(q (.node k t ks xs)&&xs.all (Xc q)):=by rw[Xc,Nj]
open Go.RowKit Go.Proofs Go.Proofs.Tryz
def FE(b:Bool):D:=.lit (.bool b)
def Ve(s:Sd):D:=.agg [FE s.has,Pb s.val]
def L8(c:Cf):D:=.agg [Ni c.path,Mi c.cls,Ve c.b,Ve c.l,Ve c.r]
theorem Dx(s:Sd):Ud (Ve s)=5:=by
  have:=Yc s.val;simp only[Ve,Ud,Ud.sizeL,this,FE]
theorem GZ(c:Cf):Ud (L8 c)=17:=by
  simp only[L8,Ud,Ud.sizeL,Dx,Ni,Mi]
section
variable {S:Nat->Prop}{w:World}
end
section
variable {S:Nat->Prop}{w w' w0:World}{Ds E:List Nat}{pre post bs_ sm sm1:List (Nat × Obj)}{pb:Nat}{RV:Value}{cfs:List Cf}
theorem Rep.side_inv{s:Sd}{cs:List Value}(h:Rep S w (Ve s) cs):∃ct,cs=.bool s.has::ct/\Rep S w (Pb s.val) ct:=by
  unfold Ve at h;rw[Rep]at h;obtain⟨c1,c2,rfl,h1,h2⟩:=RepL.cons_inv h;obtain⟨c3,c4,rfl,h3,h4⟩:=RepL.cons_inv h2;obtain rfl:=RepL.nil_inv h4;unfold FE at h1;rw[Rep]at h1;obtain⟨rfl,-⟩:=h1;exact⟨c3,by simp,h3⟩
theorem Rep.side_mk{s:Sd}{ct:List Value}(h:Rep S w (Pb s.val) ct):Rep S w (Ve s) (.bool s.has::ct):=by
  unfold Ve;rw[Rep];have h1:Rep S w (FE s.has) [.bool s.has]:=by unfold FE;rw[Rep];exact ae1
  have:=RepL.cons_mk h1 (RepL.cons_mk h RepL.nil_mk);simpa using this
theorem Jo:Rep S w (Ve noS) [.bool false,J 0,I [],aQ,aQ]:=Rep.side_mk (s:=noS) (Vn S w)
structure Tv where
  k:Int
  t:Str
  A:Option Addr
  n:Nat
  c:Nat
  B:Option Addr
  m:Nat
  e:Nat
structure Sv where
  h:Bool
  v:Tv
abbrev Tv.cells(x:Tv):List Value:=[J x.k,I x.t,.slice x.A x.n x.c,.slice x.B x.m x.e]
abbrev Sv.cells(x:Sv):List Value:=[.bool x.h,J x.v.k,I x.v.t,.slice x.v.A x.v.n x.v.c,.slice x.v.B x.v.m x.v.e]
abbrev th(x y z:Sv):List Value:=[.bool x.h,J x.v.k,I x.v.t,.slice x.v.A x.v.n x.v.c,.slice x.v.B x.v.m x.v.e,.bool y.h,J y.v.k,I y.v.t,.slice y.v.A y.v.n y.v.c,.slice y.v.B y.v.m y.v.e,.bool z.h,J z.v.k,I z.v.t,.slice z.v.A z.v.n z.v.c,.slice z.v.B z.v.m z.v.e]
def V9:Tv:=⟨0,[],none,0,0,none,0,0⟩
theorem Bj{y:Tree}{cs:List Value}(h:Rep S w (Pb y) cs):∃x:Tv,cs=x.cells/\x.k=y.kind/\x.t=y.text/\x.n=y.keys.length/\x.m=y.items.length:=by
  obtain⟨k,t,ks,xs⟩:=y;obtain⟨A,c,B,e,rfl,-,-,-,-⟩:=h.tree_inv;exact⟨⟨k,t,A,ks.length,c,B,xs.length,e⟩,O,O,O,O,O⟩
theorem Ck{S:Nat->Prop}{w:World}{t:Tree}{x:Tv}(h:Rep S w (Pb t) x.cells):x.k=t.kind/\x.t=t.text/\x.n=t.keys.length/\x.m=t.items.length/\Rep S w (Ni t.keys) [.slice x.A x.n x.c]/\Rep S w (.slice (Pe t.items)) [.slice x.B x.m x.e]:=by
  obtain⟨k,s,ks,xs⟩:=t;obtain⟨A,c,B,e,hq,-,-,h3,h4⟩:=h.tree_inv;simp only[Tv.cells,List.cons.injEq,Value.int.injEq,Value.string.injEq,Value.slice.injEq,true_and,and_true]at hq;obtain⟨e1,e2,e3,e4⟩:=hq;refine⟨e1,XW.1 e2,e3.2.1,e4.2.1,?_,?_⟩
  ·rw[e3.1,e3.2.1,e3.2.2];exact h3
  rw[e4.1,e4.2.1,e4.2.2];exact h4
theorem Sz{s:Sd}{cs:List Value}(h:Rep S w (Ve s) cs):∃x:Sv,cs=x.cells/\x.h=s.has/\x.v.k=s.val.kind/\Rep S w (Pb s.val) x.v.cells:=by
  obtain⟨ct,rfl,h1⟩:=h.side_inv;obtain⟨x,rfl,h2,-⟩:=Bj h1;exact⟨⟨s.has,x⟩,O,O,h2,h1⟩
theorem Se{s:Sd}{x:Sv}(h:Rep S w (Ve s) x.cells):x.h=s.has/\x.v.k=s.val.kind/\x.v.n=s.val.keys.length/\x.v.m=s.val.items.length/\Rep S w (Pb s.val) x.v.cells:=by
  obtain⟨ct,e,h1⟩:=h.side_inv;obtain⟨y,rfl,h2,-,h3,h4⟩:=Bj h1;simp only[List.cons.injEq,Value.bool.injEq,Value.int.injEq,true_and,Value.slice.injEq]at e;obtain⟨e0,e1,e2,e3,e4,-⟩:=e;refine⟨e0,e1.trans h2,e3.2.1.trans h3,e4.2.1.trans h4,?_⟩;have:x.v.cells=y.cells:=by simp only[Tv.cells,e1,e2,e3.1,e3.2.1,e3.2.2,e4.1,e4.2.1,e4.2.2]
  rw[this];exact h1
theorem J5{s:Sd}{x:Tv}(h:Rep S w (Pb s.val) x.cells):Rep S w (Ve s) (Sv.mk s.has x).cells:=Rep.side_mk h
theorem FR.part{bs_:List (Nat × Obj)}(h:FR w0 Ds bs_ w)(i off:Nat){b:Nat}{l l':List Value}{T:TypeId}{fz:Nat × Nat}(hi:bs_[i]? = some (b,.cells l.toArray T fz))(hl:(l.drop off).take l'.length=l') :
    ∀j (hj:j<l'.length),w.cell? ((⟨b,off,none⟩:Addr).add j)=some l'[j]:=λj hj=>by
  have e:(⟨b,off,none⟩:Addr).add j=⟨b,off+j,none⟩:=by unfold Addr.add;split <;> simp_all
  rw[e,Uc (h.heap hi) (off+j)];have h1:(l.drop off)[j]? = some l'[j]:=by
    have:((l.drop off).take l'.length)[j]? = some l'[j]:=by rw[hl];exact List.getElem?_eq_getElem hj
    rw[List.getElem?_take,if_pos hj]at this;exact this
  rw[List.getElem?_drop]at h1;simpa using h1
theorem FR.rowS{w0 w:World}{E:List Nat}{bs_:List (Nat × Obj)}{S:Nat->Prop}{ds:List D}{l:List Value}(hF:FR w0 E bs_ w)(k:Nat){b n:Nat}{T:TypeId}(hi:bs_[k]? = some (b,.cells l.toArray T))(hr:RepL S w ds l)(hn:ds.length=n)(hm:n<=9223372036854775807):Rep (λx=>S x\/x=b) w (.slice ds) [.slice (some ⟨b,0,none⟩) n n] :=
  Rep.slice_mk hn.symm (gQ _) hm λ_=>⟨_,rfl,l,λj hj=>⟨hF.cellsAll k hi j hj,.inr rfl⟩,RepL.weaken (λ_ h _=>.inl h) hr⟩
theorem FR.repE{w0 w:World}{Dz:List Nat}{bs_:List (Nat × Obj)}{S:Nat->Prop}{d:D}{cs:List Value}(hF:FR w0 Dz bs_ w)(hS:∀b,S b->b<w0.heap.size/\b∉Dz)(h:Rep S w0 d cs):Rep S w d cs:=h.same hF.same λb hb hs=>(hS b hs).2 hb
theorem Rep.low{S:Nat->Prop}{w:World}{d:D}{cs:List Value}(h:Rep S w d cs):Rep (λb=>b<w.heap.size) w d cs:=h.weaken λ_ _ hl=>hl
def wE(w:World):World:={ w with heap:=#[] }
theorem RX.base{i:List Nat}{ds:List D}{cs:List Value}{u:World}(h:RX w0 i w ds cs)(hu:u.heap.size<=w0.heap.size):RX u i w ds cs:=RepL.weaken (λ_ hb _=>⟨fQ hu hb.1,hb.2⟩) h
theorem RX.empty{i:List Nat}{ds:List D}{cs:List Value}(h:RX w0 i w ds cs)(u:World):RX (wE u) i w ds cs:=h.base (Nat.zero_le _)
def ids(sm:List (Nat × Obj)):List Nat:=sm.map (·.1)
theorem RX.grow{u w w':World}{i:List Nat}{sl sl':List (Nat × Obj)}{ds:List D}{cs:List Value}(h:RX u i w ds cs)(hE:Same (sl.map (·.1)) w w')(hn:∀p∈sl',p.1∈sl.map (·.1)\/w.heap.size<=p.1)(hi:∀x∈sl.map (·.1),x∈i):RX u (i++ids sl') w' ds cs :=
  h.step hE hi λx hx=>by
    rcases mQ.1 hx with h1|h1
    ·exact .inl h1
    obtain⟨p, hp, rfl⟩ := nQ.1 h1;rcases hn p hp with h2|h2
    ·exact .inl (hi _ h2)
    exact .inr h2
structure Mx (i:List Nat) (w:World) (sm:List (Nat × Obj)) (pb:Nat) (RV:Value) (cfs:List Cf):Prop where
  ex:∃(A:Option Addr)(c:Nat)(sl:List (Nat × Obj))(vals:List Value),sm=(pb,.cells #[RV,.slice A cfs.length c] 0)::sl/\SlB 29 17 A cfs.length c vals sl/\RX (wE w) i w (cfs.map L8) vals
section
variable {i i':List Nat}
theorem Mx.step(h:Mx i w sm pb RV cfs)(hs:Same E w w')(he:∀b∈E,b∈i)(hi:∀x∈i',x∈i\/w.heap.size<=x):Mx i' w' sm pb RV cfs:=by
  obtain⟨A,c,sl,vals,h1,h2,h3⟩:=h.ex;exact⟨A,c,sl,vals,h1,h2,(h3.step hs he hi).empty w'⟩
theorem Mx.ext(h:Mx i w sm pb RV cfs)(hs:Same [] w w'):Mx i w' sm pb RV cfs:=h.step hs Ma (λ_ hx=>.inl hx)
theorem Mx.store(h:Mx i w sm pb RV cfs)(hs:Same E w w')(he:∀b∈E,b∈i):Mx i w' sm pb RV cfs:=h.step hs he (λ_ hx=>.inl hx)
theorem Mx.alloc{b:Nat}(h:Mx i w sm pb RV cfs)(hs:Same [] w w')(hb:b=w.heap.size):Mx (b::i) w' sm pb RV cfs :=
  h.step hs Ma (λx hx=>by rcases oQ.1 hx with rfl|hx;exact .inr Aa;exact .inl hx)
theorem Mx.sub(h:Mx i w sm pb RV cfs)(hi:∀x∈i',x∈i):Mx i' w sm pb RV cfs:=h.step (Same.refl [] w) Ma (λx hx=>.inl (hi x hx))
theorem SlB.typ1{e m n c:Nat}{A:Option Addr}{xs:List Value}{sb:List (Nat × Obj)}(h:SlB e m A n c xs sb):sb.length<=1/\∀q∈sb,∃cur,q.2=.cells cur e:=by
  rcases h.2 with ⟨-,-,rfl⟩|⟨g,cur,-,rfl,-⟩
  ·exact⟨by simp,λq hq=>by cases hq⟩
  exact⟨by simp,λq hq=>by simp only[pQ]at hq;subst hq;exact⟨cur,rfl⟩⟩
theorem Mx.pw(h:Mx i w sm pb RV cfs)(hh:∀q∈sm,w.heap[q.1]? = some q.2):sm.Pairwise (λp q=>q.1≠p.1):=by
  obtain⟨A,c,sl,vals,rfl,h2,-⟩:=h.ex;refine List.pairwise_cons.2 ⟨λq hq e=>?_,h2.pw⟩;obtain⟨cur,e2⟩:=h2.typ1.2 q hq;have h5:=hh q (by simp[hq]);have h6:=hh _ List.mem_cons_self;have e':q.1=pb:=e;rw[e',h6,e2]at h5;have:=lQ h5;simp at this
theorem Mx.start(h:Mx i w sm pb RV cfs)(hh:∀q∈sm,w.heap[q.1]? = some q.2):FR w (ids sm) ([]++(sm++[])) w:=by
  rw[List.nil_append,qQ];exact⟨.refl _ _,λq hq=>⟨hh q hq,.inr (List.mem_map_of_mem hq)⟩,h.pw hh⟩
theorem Mx.box(h:Mx i w sm pb RV cfs)(hh:∀q∈sm,w.heap[q.1]? = some q.2):∃(A:Option Addr)(c:Nat),w.heap[pb]? = some (.cells #[RV,.slice A cfs.length c] 0):=by
  obtain⟨A,c,sl,vals,rfl,-,-⟩:=h.ex;exact⟨A,c,hh _ List.mem_cons_self⟩
structure Mc (w:World) (sm:List (Nat × Obj)) (w':World) (sm':List (Nat × Obj)):Prop where
  same:Same (ids sm) w w'
  fresh:∀q∈sm',w.heap.size<=q.1\/q.1∈ids sm
theorem FR.segs_of(hF:FR w0 Ds (pre++(sm++post)) w):∀q∈sm,w.heap[q.1]? = some q.2/\(w0.heap.size<=q.1\/q.1∈Ds):=λq hq=>hF.own q (by simp[hq])
theorem FR.hh(hF:FR w0 Ds bs_ w)(hsp:Spl bs_ pre sm post:=by repeat (first|exact Spl.z|apply Spl.c|apply Spl.a)):∀q∈sm,w.heap[q.1]? = some q.2:=by
  rw[hsp.eq]at hF;exact λq hq=>(hF.segs_of q hq).1
def Nq(w:World)(sm':List (Nat × Obj))(w':World)(x:Nat):Prop:=Btw w w' x/\x∉ids sm'
theorem RX.swap{j:List Nat}{u:World}{ds:List D}{cs:List Value}(h:RX u i w ds cs)(hE:Mc w sm w' sm1)(hi:∀x∈ids sm,x∈i)(hj:∀x∈j,x∈i\/x∈ids sm1):RX u j w' ds cs :=
  h.step hE.same hi λx hx=>by
    rcases hj x hx with h1|h1
    ·exact .inl h1
    obtain⟨q, hq, rfl⟩ := nQ.1 h1;rcases hE.fresh q hq with h2|h2
    ·exact .inr h2
    exact .inl (hi _ h2)
theorem RX.nq{d:D}{cs:List Value}(h:RX w0 i w [d] cs)(hi:∀x∈ids sm,x∈i):Rep (Nq w0 sm w) w d cs:=h.rep.weaken λ_ hb _=>⟨⟨hb.1,hb.2.1,hb.2.2.2⟩,λhm=>hb.2.2.1 (hi _ hm)⟩
def Off(S:Nat->Prop)(w0:World)(sm:List (Nat × Obj)):Prop:=∀b,S b->b<w0.heap.size/\b∉ids sm
theorem Off.or{S':Nat->Prop}(h:Off S w sm)(h':Off S' w sm):Off (λb=>S b\/S' b) w sm:=λb hb=>hb.elim (h b) (h' b)
end
end
end Go.Scarf
namespace Go.Scarf
open Go.RowKit Go.Proofs Go.Proofs.Tryz
set_option maxRecDepth 100000
section
variable {H:Type}{enc:TypeId × Value->H}{W:World}{base:Nat}{sp:Nat->Bool}{held:Bool}
open Go.ChangeShapes Go.WideShapes Go.ChangeAt Go.Lib Go.Shelf
theorem cs27:prog.cellsOf 27=5:=by kernel_rfl
theorem cs29:prog.cellsOf 29=17:=by kernel_rfl
theorem cs4:prog.cellsOf 4=1:=by kernel_rfl
theorem CD{fuel:Nat}{cs:List Value}{x:DataW H × List MemPlace}(h:DataW.trod enc prog W base sp held fuel 27 cs=some x):∃q:Sd,Rep (λ_=>True) W (Ve q) cs:=by
  obtain⟨xs,n,rfl,-,hcl,hxl,hf⟩:=DataW.trod_struct underlying27 h;have hcl':cs.length=5:=hcl.trans cs27;have get:∀(i:Nat)(hi:i<2),xs[i]? = some (xs[i]'(by rw[hxl];exact hi)):=λi hi=>List.getElem?_eq_getElem _;have h0:=(hf 0 _ rfl).trans (get 0 Aa);have h1:=(hf 1 _ rfl).trans (get 1 Aa);obtain⟨b,hb,-⟩:=DataW.trod_bool dX h0;obtain⟨t,ht⟩:=tree_of _ _ _ h1;have ht':Rep (λ_=>True) W (Pb t) ((cs.drop 1).take (prog.cellsOf 25)):=ht;have hb':(cs.drop 0).take (prog.cellsOf 4)=[.bool b]:=hb;refine⟨⟨b,t⟩,?_⟩;have e:cs=[.bool b]++(cs.drop 1).take (prog.cellsOf 25):=by
    rw[<-hb',cs4,cs25]
    match cs,hcl' with
    | [_,_,_,_,_],_=>rfl
  rw[e];exact Rep.side_mk (s:=⟨b,t⟩) ht'
theorem cf_of{fuel:Nat}{cs:List Value}{x:DataW H × List MemPlace}(h:DataW.trod enc prog W base sp held fuel 29 cs=some x):∃q:Cf,Rep (λ_=>True) W (L8 q) cs:=by
  obtain⟨xs,n,rfl,-,hcl,hxl,hf⟩:=DataW.trod_struct underlying29 h;have hcl':cs.length=17:=hcl.trans cs29;have get:∀(i:Nat)(hi:i<5),xs[i]? = some (xs[i]'(by rw[hxl];exact hi)):=λi hi=>List.getElem?_eq_getElem _;have h0:=(hf 0 _ rfl).trans (get 0 Aa);have h1:=(hf 1 _ rfl).trans (get 1 Aa);have h2:=(hf 2 _ rfl).trans (get 2 Aa);have h3:=(hf 3 _ rfl).trans (get 3 Aa);have h4:=(hf 4 _ rfl).trans (get 4 Aa);obtain⟨a,ha⟩:=Z4 (g:=Cn) yZ cs9 (λn _ cs x h=>ZB h) h0;obtain⟨k,hk⟩:=XO h1;obtain⟨b,hb⟩:=CD h2;obtain⟨l,hl⟩:=CD h3;obtain⟨r,hr⟩:=CD h4;refine⟨⟨a,k,b,l,r⟩,?_⟩;have e:cs=(cs.drop 0).take (prog.cellsOf 22)++((cs.drop 1).take (prog.cellsOf 3)++((cs.drop 2).take (prog.cellsOf 27)++((cs.drop 7).take (prog.cellsOf 27)++((cs.drop 12).take (prog.cellsOf 27)++[])))):=by
    rw[show prog.cellsOf 22=1 by kernel_rfl,cs3,cs27]
    match cs,hcl' with
    | [_,_,_,_,_,_,_,_,_,_,_,_,_,_,_,_,_],_=>rfl
  rw[e];unfold L8;exact Rep.agg_mk (RepL.cons_mk ha (RepL.cons_mk hk (RepL.cons_mk hb (RepL.cons_mk hl (RepL.cons_mk hr RepL.nil_mk)))))
theorem ZN{r:Reach}{b0:Nat}{v:Value}{d:DataW H}{q:List MemPlace}(hv:Value.okWide prog W r b0 29 v)(h:DataW.Trod enc prog W base sp held 29 v d q) :
    ∃(x:Cf)(cs:List Value),v=.agg cs.toArray/\Rep (λ_=>True) W (L8 x) cs:=by
  obtain⟨cs,rfl,-⟩:=okWide_struct underlying29 hv;obtain⟨fuel,hf⟩:=h;obtain⟨t,ht⟩:=cf_of hf;exact⟨t,cs.toList,O,ht⟩
theorem rec29:prog.readableRec 29=true:=by kernel_rfl
theorem row29:29<prog.types.size:=of_decide_eq_true Ub
end
end Go.Scarf
namespace Go.Scarf
open Go.RowKit Go.Proofs Go.Proofs.Tryz
def JZ(x:Tree)(ind d:Int):Prop:=Yd x=true/\(0<=ind/\ind<=8)/\(0<=d/\d<=32)
instance (x:Tree) (ind d:Int):Decidable (JZ x ind d):=by unfold JZ;infer_instance
theorem DR{x:Tree}(h:Yd x=true)(hm:Be x<=1073741824)(m:Bool)(ind d:Nat)(hi:ind<=8)(hd:d<=32):(Mg m ind x d).length<=140737488355328:=by
  have h1:=J3 h;have h2:=MS m ind (Be x) 64 x d (gQ _) Aa;have h3:Qb x<=4096:=US (Jf h);have h4:ind*64<=8*64:=Nat.mul_le_mul_right _ hi;have h5:Qb x*(12*Be x+40+2*(ind*64))<=4096*(12*1073741824+40+2*512):=Nat.mul_le_mul h3 Aa;omega
theorem comp_c(x:Tree)(S:Nat->Prop)(w0:World)(cs:List Value)(rx:Rep S w0 (Pb x) cs)(hG:Gl w0)(hsz:Qb x<=1000000000)(hm:Be x<=1073741824):Calls prog 54 #[.agg cs.toArray] w0 (Dd λv w'=>v=.tuple #[I (Yk x),J (Lq x)]/\Same [] w0 w'):=by
  refine El (BR x S w0 cs rx hG (Ln x Aa) (okQ_max x Aa) hsz (λh=>DR h hm _ _ _ Aa Aa)) λv w' ⟨h1,h2⟩=>⟨?_,h2⟩;rw[h1,Yk,Lq];split <;> rfl
theorem NN(x:Tree)(S:Nat->Prop)(w0:World)(cs:List Value)(rx:Rep S w0 (Pb x) cs)(hG:Gl w0)(hsz:Qb x<=1000000000)(hm:Be x<=1073741824):Calls prog 30 #[.agg cs.toArray] w0 (Dd λv w'=>v=.tuple #[I (Yk (Od x)),J (Lq (Od x))]/\Same [] w0 w'):=by
 have hl:cs.length=4:=rx.length.trans (Yc x);have ho:=rx.one_;refine Ia func30 O ntmps30 Eb (Yb _) ?_;have hF:=FR.start w0 [];refine Ea (Jm (v:=.agg (List.toArray cs)) (cs:=(List.toArray cs)) hF O O ?_);rintro b1 w hb1 hF -;refine Ba (Fd O) (Ba (Gb O) (Rb (Ka (v:=.agg (List.toArray cs)) (Wa (l:=cs) aZ nZ O hl (hF.cellsAll 0 O)) ?_)));refine Lb (OQ x hsz _ _ cs (hF.rep rx) (Ln x Aa) (hG.ext hF.same)) (Na en_55 O O) ?_;rintro _ w ⟨c1,rfl,hRt,hE⟩;have hlc1:c1.length=4:=hRt.length.trans (Yc _);have hoc1:=hRt.one_;have hX1:=RX.made (ids:=[b1]) hF.same.size (λx hx=>hF.lt_ids (by grind)) hRt;have hF:=hF.ext hE;clear hE hRt;refine Oa hF (comp_c (Od x) _ _ c1 hX1.rep (hG.ext hF.same) (ZH x hsz) (fQ (ZF x) hm)) (Na en_54 O O) ?_;intro w hF;refine Ba (Iy O O) (Ba (Tj O O) (Ba (Fd O) (Ba (Gb O) (Da ?_))));refine Va (Ua (Ja (Ic (v:=I (Yk (Od x))) (x:=J (Lq (Od x))) O O O) ?_));exact⟨O,hF.same⟩
def nq(q:Bool)(c:UInt8):Bool:=if c=34 then !q else q
def BE(q:Bool)(c:UInt8)(l:Str):Str:=if nq q c=true\/(c≠32/\c≠10) then c::l else l
def Gp:Bool->Str->Str
  | _,[]=>[]
  | q,[c]=>BE q c []
  | q,c::d::r=>if q=true/\c=92 then c::d::Gp q r else BE q c (Gp (nq q c) (d::r))
theorem rep_leaf(k:Int)(t:Str)(hk:-9223372036854775808<=k/\k<=9223372036854775807)(ht:t.length<=9223372036854775807)(w:World):Rep (λ_=>True) w (Pb (.node k t [] [])) [J k,I t,aQ,aQ]:=Rep.tree_mk (ks:=[]) (xs:=[]) hk ht (Rep.nil_slice 0 Aa none) (Rep.nil_slice 0 Aa none)
end Go.Scarf
