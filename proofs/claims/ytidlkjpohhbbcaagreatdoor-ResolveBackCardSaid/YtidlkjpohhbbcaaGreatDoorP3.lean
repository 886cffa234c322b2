/- A part of the proof. -/
import Derived.Test.YtidlkjpohhbbcaaGreatDoorBd
import Derived.Test.YtidlkjpohhbbcaaGreatDoorP1
import Derived.Test.YtidlkjpohhbbcaaGreatDoorRow
set_option linter.all false
set_option maxHeartbeats 8000000
set_option maxRecDepth 10000
namespace Go.Scarf
theorem VQ:∀{xs:List Tree},(∀x∈xs,PQ x)->SN xs
  | [],_=>by rw[SN];trivial
  | x::xs,h=>by rw[SN];exact⟨h x La,VQ (λy hy=>h y (by simp[hy]))⟩
mutual
def Ad:Tree->Nat|.node _ t ks xs=>max t.length (max (Di ks) (Jh xs))
def Jh:List Tree->Nat|[]=>0|x::xs=>max (Ad x) (Jh xs)
def Di:List Str->Nat|[]=>0|k::ks=>max k.length (Di ks)
end
theorem Oo:∀{ks:List Str}{k:Str},k∈ks->k.length<=Di ks
  | y :: ys, k, h => by
    rw[Di];rcases oQ.1 h with rfl|h
    ·omega
    have:=Oo h;omega
theorem Kl:∀{xs:List Tree}{x:Tree},x∈xs->Ad x<=Jh xs
  | y :: ys, k, h => by
    rw[Jh];rcases oQ.1 h with rfl|h
    ·omega
    have:=Kl h;omega
theorem St{n:Nat}:∀{ks:List Str},(∀k∈ks,k.length<=n)->Di ks<=n
  | [],_=>by rw[Di];omega
  | k :: ks, h => by
    rw[Di];have h1:=h k La;have h2:=St (λy hy=>h y (by simp[hy]):∀k∈ks,k.length<=n);omega
theorem Pp{n:Nat}:∀{xs:List Tree},(∀x∈xs,Ad x<=n)->Jh xs<=n
  | [],_=>by rw[Jh];omega
  | k :: ks, h => by
    rw[Jh];have h1:=h k La;have h2:=Pp (λy hy=>h y (by simp[hy]):∀x∈ks,Ad x<=n);omega
theorem okQ_max(x:Tree):Ad x<=17592186044416->PQ x:=Tree.ind (Q:=λx=>Ad x<=17592186044416->PQ x) (λk t ks xs ih h=>by
  rw[Ad]at h;rw[PQ];exact⟨by omega,λk hk=>by have:=Oo hk;omega,VQ λy hy=>ih y hy (by have:=Kl hy;omega)⟩) x
theorem Rk(x:Tree):Ad x<=17592186044416->Wp x:=Tree.ind (Q:=λx=>Ad x<=17592186044416->Wp x) (λk t ks xs ih h=>by
  rw[Ad]at h;rw[Wp];exact⟨by omega,λk hk=>by have:=Oo hk;omega,O3 λy hy=>ih y hy (by have:=Kl hy;omega)⟩) x
theorem H9(x:Tree):Cl x=true->Ad x<=2048:=Tree.ind (Q:=λx=>Cl x=true->Ad x<=2048) (λk t ks xs ih h=>by
  rw[Cl,Bool.and_eq_true,Bool.and_eq_true,decide_eq_true_eq,List.all_eq_true]at h;rw[Ad];have h1:Di ks<=2048:=St λk hk=>by have:=h.1.2 k hk;simp only[decide_eq_true_eq]at this;omega
  have key:∀ys:List Tree,(∀y∈ys,y∈xs)->Zp ys=true->Jh ys<=2048:=by
    intro ys
    induction ys with
    | nil=>intro _ _;rw[Jh];omega
    | cons y ys ihy =>
      intro hm hs;rw[Zp,Bool.and_eq_true]at hs;rw[Jh];have a:=ih y (hm y La) hs.1;have b:=ihy (λz hz=>hm z (by simp[hz])) hs.2;omega
  have h2:=key xs (λ_ h=>h) h.2;omega) x
theorem JX(x:Tree):Ad (sortT x)<=Ad x:=Tree.ind (Q:=λx=>Ad (sortT x)<=Ad x) (λk t ks xs ih=>by
  have hs:∀y∈Jf xs,Ad y<=Jh xs:=by
    intro y hy;rw[Yg]at hy;obtain⟨z,hz,rfl⟩:=nQ.1 hy;exact fQ (ih z hz) (Kl hz)
  rw[sortT];split
  ·rw[Ad, Ad]
   have h1:Di (Hj ks)<=Di ks:=St λk hk=>Oo (Br.1 hk);have h2:Jh ((Hj ks).map λkey=>(Bg ks (Jf xs) key).getD (.node 0 [] [] []))<=Jh xs:=Pp λy hy=>by
     obtain⟨key,_,rfl⟩:=nQ.1 hy;cases hl:Bg ks (Jf xs) key with
     | none=>simp[Ad,Di,Jh]
     | some z=>exact hs z (Tq hl)
   omega
  rw[Ad, Ad];have h2:=Pp hs;have h3:Di []=0:=by rw[Di]
  omega) x
theorem Ky(m:Bool)(ind d:Nat)(D:Nat)(hD:d+1<=D):∀(ps:List Str)(b:Bool),(Zc m ind d b ps).length<=(ps.map λp=>p.length+(2+ind*D)).sum
  | [],b=>by rw[Zc];simp
  | p :: ps, b => by
    have h1:=Ky m ind d D hD ps false;have h2:=Uy m ind (d+1);have h3:ind*(d+1)<=ind*D:=Nat.mul_le_mul_left _ hD;have h4:(if b=true then ([]:Str) else [44]).length<=1:=by split <;> simp
    rw[Zc,List.map_cons,List.sum_cons];simp only[dQ];omega
theorem OS(m:Bool)(ind L D:Nat)(x:Tree):∀d,Ad x<=L->d+Hd x<=D->(Wc m ind x d).length+(6*L+6+ind*D)<=Db x*(12*L+40+2*(ind*D)) :=
  Tree.ind (Q:=λx=>∀d,Ad x<=L->d+Hd x<=D->(Wc m ind x d).length+(6*L+6+ind*D)<=Db x*(12*L+40+2*(ind*D))) (λk t ks xs ih d hL hd=>by
  rw[Ad]at hL;rw[Hd]at hd;have hq:=D_ t;have hl:=Uy m ind d;have hid:ind*d<=ind*D:=Nat.mul_le_mul_left _ Aa;have key1:∀ys:List Tree,(∀y∈ys,y∈xs)->((Ef m ind ys (d+1)).map λp=>p.length+(2+ind*D)).sum<=Nb ys*(12*L+40+2*(ind*D)):=by
    intro ys
    induction ys with
    | nil=>intro _;simp[Ef]
    | cons y ys ihy =>
      intro hm;have h1:=ih y (hm y La) (d+1) (by have:=Kl (hm y La);omega) (by have:=Vg (hm y La);omega);have h2:=ihy (λz hz=>hm z (by simp[hz]));rw[Ef,List.map_cons,List.sum_cons,Nb,Nat.add_mul];omega
  have key2:∀(ys:List Tree)(js:List Str),(∀y∈ys,y∈xs)->(∀k∈js,k.length<=L)->((Gf m ind ys js (d+1)).map λp=>p.length+(2+ind*D)).sum<=Nb ys*(12*L+40+2*(ind*D)):=by
    intro ys
    induction ys with
    | nil=>intro _ _ _;simp[Gf]
    | cons y ys ihy =>
      intro js hm hj;have h1:=ih y (hm y La) (d+1) (by have:=Kl (hm y La);omega) (by have:=Vg (hm y La);omega);have h2:=ihy js.tail (λz hz=>hm z (by simp[hz])) (λk hk=>hj k (List.mem_of_mem_tail hk));have h3:(js.headD []).length<=L:=by
        cases js with
        | nil=>simp
        | cons a b=>exact hj a La
      have h4:=D_ (js.headD []);have h5:(if m=true then ([32]:Str) else []).length<=1:=by split <;> simp
      rw[Gf,List.map_cons,List.sum_cons,Nb,Nat.add_mul];simp only[dQ,kQ,List.length_nil];omega
  have fin:∀(o c:UInt8)(ps:List Str)(N:Nat),(xs=[]->ps=[])->(ps.map λp=>p.length+(2+ind*D)).sum<=N->(Pl m ind d o c ps).length+(6*L+6+ind*D)<=1*(12*L+40+2*(ind*D))+N:=by
    intro o c ps N he hN;have h5:(if ps=[] then ([]:Str) else Ip m ind d).length<=1+ind*D:=by
      split
      ·simp
      omega
    have h6:(Zc m ind d true ps).length<=N:=by
      by_cases hp:ps=[]
      ·subst hp;rw[Zc];simp
      have hx : xs ≠ [] := λh => hp (he h);have h7:1<=Ld xs:=by
        cases xs with
        | nil=>exact absurd rfl hx
        | cons a b => rw[Ld];have : 1 <= Hd a := by (obtain⟨_, _, _, _⟩ := a;rw[Hd];omega)
                      omega
      exact fQ (Ky m ind d D Aa ps true) hN
    rw[Pl];simp only[dQ,kQ,List.length_nil];omega
  rw[Wc,Db,Nat.add_mul];split
  ·simp only[kQ,List.length_nil];omega
  split
  ·omega
  split
  ·exact fin _ _ _ _ (λh=>by rw[h,Ef]) (key1 xs (λ_ h=>h))
  split
  ·exact fin _ _ _ _ (λh=>by rw[h,Gf]) (key2 xs ks (λ_ h=>h) (λk hk=>by have:=Oo hk;omega))
  omega) x
def Bt(x:Tree):Str:=if Ye x=true then Wc false 0 x 0 else []
def Ou(x:Tree):Int:=if Ye x=true then 0 else 1
theorem Yj(q:Tree->Bool):∀xs:List Tree,Ir q xs=xs.all (Zd q)
  | []=>rfl
  | x::xs=>by rw[Ir,Yj q xs];rfl
theorem UX{α:Type}(q:α->Bool){xs ys:List α}(h:xs.Perm ys):xs.all q=ys.all q:=by
  rw[Bool.eq_iff_iff,List.all_eq_true,List.all_eq_true];exact⟨λg y hy=>g y (h.mem_iff.2 hy),λg y hy=>g y (h.mem_iff.1 hy)⟩
def no7(x:Tree):Bool:=decide (x.kind≠7)
theorem CX(p q:Tree->Bool)(x:Tree):Zd (λx=>p x&&q x) x=(Zd p x&&Zd q x):=Tree.ind (Q:=λx=>Zd (λx=>p x&&q x) x=(Zd p x&&Zd q x)) (λk t ks xs ih=>by
  rw[Zd,Zd,Zd,Yj,Yj,Yj];have h:xs.all (Zd λx=>p x&&q x)=(xs.all (Zd p)&&xs.all (Zd q)):=by
    rw[Bool.eq_iff_iff,Bool.and_eq_true,List.all_eq_true,List.all_eq_true,List.all_eq_true];refine⟨λg=>⟨λy hy=>?_,λy hy=>?_⟩,λg y hy=>?_⟩
    ·have:=g y hy;rw[ih y hy,Bool.and_eq_true]at this;exact this.1
    ·have:=g y hy;rw[ih y hy,Bool.and_eq_true]at this;exact this.2
    rw[ih y hy,Bool.and_eq_true];exact⟨g.1 y hy,g.2 y hy⟩
  rw[h];cases p (.node k t ks xs) <;> cases q (.node k t ks xs) <;> simp) x
theorem no7_sort(x:Tree):Zd nodeB x=true->Zd no7 (sortT x)=Zd no7 x:=Tree.ind (Q:=λx=>Zd nodeB x=true->Zd no7 (sortT x)=Zd no7 x) (λk t ks xs ih hx=>by
  obtain⟨hn,hxs⟩:=Zg hx;have hs:(Jf xs).all (Zd no7)=xs.all (Zd no7):=by
    rw[Yg,List.all_map,Bool.eq_iff_iff,List.all_eq_true,List.all_eq_true];refine⟨λg y hy=>?_,λg y hy=>?_⟩
    ·have:=g y hy;simp only[Function.comp_apply]at this;rwa [ih y hy (hxs y hy)]at this
    simp only[Function.comp_apply];rw[ih y hy (hxs y hy)];exact g y hy
  rw[Lm];split
  ·rename_i h6
   subst h6;obtain⟨nd,len⟩:=Iw hn;rw[Zd,Zd,Yj,Yj,UX _ (LE nd len),hs];rfl
  rw[Zd, Zd, Yj, Yj, hs];rfl) x
theorem Ut(x:Tree):Ye x=(Ag x&&Zd no7 x):=by
  have h:Zd rnodeB x=(Zd no7 x&&Zd nodeB x):=CX no7 nodeB x;rw[Ye,Ag,h];cases Qq x <;> cases Zd no7 x <;> simp
theorem Cs{x:Tree}(h:Ye x=true):Ag x=true:=by
  rw[Ut,Bool.and_eq_true]at h;exact h.1
theorem TT:Ag zeroT=false:=by kernel_rfl
theorem UD(x:Tree):Ye (Wd x)=Ye x:=by
  by_cases h:Ag x=true
  ·rw[En h,Ut,Ut,TA h,h,no7_sort x (Nl h)]
  rw[Wd,if_neg h,Ut,Ut,TT,Bool.eq_false_iff.2 h];rfl
theorem DG(x:Tree)(h:Db x<=1000000000):Db (Wd x)<=1000000000:=by
  by_cases ho:Ag x=true
  ·rw[En ho,(P_ x (Nl ho)).1];exact h
  rw[Wd,if_neg ho];decide
theorem AH(x:Tree):Ad (Wd x)<=Ad x:=by
  by_cases ho:Ag x=true
  ·rw[En ho];exact JX x
  rw[Wd, if_neg ho];have:Ad zeroT=0:=by decide
  omega
open Go.RowKit
structure Sd where
  has:Bool
  val:Tree
structure Cf where
  path:List Str
  cls:Int
  b:Sd
  l:Sd
  r:Sd
def noS:Sd:=⟨false,zeroT⟩
def Dp(n:Nat):Str:=Gi (Q8 n)
def QE(n:Nat):Tree:=.node 7 (Dp n) [] []
def Zj(s:Sd):Sd:=if s.has=true then ⟨true,Vt s.val⟩ else noS
def Fj(c:Cf)(p:Int):Sd × Bool:=if p=0 then (Zj c.b,true) else if p=1 then (Zj c.l,true) else if p=2 then (Zj c.r,true) else (noS,false)
mutual
def Fg:Tree->List Str
  | .node k t _ xs=>(if k=7 then [t] else [])++Vh xs
def Vh:List Tree->List Str
  | []=>[]
  | x::xs=>Fg x++Vh xs
end
def E1(s:Sd)(cls:Int):Bool:=!s.has || (Ye s.val&&(decide (cls≠5) || decide (s.val.kind=5)))
def Z8(c:Cf):Bool:=E1 c.b c.cls&&(E1 c.l c.cls&&E1 c.r c.cls)
def noC:Cf:=⟨[],0,noS,noS,noS⟩
def Qr(v:Tree)(l:List Cf)(pick:List Int):Bool :=
  decide (l.length=pick.length)&&(decide ((Fg v).eraseDups.length=l.length) &&
    (List.range l.length).all λi=>decide ((Fg v).count (Dp i)=1)&&(Z8 (l.getD i noC)&&(Fj (l.getD i noC) (pick.getD i 0)).2))
def Qi(v:Tree):Int:=if v.kind≠7 then -1 else if (Uc v.text).2≠0 then -1 else (B8 (Uc v.text).1).1
def Ct(l:List Cf)(pick:List Int)(i:Int):Sd:=(Fj (l.getD i.toNat noC) (pick.getD i.toNat 0)).1
def Vr(l:List Cf)(k:Int)(key:Str)(h:Int)(s:Sd):List Str × List Tree :=
  if s.has=true then
    if k=6 then ([key],[s.val])
    else if 0<=h/\(l.getD h.toNat noC).cls=5 then ([],s.val.items)
    else ([],[s.val])
  else ([],[])
mutual
def Af(l:List Cf)(pick:List Int):Tree->Sd
  | .node k t ks xs =>
    if 0<=Qi (.node k t ks xs) then Ct l pick (Qi (.node k t ks xs))
    else ⟨true,.node k t (Yh l pick k ks xs).1 (Yh l pick k ks xs).2⟩
def Yh(l:List Cf)(pick:List Int)(k:Int):List Str->List Tree->List Str × List Tree
  | _,[]=>([],[])
  | ks, x :: xs =>
    let a:=Vr l k (ks.headD []) (Qi x) (Af l pick x)
    let b:=Yh l pick k ks.tail xs
    (a.1++b.1,a.2++b.2)
end
def Xj(v:Tree)(l:List Cf)(pick:List Int):Tree × Int :=
  if Ag v=true/\Qr v l pick=true then
    let s:=Af l pick v
    if s.has=true then (if Ye s.val=true then (s.val,0) else (zeroT,1)) else (zeroT,8)
  else (zeroT,1)
def numOk(i:Nat):Bool:=decide ((Uc (Dp i)).2=0)&&(decide ((Uc (Dp i)).1=Q8 i)&&(decide (B8 (Q8 i)=((i:Int),true))&&decide ((Dp i).length<=20)))
theorem num_all:(List.range 1000).all numOk=true:=by kernel_rfl
theorem num_is{i:Nat}(h:i<1000):(Uc (Dp i)).2=0/\(Uc (Dp i)).1=Q8 i/\B8 (Q8 i)=((i:Int),true)/\(Dp i).length<=20:=by
  have:=List.all_eq_true.1 num_all i (List.mem_range.2 h);simpa[numOk]using this
theorem FL{i:Nat}(h:i<1000):Qi (QE i)=i:=by
  obtain⟨h1,h2,h3,-⟩:=num_is h;show (if (7:Int)≠7 then (-1:Int) else if (Uc (Dp i)).2≠0 then -1 else (B8 (Uc (Dp i)).1).1)=_;rw[if_neg Oa,if_neg (by rw[h1];decide),h2,h3]
theorem Bm(v:Tree):Nb v.items+1<=Db v:=by cases v;rw[Db];simp only[Tree.items];omega
theorem Lo{M:Nat}{x:Tree}(h:Ad x<=M):∀y∈x.items,Ad y<=M:=λy hy=>by
  cases x with
  | node k t ks xs =>
    have:=Kl (show y∈xs from hy);rw[Ad]at h;omega
theorem EH{M:Nat}{x:Tree}(h:Ad x<=M):∀k∈x.keys,k.length<=M:=λk hk=>by
  cases x with
  | node _ t ks xs =>
    have:=Oo (show k∈ks from hk);rw[Ad]at h;omega
def SdR(s:Sd):Prop:=s=noS\/(s.has=true/\Ye s.val=true)
def CfR(c:Cf):Prop:=SdR c.b/\SdR c.l/\SdR c.r/\(c.cls=5->c.b.val.kind=5/\c.l.val.kind=5/\c.r.val.kind=5)/\1<=c.cls/\c.cls<=6
theorem Yn:∀xs:List Tree,Vh xs=xs.flatMap Fg
  | []=>rfl
  | x::xs=>by rw[Vh,Yn xs,List.flatMap_cons]
open Go.RowKit Go.Proofs Go.Proofs.Tryz
def JF(b:Bool):D:=.lit (.bool b)
def Se(s:Sd):D:=.agg [JF s.has,Jb s.val]
def VJ(c:Cf):D:=.agg [Ci c.path,Ai c.cls,Se c.b,Se c.l,Se c.r]
theorem Ex(s:Sd):Md (Se s)=5:=by
  have:=Xc s.val;simp only[Se,Md,Md.sizeL,this,JF]
theorem OZ(c:Cf):Md (VJ c)=17:=by
  simp only[VJ,Md,Md.sizeL,Ex,Ci,Ai]
section
variable {S:Nat->Prop}{w:World}
end
section
variable {S:Nat->Prop}{w w' w0:World}{Ds E:List Nat}{pre post bs_ sm sm1:List (Nat × Obj)}{pb:Nat}{RV:Value}{cfs:List Cf}
theorem Rep.side_inv{s:Sd}{cs:List Value}(h:Rep S w (Se s) cs):∃ct,cs=.bool s.has::ct/\Rep S w (Jb s.val) ct:=by
  unfold Se at h;rw[Rep]at h;obtain⟨c1,c2,rfl,h1,h2⟩:=RepL.cons_inv h;obtain⟨c3,c4,rfl,h3,h4⟩:=RepL.cons_inv h2;obtain rfl:=RepL.nil_inv h4;unfold JF at h1;rw[Rep]at h1;obtain⟨rfl,-⟩:=h1;exact⟨c3,by simp,h3⟩
theorem Rep.side_mk{s:Sd}{ct:List Value}(h:Rep S w (Jb s.val) ct):Rep S w (Se s) (.bool s.has::ct):=by
  unfold Se;rw[Rep];have h1:Rep S w (JF s.has) [.bool s.has]:=by unfold JF;rw[Rep];exact ae1
  have:=RepL.cons_mk h1 (RepL.cons_mk h RepL.nil_mk);simpa using this
theorem Ho:Rep S w (Se noS) [.bool false,J 0,I [],aQ,aQ]:=Rep.side_mk (s:=noS) (Jn S w)
structure Tv where
  k:Int
  t:Str
  A:Option Addr
  n:Nat
  c:Nat
  B:Option Addr
  m:Nat
  e:Nat
structure Sv where
  h:Bool
  v:Tv
abbrev Tv.cells(x:Tv):List Value:=[J x.k,I x.t,.slice x.A x.n x.c,.slice x.B x.m x.e]
abbrev Sv.cells(x:Sv):List Value:=[.bool x.h,J x.v.k,I x.v.t,.slice x.v.A x.v.n x.v.c,.slice x.v.B x.v.m x.v.e]
abbrev th(x y z:Sv):List Value:=[.bool x.h,J x.v.k,I x.v.t,.slice x.v.A x.v.n x.v.c,.slice x.v.B x.v.m x.v.e,.bool y.h,J y.v.k,I y.v.t,.slice y.v.A y.v.n y.v.c,.slice y.v.B y.v.m y.v.e,.bool z.h,J z.v.k,I z.v.t,.slice z.v.A z.v.n z.v.c,.slice z.v.B z.v.m z.v.e]
def O_:Tv:=⟨0,[],none,0,0,none,0,0⟩
theorem Wh{y:Tree}{cs:List Value}(h:Rep S w (Jb y) cs):∃x:Tv,cs=x.cells/\x.k=y.kind/\x.t=y.text/\x.n=y.keys.length/\x.m=y.items.length:=by
  obtain⟨k,t,ks,xs⟩:=y;obtain⟨A,c,B,e,rfl,-,-,-,-⟩:=h.tree_inv;exact⟨⟨k,t,A,ks.length,c,B,xs.length,e⟩,O,O,O,O,O⟩
theorem Fi{S:Nat->Prop}{w:World}{t:Tree}{x:Tv}(h:Rep S w (Jb t) x.cells):x.k=t.kind/\x.t=t.text/\x.n=t.keys.length/\x.m=t.items.length/\Rep S w (Ci t.keys) [.slice x.A x.n x.c]/\Rep S w (.slice (Ie t.items)) [.slice x.B x.m x.e]:=by
  obtain⟨k,s,ks,xs⟩:=t;obtain⟨A,c,B,e,hq,-,-,h3,h4⟩:=h.tree_inv;simp only[Tv.cells,List.cons.injEq,Value.int.injEq,Value.string.injEq,Value.slice.injEq,true_and,and_true]at hq;obtain⟨e1,e2,e3,e4⟩:=hq;refine⟨e1,UY.1 e2,e3.2.1,e4.2.1,?_,?_⟩
  ·rw[e3.1,e3.2.1,e3.2.2];exact h3
  rw[e4.1,e4.2.1,e4.2.2];exact h4
theorem Sy{s:Sd}{cs:List Value}(h:Rep S w (Se s) cs):∃x:Sv,cs=x.cells/\x.h=s.has/\x.v.k=s.val.kind/\Rep S w (Jb s.val) x.v.cells:=by
  obtain⟨ct,rfl,h1⟩:=h.side_inv;obtain⟨x,rfl,h2,-⟩:=Wh h1;exact⟨⟨s.has,x⟩,O,O,h2,h1⟩
theorem Ze{s:Sd}{x:Sv}(h:Rep S w (Se s) x.cells):x.h=s.has/\x.v.k=s.val.kind/\x.v.n=s.val.keys.length/\x.v.m=s.val.items.length/\Rep S w (Jb s.val) x.v.cells:=by
  obtain⟨ct,e,h1⟩:=h.side_inv;obtain⟨y,rfl,h2,-,h3,h4⟩:=Wh h1;simp only[List.cons.injEq,Value.bool.injEq,Value.int.injEq,true_and,Value.slice.injEq]at e;obtain⟨e0,e1,e2,e3,e4,-⟩:=e;refine⟨e0,e1.trans h2,e3.2.1.trans h3,e4.2.1.trans h4,?_⟩;have:x.v.cells=y.cells:=by simp only[Tv.cells,e1,e2,e3.1,e3.2.1,e3.2.2,e4.1,e4.2.1,e4.2.2]
  rw[this];exact h1
theorem S5{s:Sd}{x:Tv}(h:Rep S w (Jb s.val) x.cells):Rep S w (Se s) (Sv.mk s.has x).cells:=Rep.side_mk h
theorem FR.part{bs_:List (Nat × Obj)}(h:FR w0 Ds bs_ w)(i off:Nat){b:Nat}{l l':List Value}{T:TypeId}{fz:Nat × Nat}(hi:bs_[i]? = some (b,.cells l.toArray T fz))(hl:(l.drop off).take l'.length=l') :
    ∀j (hj:j<l'.length),w.cell? ((⟨b,off,none⟩:Addr).add j)=some l'[j]:=λj hj=>by
  have e:(⟨b,off,none⟩:Addr).add j=⟨b,off+j,none⟩:=by unfold Addr.add;split <;> simp_all
  rw[e,Bc (h.heap hi) (off+j)];have h1:(l.drop off)[j]? = some l'[j]:=by
    have:((l.drop off).take l'.length)[j]? = some l'[j]:=by rw[hl];exact List.getElem?_eq_getElem hj
    rw[List.getElem?_take,if_pos hj]at this;exact this
  rw[List.getElem?_drop]at h1;simpa using h1
theorem FR.rowS{w0 w:World}{E:List Nat}{bs_:List (Nat × Obj)}{S:Nat->Prop}{ds:List D}{l:List Value}(hF:FR w0 E bs_ w)(k:Nat){b n:Nat}{T:TypeId}(hi:bs_[k]? = some (b,.cells l.toArray T))(hr:RepL S w ds l)(hn:ds.length=n)(hm:n<=9223372036854775807):Rep (λx=>S x\/x=b) w (.slice ds) [W b n n] :=
  Rep.slice_mk hn.symm (gQ _) hm λ_=>⟨_,rfl,l,λj hj=>⟨hF.cellsAll k hi j hj,.inr rfl⟩,RepL.weaken (λ_ h _=>.inl h) hr⟩
theorem FR.repE{w0 w:World}{Dz:List Nat}{bs_:List (Nat × Obj)}{S:Nat->Prop}{d:D}{cs:List Value}(hF:FR w0 Dz bs_ w)(hS:∀b,S b->b<w0.heap.size/\b∉Dz)(h:Rep S w0 d cs):Rep S w d cs:=h.same hF.same λb hb hs=>(hS b hs).2 hb
theorem Rep.low{S:Nat->Prop}{w:World}{d:D}{cs:List Value}(h:Rep S w d cs):Rep (λb=>b<w.heap.size) w d cs:=h.weaken λ_ _ hl=>hl
def wE(w:World):World:={ w with heap:=#[] }
theorem RX.base{i:List Nat}{ds:List D}{cs:List Value}{u:World}(h:RX w0 i w ds cs)(hu:u.heap.size<=w0.heap.size):RX u i w ds cs:=RepL.weaken (λ_ hb _=>⟨fQ hu hb.1,hb.2⟩) h
theorem RX.empty{i:List Nat}{ds:List D}{cs:List Value}(h:RX w0 i w ds cs)(u:World):RX (wE u) i w ds cs:=h.base (Nat.zero_le _)
def ids(sm:List (Nat × Obj)):List Nat:=sm.map (·.1)
theorem RX.grow{u w w':World}{i:List Nat}{sl sl':List (Nat × Obj)}{ds:List D}{cs:List Value}(h:RX u i w ds cs)(hE:Same (sl.map (·.1)) w w')(hn:∀p∈sl',p.1∈sl.map (·.1)\/w.heap.size<=p.1)(hi:∀x∈sl.map (·.1),x∈i):RX u (i++ids sl') w' ds cs :=
  h.step hE hi λx hx=>by
    rcases mQ.1 hx with h1|h1
    ·exact .inl h1
    obtain⟨p, hp, rfl⟩ := nQ.1 h1;rcases hn p hp with h2|h2
    ·exact .inl (hi _ h2)
    exact .inr h2
structure Mx (i:List Nat) (w:World) (sm:List (Nat × Obj)) (pb:Nat) (RV:Value) (cfs:List Cf):Prop where
  ex:∃(A:Option Addr)(c:Nat)(sl:List (Nat × Obj))(vals:List Value),sm=(pb,.cells #[RV,.slice A cfs.length c] 0)::sl/\SlB 40 17 A cfs.length c vals sl/\RX (wE w) i w (cfs.map VJ) vals
section
variable {i i':List Nat}
theorem Mx.step(h:Mx i w sm pb RV cfs)(hs:Same E w w')(he:∀b∈E,b∈i)(hi:∀x∈i',x∈i\/w.heap.size<=x):Mx i' w' sm pb RV cfs:=by
  obtain⟨A,c,sl,vals,h1,h2,h3⟩:=h.ex;exact⟨A,c,sl,vals,h1,h2,(h3.step hs he hi).empty w'⟩
theorem Mx.ext(h:Mx i w sm pb RV cfs)(hs:Same [] w w'):Mx i w' sm pb RV cfs:=h.step hs La (λ_ hx=>.inl hx)
theorem Mx.store(h:Mx i w sm pb RV cfs)(hs:Same E w w')(he:∀b∈E,b∈i):Mx i w' sm pb RV cfs:=h.step hs he (λ_ hx=>.inl hx)
theorem Mx.alloc{b:Nat}(h:Mx i w sm pb RV cfs)(hs:Same [] w w')(hb:b=w.heap.size):Mx (b::i) w' sm pb RV cfs :=
  h.step hs La (λx hx=>by rcases oQ.1 hx with rfl|hx;exact .inr Aa;exact .inl hx)
theorem Mx.sub(h:Mx i w sm pb RV cfs)(hi:∀x∈i',x∈i):Mx i' w sm pb RV cfs:=h.step (Same.refl [] w) La (λx hx=>.inl (hi x hx))
theorem SlB.typ1{e m n c:Nat}{A:Option Addr}{xs:List Value}{sb:List (Nat × Obj)}(h:SlB e m A n c xs sb):sb.length<=1/\∀q∈sb,∃cur,q.2=.cells cur e:=by
  rcases h.2 with ⟨-,-,rfl⟩|⟨g,cur,-,rfl,-⟩
  ·exact⟨by simp,λq hq=>by cases hq⟩
  exact⟨by simp,λq hq=>by simp only[pQ]at hq;subst hq;exact⟨cur,rfl⟩⟩
theorem Mx.pw(h:Mx i w sm pb RV cfs)(hh:∀q∈sm,w.heap[q.1]? = some q.2):sm.Pairwise (λp q=>q.1≠p.1):=by
  obtain⟨A,c,sl,vals,rfl,h2,-⟩:=h.ex;refine List.pairwise_cons.2 ⟨λq hq e=>?_,h2.pw⟩;obtain⟨cur,e2⟩:=h2.typ1.2 q hq;have h5:=hh q (by simp[hq]);have h6:=hh _ List.mem_cons_self;have e':q.1=pb:=e;rw[e',h6,e2]at h5;have:=lQ h5;simp at this
theorem Mx.start(h:Mx i w sm pb RV cfs)(hh:∀q∈sm,w.heap[q.1]? = some q.2):FR w (ids sm) ([]++(sm++[])) w:=by
  rw[List.nil_append,qQ];exact⟨.refl _ _,λq hq=>⟨hh q hq,.inr (List.mem_map_of_mem hq)⟩,h.pw hh⟩
theorem Mx.box(h:Mx i w sm pb RV cfs)(hh:∀q∈sm,w.heap[q.1]? = some q.2):∃(A:Option Addr)(c:Nat),w.heap[pb]? = some (.cells #[RV,.slice A cfs.length c] 0):=by
  obtain⟨A,c,sl,vals,rfl,-,-⟩:=h.ex;exact⟨A,c,hh _ List.mem_cons_self⟩
structure Mc (w:World) (sm:List (Nat × Obj)) (w':World) (sm':List (Nat × Obj)):Prop where
  same:Same (ids sm) w w'
  fresh:∀q∈sm',w.heap.size<=q.1\/q.1∈ids sm
theorem FR.segs_of(hF:FR w0 Ds (pre++(sm++post)) w):∀q∈sm,w.heap[q.1]? = some q.2/\(w0.heap.size<=q.1\/q.1∈Ds):=λq hq=>hF.own q (by simp[hq])
theorem FR.hh(hF:FR w0 Ds bs_ w)(hsp:Spl bs_ pre sm post:=by repeat (first|exact Spl.z|apply Spl.c|apply Spl.a)):∀q∈sm,w.heap[q.1]? = some q.2:=by
  rw[hsp.eq]at hF;exact λq hq=>(hF.segs_of q hq).1
def Nq(w:World)(sm':List (Nat × Obj))(w':World)(x:Nat):Prop:=Btw w w' x/\x∉ids sm'
theorem RX.swap{j:List Nat}{u:World}{ds:List D}{cs:List Value}(h:RX u i w ds cs)(hE:Mc w sm w' sm1)(hi:∀x∈ids sm,x∈i)(hj:∀x∈j,x∈i\/x∈ids sm1):RX u j w' ds cs :=
  h.step hE.same hi λx hx=>by
    rcases hj x hx with h1|h1
    ·exact .inl h1
    obtain⟨q, hq, rfl⟩ := nQ.1 h1;rcases hE.fresh q hq with h2|h2
    ·exact .inr h2
    exact .inl (hi _ h2)
theorem RX.nq{d:D}{cs:List Value}(h:RX w0 i w [d] cs)(hi:∀x∈ids sm,x∈i):Rep (Nq w0 sm w) w d cs:=h.rep.weaken λ_ hb _=>⟨⟨hb.1,hb.2.1,hb.2.2.2⟩,λhm=>hb.2.2.1 (hi _ hm)⟩
def Off(S:Nat->Prop)(w0:World)(sm:List (Nat × Obj)):Prop:=∀b,S b->b<w0.heap.size/\b∉ids sm
theorem Off.or{S':Nat->Prop}(h:Off S w sm)(h':Off S' w sm):Off (λb=>S b\/S' b) w sm:=λb hb=>hb.elim (h b) (h' b)
end
end
end Go.Scarf
namespace Go.Scarf
open Go.RowKit Go.Proofs Go.Proofs.Tryz
def pretOk(x:Tree)(ind d:Int):Prop:=Ye x=true/\(0<=ind/\ind<=8)/\(0<=d/\d<=32)
instance (x:Tree) (ind d:Int):Decidable (pretOk x ind d):=by unfold pretOk;infer_instance
theorem BU{x:Tree}(h:Ye x=true)(hm:Ad x<=1073741824)(m:Bool)(ind d:Nat)(hi:ind<=8)(hd:d<=32):(Wc m ind x d).length<=140737488355328:=by
  have h1:=C2 h;have h2:=OS m ind (Ad x) 64 x d (gQ _) Aa;have h3:Db x<=4096:=RS (Cs h);have h4:ind*64<=8*64:=Nat.mul_le_mul_right _ hi;have h5:Db x*(12*Ad x+40+2*(ind*64))<=4096*(12*1073741824+40+2*512):=Nat.mul_le_mul h3 Aa;omega
theorem comp_c(x:Tree)(S:Nat->Prop)(w0:World)(cs:List Value)(rx:Rep S w0 (Jb x) cs)(hG:Gl w0)(hsz:Db x<=1000000000)(hm:Ad x<=1073741824):Calls prog 69 #[.agg cs.toArray] w0 (Oc λv w'=>v=.tuple #[I (Bt x),J (Ou x)]/\Same [] w0 w'):=by
  refine Pj (RR x S w0 cs rx hG (Rk x Aa) (okQ_max x Aa) hsz (λh=>BU h hm _ _ _ Aa Aa)) λv w' ⟨h1,h2⟩=>⟨?_,h2⟩;rw[h1,Bt,Ou];split <;> rfl
theorem CQ(x:Tree)(S:Nat->Prop)(w0:World)(cs:List Value)(rx:Rep S w0 (Jb x) cs)(hG:Gl w0)(hsz:Db x<=1000000000)(hm:Ad x<=1073741824):Calls prog 38 #[.agg cs.toArray] w0 (Oc λv w'=>v=.tuple #[I (Bt (Wd x)),J (Ou (Wd x))]/\Same [] w0 w'):=by
 have hl:cs.length=4:=rx.length.trans (Xc x);have ho:=rx.one_;refine Ea func38 O ntmps38 Bb (Tb _) ?_;have hF:=FR.start w0 [];refine Da (Vn (v:=.agg (List.toArray cs)) (cs:=(List.toArray cs)) hF O O ?_);rintro b1 w hb1 hF -;refine Ba (Xf O) (Ba (Gb O) (Ob (Ia (v:=.agg (List.toArray cs)) (Za (l:=cs) aZ oZ O hl (hF.cellsAll 0 O)) ?_)));refine Ta (YT x hsz _ _ cs (hF.rep rx) (Rk x Aa) (hG.ext hF.same)) (Ma en_70 O O) ?_;rintro _ w ⟨c1,rfl,hRt,hE⟩;have hlc1:c1.length=4:=hRt.length.trans (Xc _);have hoc1:=hRt.one_;have hX1:=RX.made (ids:=[b1]) hF.same.size (λx hx=>hF.lt_ids (by grind)) hRt;have hF:=hF.ext hE;clear hE hRt;refine Qa hF (comp_c (Wd x) _ _ c1 hX1.rep (hG.ext hF.same) (DG x hsz) (fQ (AH x) hm)) (Ma en_69 O O) ?_;intro w hF;refine Ba (L1 O O) (Ba (Nh O O) (Ba (Xf O) (Ba (Gb O) (Ca ?_))));refine Xa (Va (Ka (Jc (v:=I (Bt (Wd x))) (x:=J (Ou (Wd x))) O O O) ?_));exact⟨O,hF.same⟩
end Go.Scarf
