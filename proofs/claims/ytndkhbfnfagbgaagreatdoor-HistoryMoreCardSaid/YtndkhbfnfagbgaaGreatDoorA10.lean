/- A part of the proof. -/
import Derived.Test.YtndkhbfnfagbgaaGreatDoorA7
set_option linter.all false
set_option maxHeartbeats 8000000
set_option maxRecDepth 10000
namespace Go.Scarf
open Go.RowKit
structure Sd where
  has:Bool
  val:Tree
structure Cf where
  path:List Str
  cls:Int
  b:Sd
  l:Sd
  r:Sd
structure Rl where
  pat:List Str
  key:Str
def noS:Sd:=⟨false,zeroT⟩
def Nk:Option Tree->Sd
  | some x=>⟨true,x⟩
  | none=>noS
def Km:Option Tree->Option Tree->Bool
  | some x,some y=>Jp x y
  | none,none=>true
  | _,_=>false
def Rn(n:Nat):Str:=Ip (IG n)
def Lv(n:Nat):Tree:=.node 7 (Rn n) [] []
def QM(s:Str):Str:=61::s
def Sr(g:Nat):Str:=43::Lib.itoa g
structure Mt where
  i:Nat
  k:Nat
  star:Option Nat
  taken:Nat
def RC:Str:=[42,42]
def oneS:Str:=[42]
def mtN(p q:List Str)(m:Mt):Option Mt :=
  if p[m.i]? = some RC then some ⟨m.i+1,m.k,some m.i,m.k⟩
  else if p[m.i]? = some oneS\/(p[m.i]?≠none/\p[m.i]? = q[m.k]?) then some ⟨m.i+1,m.k+1,m.star,m.taken⟩
  else match m.star with
    | some s=>some ⟨s+1,m.taken+1,some s,m.taken+1⟩
    | none=>none
def mtF(p q:List Str):Nat->Mt->Bool
  | 0,_=>false
  | f+1,m=>if m.k<q.length then (match mtN p q m with|some m'=>mtF p q f m'|none=>false) else (p.drop m.i).all λs=>decide (s=RC)
def mtM(p q:List Str)(m:Mt):Nat:=(p.length-(match m.star with|some s=>s|none=>0)+(if m.star=none then 1 else 0))*((q.length+1)*(q.length+1))+(q.length-m.taken)*(q.length+1)+(q.length-m.k)
def FO(p q:List Str):Bool:=decide (p.length<=200)&&(decide (q.length<=200)&&mtF p q 10000000 ⟨0,0,none,0⟩)
def O2(rl:List Rl)(path:List Str):Option Str:=(rl.find? λx=>FO x.pat path).map (·.key)
def AQ(l:List Str):Bool:=decide l.Nodup&&decide (l.length<=256)
def Et(p:List Str)(x y:Str):Int:=if x∈p/\y∈p then Lib.compareInt (p.idxOf x) (p.idxOf y) else 0
def ZW(b l r:List Str)(x y:Str):Option Int :=
  if Et b x y≠0/\(Et l x y = - Et b x y\/Et r x y = - Et b x y) then some (- Et b x y)
  else if Et b x y≠0 then some (Et b x y)
  else if Et l x y*Et r x y<0 then none
  else some (if Et l x y≠0 then Et l x y else Et r x y)
def freeB(b l r:List Str)(rest:List Str)(s:Str):Bool:=rest.all λy=>decide (y=s) || decide (ZW b l r y s≠some (-1))
def F6(b l r:List Str):Nat->List Str->Option (List Str)
  | 0,_=>some []
  | f + 1, rest => match rest.find? (freeB b l r rest)with
    | some s=>(F6 b l r f (rest.erase s)).map (s::·)
    | none=>none
def clashB(b l r names:List Str):Bool:=(List.range names.length).any λi=>(names.take i).any λy=>decide (ZW b l r (names.getD i []) y=none)
def T9(b l r names:List Str):Option (List Str) :=
  if AQ b=true/\AQ l=true/\AQ r=true/\AQ names=true/\clashB b l r names=false then F6 b l r names.length (Cn names) else none
abbrev Mo:=Option Tree × List Cf
def Mw(path:List Str)(cls:Int)(n:Nat)(b l r:Option Tree):Mo:=(some (Lv n),[⟨path,cls,Nk b,Nk l,Nk r⟩])
def Ks:Option Tree->Option Tree->Option Tree->Int
  | none,_,_=>4
  | some x,some y,some z=>if x.kind=y.kind/\x.kind=z.kind then 1 else 2
  | _,_,_=>3
def AW(k:Str):Option Tree->List (Str × Tree)
  | some x=>[(k,x)]
  | none=>[]
def Gn(f:Str->Nat->Mo)(n:Nat)(ks:List Str):Nat->List (Str × Tree) × List Cf
  | 0=>([],[])
  | j + 1 =>
    let a:=Gn f n ks j
    let q:=f (ks.getD j []) (n+a.2.length)
    (a.1++AW (ks.getD j []) q.1,a.2++q.2)
def Ze(x:Tree)(key:Str):Option Tree:=De x.keys x.items key
def Dj(x:Tree)(key id:Str):Option Tree:=if (XH x key id).2=true then some (XH x key id).1 else none
def Gm(path:List Str)(g n:Nat)(p q:List Tree):List Tree × List Cf :=
  if p.length=0 then (q,[]) else if q.length=0\/Jp (.node 5 [] [] p) (.node 5 [] [] q)=true then (p,[])
  else ([Lv n],[⟨path++[Sr g],5,⟨true,.node 5 [] [] []⟩,⟨true,.node 5 [] [] p⟩,⟨true,.node 5 [] [] q⟩⟩])
structure By where
  items:List Tree
  gap:Nat->List Int
  img:Nat->Int
def By.at(y:By)(i:Int):Option Tree:=if i<0 then none else y.items[i.toNat]?
def By.put(y:By)(g:Nat):List Tree:=(y.gap g).filterMap λi=>y.at i
def By.item(y:By)(k:Nat):Option Tree:=y.at (y.img k)
def ML(m:List (Int × Int)):List (Nat × Nat):=m.map λz=>(z.1.toNat,z.2.toNat)
def Ie(base v:List Tree):By :=
  let m:=ML (pth 0 0 (base.map Fi) (v.map Fi))
  ⟨v,Ti base.length v.length m 0 (λ_=>[]),Ot m (λ_=>-1)⟩
def Ii(f:List Str->Nat->Option Tree->Option Tree->Option Tree->Mo)(path:List Str)(n:Nat)(base:List Tree)(x y:By):Nat->List Tree × List Cf
  | 0=>([],[])
  | j + 1 =>
    let a:=Ii f path n base x y j
    let p:=Gm path j (n+a.2.length) (x.put j) (y.put j)
    let q:=f (path++[Lib.itoa j]) (n+(a.2++p.2).length) base[j]? (x.item j) (y.item j)
    (a.1++p.1++q.1.toList,a.2++p.2++q.2)
def KC(f:List Str->Nat->Option Tree->Option Tree->Option Tree->Mo)(path:List Str)(n:Nat)(base:List Tree)(x y:By):Mo :=
  let a:=Ii f path n base x y base.length
  let p:=Gm path base.length (n+a.2.length) (x.put base.length) (y.put base.length)
  (some (.node 5 [] [] (a.1++p.1)),a.2++p.2)
def TO(f:List Str->Nat->Option Tree->Option Tree->Option Tree->Mo)(path:List Str)(n:Nat)(b l r:Tree):Mo :=
  let ks:=Yf [l.keys,r.keys]
  let a:=Gn (λk m=>f (path++[k]) m (Ze b k) (Ze l k) (Ze r k)) n ks ks.length
  (some (.node 6 [] (a.1.map (·.1)) (a.1.map (·.2))),a.2)
def Q5(m:List (Str × Tree))(id:Str):Tree:=(De (m.map (·.1)) (m.map (·.2)) id).getD zeroT
def keyM(f:List Str->Nat->Option Tree->Option Tree->Option Tree->Mo)(path:List Str)(n:Nat)(key:Str)(b l r:Tree):Mo :=
  let ids:=Yf [Uj l key,Uj r key]
  let a:=Gn (λid m=>f (path++[QM id]) m (Dj b key id) (Dj l key id) (Dj r key id)) n ids ids.length
  match T9 (Uj b key) (Uj l key) (Uj r key) (a.1.map (·.1))with
  | some o=>(some (.node 5 [] [] (o.map (Q5 a.1))),a.2)
  | none=>Mw path 6 n (some b) (some l) (some r)
def allK(key:Str)(b l r:Tree):Bool:=(XM b key).isSome&&((XM l key).isSome&&(XM r key).isSome)
def Qs(rl:List Rl)(f:List Str->Nat->Option Tree->Option Tree->Option Tree->Mo)(path:List Str)(n:Nat)(b l r:Tree):Mo :=
  match O2 rl path with
  | some key=>if allK key b l r=true then keyM f path n key b l r else gapM
  | none=>gapM
where gapM:Mo:=if Nh b.items=0/\Nh l.items=0/\Nh r.items=0 then KC f path n b.items (Ie b.items l.items) (Ie b.items r.items) else Mw path 1 n (some b) (some l) (some r)
def I0(rl:List Rl)(f:List Str->Nat->Option Tree->Option Tree->Option Tree->Mo)(path:List Str)(n:Nat):Option Tree->Option Tree->Option Tree->Mo
  | some x, some y, some z =>
    if x.kind=y.kind/\x.kind=z.kind then
      if x.kind=6 then TO f path n x y z else if x.kind=5 then Qs rl f path n x y z else Mw path 1 n (some x) (some y) (some z)
    else Mw path 2 n (some x) (some y) (some z)
  | b,l,r=>Mw path (Ks b l r) n b l r
def Nj(rl:List Rl):Nat->List Str->Nat->Option Tree->Option Tree->Option Tree->Mo
  | 0,_,_,_,l,_=>(l,[])
  | F+1,path,n,b,l,r=>if Km l r=true then (l,[]) else if Km b l=true then (r,[]) else if Km b r=true then (l,[]) else I0 rl (Nj rl F) path n b l r
def ID(x:Rl):Bool:=Lib.validD x.key&&(decide (x.pat.length<=64)&&x.pat.all Lib.validD)
def B4(rl:List Rl):Bool:=decide (rl.length<=32)&&rl.all ID
def finM(q:Mo):Tree × List Cf × Int:=if Di (q.1.getD zeroT)=true then (q.1.getD zeroT,q.2,0) else (zeroT,[],6)
def okM(rl:List Rl)(b l r:Tree):Prop:=Kd b=true/\Kd l=true/\Kd r=true/\B4 rl=true
instance (rl:List Rl) (b l r:Tree):Decidable (okM rl b l r):=inferInstanceAs (Decidable (_/\_/\_/\_))
def Ev(rl:List Rl)(b l r:Tree):Tree × List Cf × Int:=if okM rl b l r then finM (Nj rl 40 [] 0 (some b) (some l) (some r)) else (zeroT,[],1)
def Qv(s:Sd):Sd:=if s.has=true then ⟨true,G5 s.val⟩ else noS
def sideC(c:Cf)(p:Int):Sd × Bool:=if p=0 then (Qv c.b,true) else if p=1 then (Qv c.l,true) else if p=2 then (Qv c.r,true) else (noS,false)
mutual
def UM:Tree->List Str
  | .node k t _ xs=>(if k=7 then [t] else [])++Is xs
def Is:List Tree->List Str
  | []=>[]
  | x::xs=>UM x++Is xs
end
def noC:Cf:=⟨[],0,noS,noS,noS⟩
def R5(v:Tree):Int:=if v.kind≠7 then -1 else if (Vf v.text).2≠0 then -1 else (VH (Vf v.text).1).1
def pickS(l:List Cf)(pick:List Int)(i:Int):Sd:=(sideC (l.getD i.toNat noC) (pick.getD i.toNat 0)).1
def kidF(l:List Cf)(k:Int)(key:Str)(h:Int)(s:Sd):List Str × List Tree :=
  if s.has=true then
    if k=6 then ([key],[s.val])
    else if 0<=h/\(l.getD h.toNat noC).cls=5 then ([],s.val.items)
    else ([],[s.val])
  else ([],[])
mutual
def V5(l:List Cf)(pick:List Int):Tree->Sd
  | .node k t ks xs =>
    if 0<=R5 (.node k t ks xs) then pickS l pick (R5 (.node k t ks xs))
    else ⟨true,.node k t (WN l pick k ks xs).1 (WN l pick k ks xs).2⟩
def WN(l:List Cf)(pick:List Int)(k:Int):List Str->List Tree->List Str × List Tree
  | _,[]=>([],[])
  | ks, x :: xs =>
    let a:=kidF l k (ks.headD []) (R5 x) (V5 l pick x)
    let b:=WN l pick k ks.tail xs
    (a.1++b.1,a.2++b.2)
end
def pre(p:List Str)(c:Cf):Cf:={ c with path:=p++c.path }
theorem FU{x:Tree}{k:Int}{t:Str}{ks:List Str}{xs:List Tree}(h:x∈xs):Cd x<Cd (.node k t ks xs):=by
  rw[Cd];have:∀{xs:List Tree},x∈xs->Cd x<=Ed xs:=fun {xs} h=>by
    induction xs with
    | nil=>cases h
    | cons y ys ih =>
      rw[Ed];rcases oQ.1 h with rfl|h
      ·omega
      have:=ih h;omega
  have:=this h;omega
def On:Option Tree->Nat
  | some x=>Cd x
  | none=>0
theorem EP(x:Tree):1<=Cd x:=by cases x;rw[Cd];omega
theorem S6{x y:Tree}{key:Str}(h:Ze x key=some y):y∈x.items:=Dy h
theorem E9{x y:Tree}{key id:Str}(h:Dj x key id=some y):y∈x.items:=by
  unfold Dj at h;split at h
  ·rename_i h2
   obtain rfl:=lQ h;unfold XH at h2 ⊢;split at h2
   ·rename_i hm
    rw[if_pos hm];have hne:Uj x key≠[]:=λe=>by rw[e]at hm;cases hm
    have h1:=(EK hne).1;have h3:=List.idxOf_lt_length_iff.2 hm;simp only[List.getD,List.getElem?_eq_getElem (show (Uj x key).idxOf id<x.items.length by omega),Option.getD_some];exact eQ _
   cases h2
  cases h
theorem OF{y:By}{i:Int}{x:Tree}(h:y.at i=some x):x∈y.items:=by
  unfold By.at at h;split at h
  ·cases h
  exact List.mem_of_getElem? h
theorem R1{y:By}{g:Nat}{x:Tree}(h:x∈y.put g):x∈y.items:=by
  unfold By.put at h;obtain⟨i,_,hi⟩:=List.mem_filterMap.1 h;exact OF hi
theorem TI{x y:Tree}(h:y∈x.items):Cd y<Cd x:=by cases x;exact FU h
theorem Cy(x:Tree)(key:Str):On (Ze x key)<Cd x:=by
  cases h:Ze x key with
  | none=>exact EP x
  | some y=>exact TI (S6 h)
section
variable {f g:Str->Nat->Mo}{p q:List Str}{n m:Nat}{ks:List Str}
end
abbrev Fm:=List Str->Nat->Option Tree->Option Tree->Option Tree->Mo
end Go.Scarf
namespace Go.Scarf
open Go.RowKit Go.Proofs
def RiseN(n size:Nat):Nat->Nat->List (Nat × Nat)->Prop
  | _,j,[]=>j<=size
  | k,j,z::m=>k<=z.1/\z.1<n/\j<=z.2/\z.2<size/\RiseN n size (z.1+1) (z.2+1) m
def D3:List (Nat × Nat)->Nat->Nat->Nat
  | [],j,_=>j
  | z::m,j,k=>if k<=z.1 then j else D3 m (z.2+1) k
theorem VR{n size:Nat}:∀{m:List (Nat × Nat)}{k0 j k:Nat},RiseN n size k0 j m->k<=k0->D3 m j k=j
  | [],_,_,_,_,_=>rfl
  | z::m,k0,j,k,h,hk=>by rw[D3,if_pos (by have:=h.1;omega)]
theorem KM{n size:Nat}:∀{m:List (Nat × Nat)}{k0 j k:Nat},RiseN n size k0 j m->D3 m j k<=size
  | [],_,_,_,h=>h
  | z :: m, k0, j, k, h => by
    obtain⟨h1,h2,h3,h4,h5⟩:=h;rw[D3];split
    ·omega
    exact KM h5
theorem G7{n size:Nat}:∀{m:List (Nat × Nat)}{k0 j k:Nat}{f:Nat->Int},RiseN n size k0 j m->k<k0->Ot m f k=f k
  | [],_,_,_,_,_,_=>rfl
  | z :: m, k0, j, k, f, h, hk => by
    have h1:=h.1;rw[Ot,G7 h.2.2.2.2 sX,Eu sX]
theorem W3{n size:Nat}:∀{m:List (Nat × Nat)}{k0 j k:Nat}{gp:Nat->List Int},RiseN n size k0 j m->k<k0->k≠n->Ti n size m j gp k=gp k
  | [],_,_,_,_,_,_,hn=>by rw[Ti,Mk hn]
  | z :: m, k0, j, k, gp, h, hk, hn => by
    have h1:=h.1;rw[Ti,W3 h.2.2.2.2 sX hn,Mk sX]
theorem L9{n size:Nat}:∀(m:List (Nat × Nat))(k0 j:Nat)(gp:Nat->List Int)(f:Nat->Int),RiseN n size k0 j m->k0<=n->(∀k,k0<=k->gp k=[])->(∀k,k0<=k->f k = -1) ->
    (∀k,k0<=k->k<n->((∃b:Nat,Ot m f k=(b:Int)/\Ti n size m j gp k=rng (D3 m j k) b/\D3 m j (k+1)=b+1/\D3 m j k<=b)\/(Ot m f k = -1/\Ti n size m j gp k=[]/\D3 m j (k+1)=D3 m j k))) /\
    Ti n size m j gp n=rng (D3 m j n) size/\D3 m j n<=size
  | [], k0, j, gp, f, h, hk0, hg, hf => by
    refine⟨λk hk hkn=>.inr ⟨hf k hk,by rw[Ti,Mk sX];exact hg k hk,O⟩,?_,h⟩;rw[Ti,Zo,hg n hk0];rfl
  | z :: m, k0, j, gp, f, h, hk0, hg, hf => by
    obtain⟨h1,h2,h3,h4,h5⟩:=h;have hg':∀k,z.1+1<=k->TL gp z.1 (gp z.1++rng j z.2) k=[]:=λk hk=>by rw[Mk sX];exact hg k sX
    have hf':∀k,z.1+1<=k->Ej f z.1 (z.2:Int) k = -1:=λk hk=>by rw[Eu sX];exact hf k sX
    obtain⟨i1,i2,i3⟩:=L9 m (z.1+1) (z.2+1) _ _ h5 sX hg' hf';have ha:∀k,z.1<k->D3 (z::m) j k=D3 m (z.2+1) k:=λk hk=>by rw[D3,if_neg sX]
    refine⟨λk hk hkn=>?_,by rw[Ti,i2,ha n h2],by rw[ha n h2];exact i3⟩;rw[Ot,Ti];rcases Nat.lt_trichotomy k z.1 with hlt|heq|hgt
    ·refine .inr ⟨?_, ?_, ?_⟩
     ·rw[G7 h5 sX,Eu sX];exact hf k hk
     ·rw[W3 h5 sX sX,Mk sX];exact hg k hk
     rw[D3,D3,if_pos sX,if_pos sX]
    ·subst heq
     refine .inl ⟨z.2,?_,?_,?_,?_⟩
     ·rw[G7 h5 sX,Zx]
     ·rw[W3 h5 sX sX,Zo,hg _ hk,D3,if_pos sX];rfl
     ·rw[ha _ sX,VR h5 (gQ _)]
     rw[D3,if_pos sX];exact h3
    rw[ha k hgt, ha (k + 1) sX];exact i1 k sX hkn
theorem RiseN.all{n size:Nat}:∀{m:List (Nat × Nat)}{k j:Nat},RiseN n size k j m->∀z∈m,z.1<n/\z.2<size
  | [],_,_,_,z,hz=>by cases hz
  | y :: m, _, _, h, z, hz => by
    rcases oQ.1 hz with rfl|hz
    ·exact⟨h.2.1,h.2.2.2.1⟩
    exact RiseN.all h.2.2.2.2 z hz
section
variable {α:Type}(sz:α->Nat)(p:α->α->Nat)
inductive AliP:Nat->Nat->List α->List α->List (Nat × Nat)->Nat->Prop
  | nil {i j:Nat}:AliP i j [] [] [] 0
  | pair {i j:Nat} {x y:α} {xs ys:List α} {m:List (Nat × Nat)} {c:Nat}:AliP (i+1) (j+1) xs ys m c->AliP i j (x::xs) (y::ys) ((i,j)::m) (p x y+c)
  | drop {i j:Nat} {x:α} {xs ys:List α} {m:List (Nat × Nat)} {c:Nat}:AliP (i+1) j xs ys m c->AliP i j (x::xs) ys m (sz x+c)
  | add {i j:Nat} {y:α} {xs ys:List α} {m:List (Nat × Nat)} {c:Nat}:AliP i (j+1) xs ys m c->AliP i j xs (y::ys) m (sz y+c)
end
section
variable {α:Type}{sz:α->Nat}{p:α->α->Nat}
theorem RiseN.low{n size:Nat}{i j k l:Nat}{m:List (Nat × Nat)}(h:RiseN n size k l m)(h1:i<=k)(h2:j<=l):RiseN n size i j m:=by
  cases m with
  | nil=>have h:l<=size:=h;exact fQ h2 h
  | cons z m=>exact⟨fQ h1 h.1,h.2.1,fQ h2 h.2.2.1,h.2.2.2⟩
theorem AliP.rise{i j:Nat}{xs ys:List α}{m:List (Nat × Nat)}{c:Nat}(h:AliP sz p i j xs ys m c):RiseN (i+xs.length) (j+ys.length) i j m:=by
  induction h with
  | nil=>exact gQ _
  | @pair i j x y xs ys m c _ ih =>
    rw[kQ,kQ,show i+(xs.length+1)=i+1+xs.length by omega,show j+(ys.length+1)=j+1+ys.length by omega];exact⟨gQ _,by show i<_;omega,gQ _,by show j<_;omega,ih⟩
  | @drop i j x xs ys m c _ ih =>
    rw[kQ,show i+(xs.length+1)=i+1+xs.length by omega];exact ih.low (Nat.le_succ _) (gQ _)
  | @add i j y xs ys m c _ ih =>
    rw[kQ,show j+(ys.length+1)=j+1+ys.length by omega];exact ih.low (gQ _) (Nat.le_succ _)
theorem MK:∀(xs:List α)(i j:Nat),AliP sz p i j xs [] [] (al sz p xs [])
  | [],_,_=>.nil
  | x::xs,i,j=>by rw[al_cn];exact .drop (MK xs (i+1) j)
theorem HD:∀(ys:List α)(i j:Nat),AliP sz p i j [] ys [] (al sz p [] ys)
  | [],_,_=>.nil
  | y::ys,i,j=>by rw[ZR];exact .add (HD ys i (j+1))
end
theorem pth_ali(la lb:List TreeN):∀(k i j:Nat),(la.length-i)+(lb.length-j)<=k->∃mp,pth i j (la.drop i) (lb.drop j)=Ee mp/\AliP Rp pN i j (la.drop i) (lb.drop j) mp (al Rp pN (la.drop i) (lb.drop j)):=by
  intro k
  induction k with
  | zero =>
    intro i j hk;rw[E2 sX,List.drop_eq_nil_of_le (show la.length<=i by omega),List.drop_eq_nil_of_le (show lb.length<=j by omega)];exact⟨[],O,.nil⟩
  | succ k ih =>
    intro i j hk;by_cases h1:i<la.length
    ·by_cases h2 : j<lb.length
     ·have hc := FC (sz := Rp) (p := pN) la[i] lb[j] (la.drop (i + 1)) (lb.drop (j + 1))
      rw[N2 h1 h2];by_cases c1:al Rp pN (la.drop i) (lb.drop j)=pN la[i] lb[j]+al Rp pN (la.drop (i+1)) (lb.drop (j+1))
      ·obtain⟨mp, e, h⟩ := ih (i + 1) (j + 1) sX
       rw[if_pos c1,e,c1,List.drop_eq_getElem_cons h1,List.drop_eq_getElem_cons h2];exact⟨(i,j)::mp,O,.pair h⟩
      rw[if_neg c1];by_cases c2:al Rp pN (la.drop i) (lb.drop j)=Rp la[i]+al Rp pN (la.drop (i+1)) (lb.drop j)
      ·obtain⟨mp, e, h⟩ := ih (i + 1) j sX
       rw[if_pos c2,e,c2];refine⟨mp,O,?_⟩;rw[List.drop_eq_getElem_cons h1];exact .drop h
      obtain⟨mp, e, h⟩ := ih i (j + 1) sX;have c3:al Rp pN (la.drop i) (lb.drop j)=Rp lb[j]+al Rp pN (la.drop i) (lb.drop (j+1)):=by
        rw[<-List.drop_eq_getElem_cons h1,<-List.drop_eq_getElem_cons h2]at hc;omega
      rw[if_neg c2,e,c3];refine⟨mp,O,?_⟩;rw[List.drop_eq_getElem_cons h2];exact .add h
     rw[E2 sX, List.drop_eq_nil_of_le (show lb.length <= j by omega)];exact⟨[],O,MK _ _ _⟩
    rw[E2 sX, List.drop_eq_nil_of_le (show la.length <= i by omega)];exact⟨[],O,HD _ _ _⟩
theorem N7(a b:List Tree):∃mp,pth 0 0 (a.map Fi) (b.map Fi)=Ee mp/\RiseN a.length b.length 0 0 mp:=by
  obtain⟨mp,e,h⟩:=pth_ali (a.map Fi) (b.map Fi) _ 0 0 (gQ _);rw[List.drop_zero,List.drop_zero]at e h;have hr:=h.rise;rw[Nat.zero_add,Nat.zero_add,rQ,rQ]at hr;exact⟨mp,e,hr⟩
end Go.Scarf
namespace Go.Scarf
open Go.RowKit
section
variable {f:Str->Nat->Mo}{n:Nat}{ks:List Str}
end
end Go.Scarf
namespace Go.Scarf
open Go.RowKit
def Vi:Option Tree->Nat
  | some x=>Wb x
  | none=>0
theorem HC:∀(ks:List Str)(xs:List Tree)(id:Str),ks.length=xs.length->De ks xs id=if id∈ks then some (xs.getD (ks.idxOf id) zeroT) else none
  | [],[],id,_=>by simp[De]
  | k :: ks, x :: xs, id, h => by
    rw[De];by_cases e:k=id
    ·subst e;simp
    rw[if_neg e, HC ks xs id (by simpa using h)];have e1:(id∈k::ks)=(id∈ks):=by simp[Ne.symm e,eq_comm,λh:id=k=>e h.symm]
    rw[List.idxOf_cons];have e2:(k==id)=false:=by simpa using e
    simp[e1,e2]
  | [],_::_,_,h=>by cases h
  | _::_,[],_,h=>by cases h
theorem JL(x:Tree)(key id:Str):Dj x key id=De (Uj x key) x.items id:=by
  by_cases hm:id∈Uj x key
  ·have hne : Uj x key ≠ [] := λe => by rw[e]at hm;cases hm
   rw[HC _ _ _ (EK hne).1,if_pos hm];unfold Dj XH;rw[if_pos hm];rfl
  have e1 : Dj x key id = none := by unfold Dj XH;rw[if_neg hm];rfl
  rw[e1];symm;cases h:De (Uj x key) x.items id with
  | none=>rfl
  | some y=>exact absurd (QT h) hm
def Up(g:Str->Option Tree)(ks:List Str):Nat:=(ks.map λk=>Vi (g k)).sum
theorem RQ{g h:Str->Option Tree}{c:Str->Nat}:∀{ks:List Str},(∀k∈ks,Vi (g k)<=c k+Vi (h k))->Up g ks<=(ks.map c).sum+Up h ks
  | [],_=>by simp[Up]
  | k :: ks, H => by
    have ih:=RQ (g:=g) (h:=h) (c:=c) (ks:=ks) λk hk=>H k (by simp[hk]);have h1:=H k Da;unfold Up at ih ⊢;simp only[List.map_cons,List.sum_cons];omega
theorem JI(k0:Str)(s:Nat):∀{ks:List Str},ks.Nodup->(ks.map λk=>if k0=k then s else 0).sum<=s
  | [],_=>by simp
  | k :: ks, h => by
    obtain⟨h1,h2⟩:=List.nodup_cons.1 h;have ih:=JI k0 s h2;simp only[List.map_cons,List.sum_cons];by_cases e:k0=k
    ·have:(ks.map λk=>if k0=k then s else 0).sum=0:=by
       have hz:∀l:List Str,k∉l->(l.map λk=>if k0=k then s else 0).sum=0:=by
         intro l hl
         induction l with
         | nil=>rfl
         | cons a l ih =>
           simp only[List.map_cons,List.sum_cons];rw[ih (λh=>hl (by simp[h])),if_neg (λh=>hl (by simp[<-h,e]))]
       exact hz ks h1
     rw[this,if_pos e];omega
    rw[if_neg e];omega
theorem Y4{qs:List Str}(hq:qs.Nodup):∀(ks:List Str)(xs:List Tree),Up (De ks xs) qs<=Rb xs
  | k :: ks, x :: xs => by
    have ih:=Y4 hq ks xs;have h1:=RQ (g:=De (k::ks) (x::xs)) (h:=De ks xs) (c:=λq=>if k=q then Wb x else 0) (ks:=qs) λq _=>by
      rw[De];split
      ·simp only[Vi];omega
      omega
    have h2:=JI k (Wb x) hq;rw[Rb];omega
  | [], xs => by
    have:∀l:List Str,Up (De [] xs) l=0:=λl=>by
      induction l with
      | nil=>rfl
      | cons a l ih=>unfold Up at ih ⊢;rw[List.map_cons,List.sum_cons,ih];simp[De,Vi]
    rw[this];omega
  | k' :: ks', [] => by
    have:∀l:List Str,Up (De (k'::ks') []) l=0:=λl=>by
      induction l with
      | nil=>rfl
      | cons a l ih=>unfold Up at ih ⊢;rw[List.map_cons,List.sum_cons,ih];simp[De,Vi]
    rw[this];omega
theorem En(g:Str->Option Tree){ks:List Str}{j:Nat}(h:j<ks.length):Up g (ks.take (j+1))=Up g (ks.take j)+Vi (g (ks.getD j [])):=by
  unfold Up;rw[iQ h,jQ,List.sum_append];simp[List.getD,h]
theorem Cq(g:Str->Option Tree)(ks:List Str)(j:Nat):Up g (ks.take j)<=Up g ks:=by
  conv=>rhs;rw[<-List.take_append_drop j ks]
  unfold Up;rw[jQ,List.sum_append];omega
theorem Cs{qs:List Str}(hq:qs.Nodup)(x:Tree):Up (Ze x) qs+1<=Wb x:=by
  cases x with|node k t ks xs=>exact (by have:=Y4 hq ks xs;rw[Wb];show Up (De ks xs) qs+1<=_;omega)
theorem Dt{qs:List Str}(hq:qs.Nodup)(x:Tree)(key:Str):Up (Dj x key) qs+1<=Wb x:=by
  have e:Dj x key=De (Uj x key) x.items:=funext λid=>JL x key id;rw[e];have:=Y4 hq (Uj x key) x.items;cases x with|node k t ks xs=>rw[Wb];show Up _ qs+1<=_;simp only[Tree.items]at *;omega
theorem Dx(m:List (Nat × Nat)):ML (Ee m)=m:=by
  unfold ML Ee;rw[List.map_map];exact (List.map_congr_left λz _=>by simp).trans (List.map_id _)
theorem WO(v:List Tree)(gp:Nat->List Int)(im:Nat->Int):∀(d j:Nat),j+d<=v.length->(rng j (j+d)).filterMap (λi=>(By.mk v gp im).at i)=(v.drop j).take d
  | 0,j,_=>by simp[rng]
  | d + 1, j, h => by
    have e:rng j (j+(d+1))=(j:Int)::rng (j+1) (j+1+d):=by
      unfold rng;rw[show j+(d+1)-j=d+1 by omega,show j+1+d-(j+1)=d by omega,List.range'_succ,List.map_cons]
    rw[e,List.filterMap_cons];have e2:(By.mk v gp im).at (j:Int)=some v[j]:=by
      unfold By.at;rw[if_neg sX];simp
    rw[e2,WO v gp im d (j+1) sX,List.drop_eq_getElem_cons (show j<v.length by omega),List.take_succ_cons]
theorem laid_law(base v:List Tree):∃a:Nat->Nat,a 0=0/\a base.length<=v.length/\(Ie base v).put base.length=v.drop (a base.length) /\
    ∀k,k<base.length->(∃b,a k<=b/\b<v.length/\a (k+1)=b+1/\(Ie base v).item k=v[b]?/\(Ie base v).put k=(v.drop (a k)).take (b-a k))\/((Ie base v).item k=none/\(Ie base v).put k=[]/\a (k+1)=a k):=by
  obtain⟨mp,e,hr⟩:=N7 base v;have em:Ie base v=⟨v,Ti base.length v.length mp 0 (λ_=>[]),Ot mp (λ_=>-1)⟩:=by
    unfold Ie;rw[e,Dx]
  obtain⟨h1,h2,h3⟩:=L9 mp 0 0 (λ_=>[]) (λ_=>-1) hr (Nat.zero_le _) (λ_ _=>rfl) (λ_ _=>rfl);rw[em];have hb:∀k,D3 mp 0 k<=v.length:=λk=>KM hr;refine⟨D3 mp 0,VR hr (gQ _),h3,?_,λk hk=>?_⟩
  ·unfold By.put
   rw[show (By.mk v (Ti base.length v.length mp 0 λ_=>[]) (Ot mp λ_=>-1)).gap base.length=rng (D3 mp 0 base.length) (D3 mp 0 base.length+(v.length-D3 mp 0 base.length)) by rw[Nat.add_sub_cancel' h3];exact h2];rw[WO _ _ _ _ _ sX];exact List.take_of_length_le (by rw[List.length_drop];omega)
  rcases h1 k (Nat.zero_le _) hk with ⟨b, k1, k2, k3, k4⟩|⟨k1, k2, k3⟩
  ·have hb1 := hb (k + 1)
   refine .inl ⟨b,k4,by omega,k3,?_,?_⟩
   ·unfold By.item By.at
    simp only[k1];rw[if_neg sX];simp
   unfold By.put;rw[show (By.mk v (Ti base.length v.length mp 0 λ_=>[]) (Ot mp λ_=>-1)).gap k=rng (D3 mp 0 k) (D3 mp 0 k+(b-D3 mp 0 k)) by rw[Nat.add_sub_cancel' k4];exact k2];exact WO _ _ _ _ _ sX
  refine .inr ⟨?_, ?_, k3⟩
  ·unfold By.item By.at
   simp only[k1];rfl
  unfold By.put;simp only[k2];rfl
def wG(y:By):Nat->Nat
  | 0=>0
  | j+1=>wG y j+Rb (y.put j)+Vi (y.item j)
theorem Em(base v:List Tree):∀j,j<=base.length->wG (Ie base v) j+(if j=base.length then Rb ((Ie base v).put j) else 0)<=Rb v:=by
  obtain⟨a,a0,an,hp,hk⟩:=laid_law base v;have key:∀j,j<=base.length->wG (Ie base v) j=Rb (v.take (a j)):=by
    intro j
    induction j with
    | zero=>intro _;rw[a0];rfl
    | succ j ih =>
      intro hj;rw[wG,ih sX];rcases hk j sX with ⟨b,h1,h2,h3,h4,h5⟩|⟨h1,h2,h3⟩
      ·rw[h4, h5, h3, List.getElem?_eq_getElem h2]
       have e1:v.take (b+1)=v.take (a j)++((v.drop (a j)).take (b-a j)++[v[b]]):=by
         rw[<-sQ,<-List.take_add,Nat.add_sub_cancel' h1,iQ h2]
       rw[e1,Qe,Qe];simp only[Vi,Rb];omega
      rw[h1,h2,h3];simp[Rb,Vi]
  intro j hj;rw[key j hj];by_cases e:j=base.length
  ·subst e
   rw[if_pos rfl,hp,<-Qe,List.take_append_drop];exact gQ _
  rw[if_neg e];have:Rb v=Rb (v.take (a j))+Rb (v.drop (a j)):=by rw[<-Qe,List.take_append_drop]
  omega
theorem G4(base v:List Tree)(j:Nat)(hj:j<base.length):wG (Ie base v) j+Rb ((Ie base v).put j)+Vi ((Ie base v).item j)<=Rb v:=by
  have:=Em base v (j+1) hj;rw[wG]at this;omega
section
variable {f:Str->Nat->Mo}{n:Nat}{ks:List Str}{gl gr:Str->Option Tree}
theorem Gw(H:∀k n,(f k n).2.length<=Vi (gl k)+Vi (gr k)):∀j,j<=ks.length->(Gn f n ks j).2.length<=Up gl (ks.take j)+Up gr (ks.take j)
  | 0,_=>by simp[Gn]
  | j + 1, hj => by
    have ih:=Gw H j sX;have h1:=H (ks.getD j []) (n+(Gn f n ks j).2.length);rw[Gn,dQ,En gl sX,En gr sX];omega
end
theorem Y2(p:List Str)(g n:Nat)(xs ys:List Tree):(Gm p g n xs ys).2.length<=Rb xs+Rb ys:=by
  unfold Gm;split
  ·simp
  rename_i h
  split
  ·simp
  have := Mj xs;simp only[kQ,List.length_nil];omega
theorem Fx{f:Fm}{p:List Str}{n:Nat}{base:List Tree}{x y:By}(H:∀s n k,(f (p++[s]) n base[k]? (x.item k) (y.item k)).2.length<=Vi (x.item k)+Vi (y.item k)):∀j,(Ii f p n base x y j).2.length<=wG x j+wG y j
  | 0=>by simp[Ii]
  | j + 1 => by
    have ih:=Fx (n:=n) H j;have h1:=Y2 p j (n+(Ii f p n base x y j).2.length) (x.put j) (y.put j);have h2:=H (Lib.itoa j) (n+((Ii f p n base x y j).2++(Gm p j (n+(Ii f p n base x y j).2.length) (x.put j) (y.put j)).2).length) j;have e:∀A B C:List Cf,(A++B++C).length=A.length+B.length+C.length:=λA B C=>by rw[dQ,dQ]
    rw[Ii,e,wG,wG];omega
theorem Lp{p:List Str}{cls:Int}{n:Nat}{b l r:Option Tree}(h:¬Km l r=true):(Mw p cls n b l r).2.length<=Vi l+Vi r:=by
  have:1<=Vi l+Vi r:=by
    cases l with
    | some x=>have:=Bt x;simp only[Vi];omega
    | none =>
      cases r with
      | some x=>have:=Bt x;simp only[Vi];omega
      | none=>exact absurd rfl h
  simp only[Mw,kQ,List.length_nil];omega
theorem Ey{rl:List Rl}:∀(F:Nat)(p:List Str)(n:Nat)(b l r:Option Tree),(Nj rl F p n b l r).2.length<=Vi l+Vi r:=by
  intro F
  induction F with
  | zero=>intro p n b l r;simp[Nj]
  | succ F ih =>
    intro p n b l r;rw[Nj];split
    ·simp
    rename_i c1
    split
    ·simp
    split
    ·simp
    cases b with
    | none=>exact Lp c1
    | some x =>
      cases l with
      | none=>exact Lp c1
      | some y =>
        cases r with
        | none=>exact Lp c1
        | some z =>
          simp only[I0];split
          ·split
           ·have h1 := Gw (n := n) (λk n => ih (p ++ [k]) n (Ze x k) (Ze y k) (Ze z k)) (Yf [y.keys, z.keys]).length (gQ _)
            rw[List.take_length]at h1;have h2:=Cs (Lh [y.keys,z.keys]) y;have h3:=Cs (Lh [y.keys,z.keys]) z;unfold TO;simp only[Vi];omega
           split
           ·have hgap:(Qs.gapM (Nj rl F) p n x y z).2.length<=Vi (some y)+Vi (some z):=by
              unfold Qs.gapM;split
              ·unfold KC
               have h1:=Fx (n:=n) (base:=x.items) (x:=Ie x.items y.items) (y:=Ie x.items z.items) (λs n k=>ih (p++[s]) n _ _ _) x.items.length;have h2:=Y2 p x.items.length (n+(Ii (Nj rl F) p n x.items (Ie x.items y.items) (Ie x.items z.items) x.items.length).2.length) ((Ie x.items y.items).put x.items.length) ((Ie x.items z.items).put x.items.length);have h3:=Em x.items y.items x.items.length (gQ _);have h4:=Em x.items z.items x.items.length (gQ _);rw[if_pos rfl]at h3 h4;have h5:∀v:Tree,Rb v.items<=Wb v:=λv=>by cases v;rw[Wb];simp only[Tree.items];omega
               have h6:=h5 y;have h7:=h5 z;simp only[dQ,Vi];omega
              exact Lp c1
            rw[Qs];cases O2 rl p with
            | none=>exact hgap
            | some key =>
              simp only;split
              ·have h1 := Gw (n := n) (λk n => ih (p ++ [QM k]) n (Dj x key k) (Dj y key k) (Dj z key k)) (Yf [Uj y key, Uj z key]).length (gQ _)
               rw[List.take_length]at h1;have h2:=Dt (Lh [Uj y key,Uj z key]) y key;have h3:=Dt (Lh [Uj y key,Uj z key]) z key;unfold keyM;simp only;split
               ·simp only[Vi];omega
               exact Lp c1
              exact hgap
           exact Lp c1
          exact Lp c1
end Go.Scarf
