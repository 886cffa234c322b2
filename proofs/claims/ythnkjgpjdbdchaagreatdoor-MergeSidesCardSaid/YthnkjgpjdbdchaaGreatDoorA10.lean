/- A part of the proof. -/
import Derived.Test.YthnkjgpjdbdchaaGreatDoorY1
import Derived.Test.YthnkjgpjdbdchaaGreatDoorA7
set_option linter.all false
set_option maxHeartbeats 8000000
set_option maxRecDepth 10000
namespace Go.Scarf
open Go.RowKit
structure Sd where
  has:Bool
  val:Tree
structure Cf where
  path:List Str
  cls:Int
  b:Sd
  l:Sd
  r:Sd
structure Rl where
  pat:List Str
  key:Str
def noS:Sd:=⟨false,zeroT⟩
def Jl:Option Tree->Sd
  | some x=>⟨true,x⟩
  | none=>noS
def Hl:Option Tree->Option Tree->Bool
  | some x,some y=>Ch x y
  | none,none=>true
  | _,_=>false
def Oi(n:Nat):Str:=Ro (CE n)
def Mr(n:Nat):Tree:=.node 7 (Oi n) [] []
def WO(s:Str):Str:=61::s
def Ps(g:Nat):Str:=43::Lib.itoa g
structure Mt where
  i:Nat
  k:Nat
  star:Option Nat
  taken:Nat
def AE:Str:=[42,42]
def oneS:Str:=[42]
def mtN(p q:List Str)(m:Mt):Option Mt :=
  if p[m.i]? = some AE then some ⟨m.i+1,m.k,some m.i,m.k⟩
  else if p[m.i]? = some oneS\/(p[m.i]?≠none/\p[m.i]? = q[m.k]?) then some ⟨m.i+1,m.k+1,m.star,m.taken⟩
  else match m.star with
    | some s=>some ⟨s+1,m.taken+1,some s,m.taken+1⟩
    | none=>none
def mtF(p q:List Str):Nat->Mt->Bool
  | 0,_=>false
  | f+1,m=>if m.k<q.length then (match mtN p q m with|some m'=>mtF p q f m'|none=>false) else (p.drop m.i).all λs=>decide (s=AE)
def mtM(p q:List Str)(m:Mt):Nat:=(p.length-(match m.star with|some s=>s|none=>0)+(if m.star=none then 1 else 0))*((q.length+1)*(q.length+1))+(q.length-m.taken)*(q.length+1)+(q.length-m.k)
def FN(p q:List Str):Bool:=decide (p.length<=200)&&(decide (q.length<=200)&&mtF p q 10000000 ⟨0,0,none,0⟩)
def B2(rl:List Rl)(path:List Str):Option Str:=(rl.find? λx=>FN x.pat path).map (·.key)
def VP(l:List Str):Bool:=decide l.Nodup&&decide (l.length<=256)
def Qt(p:List Str)(x y:Str):Int:=if x∈p/\y∈p then Lib.compareInt (p.idxOf x) (p.idxOf y) else 0
def EW(b l r:List Str)(x y:Str):Option Int :=
  if Qt b x y≠0/\(Qt l x y = - Qt b x y\/Qt r x y = - Qt b x y) then some (- Qt b x y)
  else if Qt b x y≠0 then some (Qt b x y)
  else if Qt l x y*Qt r x y<0 then none
  else some (if Qt l x y≠0 then Qt l x y else Qt r x y)
def freeB(b l r:List Str)(rest:List Str)(s:Str):Bool:=rest.all λy=>decide (y=s) || decide (EW b l r y s≠some (-1))
def Z5(b l r:List Str):Nat->List Str->Option (List Str)
  | 0,_=>some []
  | f + 1, rest => match rest.find? (freeB b l r rest)with
    | some s=>(Z5 b l r f (rest.erase s)).map (s::·)
    | none=>none
def clashB(b l r names:List Str):Bool:=(List.range names.length).any λi=>(names.take i).any λy=>decide (EW b l r (names.getD i []) y=none)
def Y8(b l r names:List Str):Option (List Str) :=
  if VP b=true/\VP l=true/\VP r=true/\VP names=true/\clashB b l r names=false then Z5 b l r names.length (Li names) else none
abbrev Mo:=Option Tree × List Cf
def Ww(path:List Str)(cls:Int)(n:Nat)(b l r:Option Tree):Mo:=(some (Mr n),[⟨path,cls,Jl b,Jl l,Jl r⟩])
def Ws:Option Tree->Option Tree->Option Tree->Int
  | none,_,_=>4
  | some x,some y,some z=>if x.kind=y.kind/\x.kind=z.kind then 1 else 2
  | _,_,_=>3
def YU(k:Str):Option Tree->List (Str × Tree)
  | some x=>[(k,x)]
  | none=>[]
def Zn(f:Str->Nat->Mo)(n:Nat)(ks:List Str):Nat->List (Str × Tree) × List Cf
  | 0=>([],[])
  | j + 1 =>
    let a:=Zn f n ks j
    let q:=f (ks.getD j []) (n+a.2.length)
    (a.1++YU (ks.getD j []) q.1,a.2++q.2)
def Hf(x:Tree)(key:Str):Option Tree:=Td x.keys x.items key
def Oj(x:Tree)(key id:Str):Option Tree:=if (UH x key id).2=true then some (UH x key id).1 else none
def Pm(path:List Str)(g n:Nat)(p q:List Tree):List Tree × List Cf :=
  if p.length=0 then (q,[]) else if q.length=0\/Ch (.node 5 [] [] p) (.node 5 [] [] q)=true then (p,[])
  else ([Mr n],[⟨path++[Ps g],5,⟨true,.node 5 [] [] []⟩,⟨true,.node 5 [] [] p⟩,⟨true,.node 5 [] [] q⟩⟩])
structure By where
  items:List Tree
  gap:Nat->List Int
  img:Nat->Int
def By.at(y:By)(i:Int):Option Tree:=if i<0 then none else y.items[i.toNat]?
def By.put(y:By)(g:Nat):List Tree:=(y.gap g).filterMap λi=>y.at i
def By.item(y:By)(k:Nat):Option Tree:=y.at (y.img k)
def JP(m:List (Int × Int)):List (Nat × Nat):=m.map λz=>(z.1.toNat,z.2.toNat)
def Ue(base v:List Tree):By :=
  let m:=JP (pth 0 0 (base.map Yi) (v.map Yi))
  ⟨v,Kj base.length v.length m 0 (λ_=>[]),Tt m (λ_=>-1)⟩
def Fj(f:List Str->Nat->Option Tree->Option Tree->Option Tree->Mo)(path:List Str)(n:Nat)(base:List Tree)(x y:By):Nat->List Tree × List Cf
  | 0=>([],[])
  | j + 1 =>
    let a:=Fj f path n base x y j
    let p:=Pm path j (n+a.2.length) (x.put j) (y.put j)
    let q:=f (path++[Lib.itoa j]) (n+(a.2++p.2).length) base[j]? (x.item j) (y.item j)
    (a.1++p.1++q.1.toList,a.2++p.2++q.2)
def AC(f:List Str->Nat->Option Tree->Option Tree->Option Tree->Mo)(path:List Str)(n:Nat)(base:List Tree)(x y:By):Mo :=
  let a:=Fj f path n base x y base.length
  let p:=Pm path base.length (n+a.2.length) (x.put base.length) (y.put base.length)
  (some (.node 5 [] [] (a.1++p.1)),a.2++p.2)
def DN(f:List Str->Nat->Option Tree->Option Tree->Option Tree->Mo)(path:List Str)(n:Nat)(b l r:Tree):Mo :=
  let ks:=Kg [l.keys,r.keys]
  let a:=Zn (λk m=>f (path++[k]) m (Hf b k) (Hf l k) (Hf r k)) n ks ks.length
  (some (.node 6 [] (a.1.map (·.1)) (a.1.map (·.2))),a.2)
def G6(m:List (Str × Tree))(id:Str):Tree:=(Td (m.map (·.1)) (m.map (·.2)) id).getD zeroT
def keyM(f:List Str->Nat->Option Tree->Option Tree->Option Tree->Mo)(path:List Str)(n:Nat)(key:Str)(b l r:Tree):Mo :=
  let ids:=Kg [Ek l key,Ek r key]
  let a:=Zn (λid m=>f (path++[WO id]) m (Oj b key id) (Oj l key id) (Oj r key id)) n ids ids.length
  match Y8 (Ek b key) (Ek l key) (Ek r key) (a.1.map (·.1))with
  | some o=>(some (.node 5 [] [] (o.map (G6 a.1))),a.2)
  | none=>Ww path 6 n (some b) (some l) (some r)
def allK(key:Str)(b l r:Tree):Bool:=(GO b key).isSome&&((GO l key).isSome&&(GO r key).isSome)
def Bt(rl:List Rl)(f:List Str->Nat->Option Tree->Option Tree->Option Tree->Mo)(path:List Str)(n:Nat)(b l r:Tree):Mo :=
  match B2 rl path with
  | some key=>if allK key b l r=true then keyM f path n key b l r else gapM
  | none=>gapM
where gapM:Mo:=if Bi b.items=0/\Bi l.items=0/\Bi r.items=0 then AC f path n b.items (Ue b.items l.items) (Ue b.items r.items) else Ww path 1 n (some b) (some l) (some r)
def C2(rl:List Rl)(f:List Str->Nat->Option Tree->Option Tree->Option Tree->Mo)(path:List Str)(n:Nat):Option Tree->Option Tree->Option Tree->Mo
  | some x, some y, some z =>
    if x.kind=y.kind/\x.kind=z.kind then
      if x.kind=6 then DN f path n x y z else if x.kind=5 then Bt rl f path n x y z else Ww path 1 n (some x) (some y) (some z)
    else Ww path 2 n (some x) (some y) (some z)
  | b,l,r=>Ww path (Ws b l r) n b l r
def Bk(rl:List Rl):Nat->List Str->Nat->Option Tree->Option Tree->Option Tree->Mo
  | 0,_,_,_,l,_=>(l,[])
  | F+1,path,n,b,l,r=>if Hl l r=true then (l,[]) else if Hl b l=true then (r,[]) else if Hl b r=true then (l,[]) else C2 rl (Bk rl F) path n b l r
def UB(x:Rl):Bool:=Lib.validD x.key&&(decide (x.pat.length<=64)&&x.pat.all Lib.validD)
def Mv(rl:List Rl):Bool:=decide (rl.length<=32)&&rl.all UB
def US(q:Mo):Tree × List Cf × Int:=if Ug (q.1.getD zeroT)=true then (q.1.getD zeroT,q.2,0) else (zeroT,[],6)
def VU(rl:List Rl)(b l r:Tree):Prop:=Sc b=true/\Sc l=true/\Sc r=true/\Mv rl=true
instance (rl:List Rl) (b l r:Tree):Decidable (VU rl b l r):=inferInstanceAs (Decidable (_/\_/\_/\_))
def Cj(rl:List Rl)(b l r:Tree):Tree × List Cf × Int:=if VU rl b l r then US (Bk rl 40 [] 0 (some b) (some l) (some r)) else (zeroT,[],1)
def Yp(s:Sd):Sd:=if s.has=true then ⟨true,H5 s.val⟩ else noS
def Xk(c:Cf)(p:Int):Sd × Bool:=if p=0 then (Yp c.b,true) else if p=1 then (Yp c.l,true) else if p=2 then (Yp c.r,true) else (noS,false)
mutual
def Vg:Tree->List Str
  | .node k t _ xs=>(if k=7 then [t] else [])++Zg xs
def Zg:List Tree->List Str
  | []=>[]
  | x::xs=>Vg x++Zg xs
end
def E4(s:Sd)(cls:Int):Bool:=!s.has || (Sc s.val&&(decide (cls≠5) || decide (s.val.kind=5)))
def ZA(c:Cf):Bool:=E4 c.b c.cls&&(E4 c.l c.cls&&E4 c.r c.cls)
def noC:Cf:=⟨[],0,noS,noS,noS⟩
def It(v:Tree)(l:List Cf)(pick:List Int):Bool :=
  decide (l.length=pick.length)&&(decide ((Vg v).eraseDups.length=l.length) &&
    (List.range l.length).all λi=>decide ((Vg v).count (Oi i)=1)&&(ZA (l.getD i noC)&&(Xk (l.getD i noC) (pick.getD i 0)).2))
def Ji(v:Tree):Int:=if v.kind≠7 then -1 else if (Ef v.text).2≠0 then -1 else (T_ (Ef v.text).1).1
def Qv(l:List Cf)(pick:List Int)(i:Int):Sd:=(Xk (l.getD i.toNat noC) (pick.getD i.toNat 0)).1
def Zs(l:List Cf)(k:Int)(key:Str)(h:Int)(s:Sd):List Str × List Tree :=
  if s.has=true then
    if k=6 then ([key],[s.val])
    else if 0<=h/\(l.getD h.toNat noC).cls=5 then ([],s.val.items)
    else ([],[s.val])
  else ([],[])
mutual
def Ve(l:List Cf)(pick:List Int):Tree->Sd
  | .node k t ks xs =>
    if 0<=Ji (.node k t ks xs) then Qv l pick (Ji (.node k t ks xs))
    else ⟨true,.node k t (Aj l pick k ks xs).1 (Aj l pick k ks xs).2⟩
def Aj(l:List Cf)(pick:List Int)(k:Int):List Str->List Tree->List Str × List Tree
  | _,[]=>([],[])
  | ks, x :: xs =>
    let a:=Zs l k (ks.headD []) (Ji x) (Ve l pick x)
    let b:=Aj l pick k ks.tail xs
    (a.1++b.1,a.2++b.2)
end
def Hs(v:Tree)(l:List Cf)(pick:List Int):Tree × Int :=
  if Ug v=true/\It v l pick=true then
    let s:=Ve l pick v
    if s.has=true then (if Sc s.val=true then (s.val,0) else (zeroT,1)) else (zeroT,8)
  else (zeroT,1)
def pre(p:List Str)(c:Cf):Cf:={ c with path:=p++c.path }
theorem PU{x:Tree}{k:Int}{t:Str}{ks:List Str}{xs:List Tree}(h:x∈xs):Ed x<Ed (.node k t ks xs):=by
  rw[Ed];have:∀{xs:List Tree},x∈xs->Ed x<=Fd xs:=fun {xs} h=>by
    induction xs with
    | nil=>cases h
    | cons y ys ih =>
      rw[Fd];rcases oQ.1 h with rfl|h
      ·omega
      have:=ih h;omega
  have:=this h;omega
def Ko:Option Tree->Nat
  | some x=>Ed x
  | none=>0
theorem XN(x:Tree):1<=Ed x:=by cases x;rw[Ed];omega
theorem E7{x y:Tree}{key:Str}(h:Hf x key=some y):y∈x.items:=Xn h
theorem S8{x y:Tree}{key id:Str}(h:Oj x key id=some y):y∈x.items:=by
  unfold Oj at h;split at h
  ·rename_i h2
   obtain rfl:=lQ h;unfold UH at h2 ⊢;split at h2
   ·rename_i hm
    rw[if_pos hm];have hne:Ek x key≠[]:=λe=>by rw[e]at hm;cases hm
    have h1:=(EI hne).1;have h3:=List.idxOf_lt_length_iff.2 hm;simp only[List.getD,List.getElem?_eq_getElem (show (Ek x key).idxOf id<x.items.length by omega),Option.getD_some];exact eQ _
   cases h2
  cases h
theorem MF{y:By}{i:Int}{x:Tree}(h:y.at i=some x):x∈y.items:=by
  unfold By.at at h;split at h
  ·cases h
  exact List.mem_of_getElem? h
theorem Zz{y:By}{g:Nat}{x:Tree}(h:x∈y.put g):x∈y.items:=by
  unfold By.put at h;obtain⟨i,_,hi⟩:=List.mem_filterMap.1 h;exact MF hi
theorem CJ{x y:Tree}(h:y∈x.items):Ed y<Ed x:=by cases x;exact PU h
theorem Ux(x:Tree)(key:Str):Ko (Hf x key)<Ed x:=by
  cases h:Hf x key with
  | none=>exact XN x
  | some y=>exact CJ (E7 h)
section
variable {f g:Str->Nat->Mo}{p q:List Str}{n m:Nat}{ks:List Str}
end
abbrev Fm:=List Str->Nat->Option Tree->Option Tree->Option Tree->Mo
end Go.Scarf
namespace Go.Scarf
open Go.RowKit Go.Proofs
def RiseN(n size:Nat):Nat->Nat->List (Nat × Nat)->Prop
  | _,j,[]=>j<=size
  | k,j,z::m=>k<=z.1/\z.1<n/\j<=z.2/\z.2<size/\RiseN n size (z.1+1) (z.2+1) m
def F3:List (Nat × Nat)->Nat->Nat->Nat
  | [],j,_=>j
  | z::m,j,k=>if k<=z.1 then j else F3 m (z.2+1) k
theorem BS{n size:Nat}:∀{m:List (Nat × Nat)}{k0 j k:Nat},RiseN n size k0 j m->k<=k0->F3 m j k=j
  | [],_,_,_,_,_=>rfl
  | z::m,k0,j,k,h,hk=>by rw[F3,if_pos (by have:=h.1;omega)]
theorem ZO{n size:Nat}:∀{m:List (Nat × Nat)}{k0 j k:Nat},RiseN n size k0 j m->F3 m j k<=size
  | [],_,_,_,h=>h
  | z :: m, k0, j, k, h => by
    obtain⟨h1,h2,h3,h4,h5⟩:=h;rw[F3];split
    ·omega
    exact ZO h5
theorem R8{n size:Nat}:∀{m:List (Nat × Nat)}{k0 j k:Nat}{f:Nat->Int},RiseN n size k0 j m->k<k0->Tt m f k=f k
  | [],_,_,_,_,_,_=>rfl
  | z :: m, k0, j, k, f, h, hk => by
    have h1:=h.1;rw[Tt,R8 h.2.2.2.2 sX,Nv sX]
theorem T4{n size:Nat}:∀{m:List (Nat × Nat)}{k0 j k:Nat}{gp:Nat->List Int},RiseN n size k0 j m->k<k0->k≠n->Kj n size m j gp k=gp k
  | [],_,_,_,_,_,_,hn=>by rw[Kj,Uk hn]
  | z :: m, k0, j, k, gp, h, hk, hn => by
    have h1:=h.1;rw[Kj,T4 h.2.2.2.2 sX hn,Uk sX]
theorem O9{n size:Nat}:∀(m:List (Nat × Nat))(k0 j:Nat)(gp:Nat->List Int)(f:Nat->Int),RiseN n size k0 j m->k0<=n->(∀k,k0<=k->gp k=[])->(∀k,k0<=k->f k = -1) ->
    (∀k,k0<=k->k<n->((∃b:Nat,Tt m f k=(b:Int)/\Kj n size m j gp k=rng (F3 m j k) b/\F3 m j (k+1)=b+1/\F3 m j k<=b)\/(Tt m f k = -1/\Kj n size m j gp k=[]/\F3 m j (k+1)=F3 m j k))) /\
    Kj n size m j gp n=rng (F3 m j n) size/\F3 m j n<=size
  | [], k0, j, gp, f, h, hk0, hg, hf => by
    refine⟨λk hk hkn=>.inr ⟨hf k hk,by rw[Kj,Uk sX];exact hg k hk,O⟩,?_,h⟩;rw[Kj,Np,hg n hk0];rfl
  | z :: m, k0, j, gp, f, h, hk0, hg, hf => by
    obtain⟨h1,h2,h3,h4,h5⟩:=h;have hg':∀k,z.1+1<=k->OO gp z.1 (gp z.1++rng j z.2) k=[]:=λk hk=>by rw[Uk sX];exact hg k sX
    have hf':∀k,z.1+1<=k->Qj f z.1 (z.2:Int) k = -1:=λk hk=>by rw[Nv sX];exact hf k sX
    obtain⟨i1,i2,i3⟩:=O9 m (z.1+1) (z.2+1) _ _ h5 sX hg' hf';have ha:∀k,z.1<k->F3 (z::m) j k=F3 m (z.2+1) k:=λk hk=>by rw[F3,if_neg sX]
    refine⟨λk hk hkn=>?_,by rw[Kj,i2,ha n h2],by rw[ha n h2];exact i3⟩;rw[Tt,Kj];rcases Nat.lt_trichotomy k z.1 with hlt|heq|hgt
    ·refine .inr ⟨?_, ?_, ?_⟩
     ·rw[R8 h5 sX,Nv sX];exact hf k hk
     ·rw[T4 h5 sX sX,Uk sX];exact hg k hk
     rw[F3,F3,if_pos sX,if_pos sX]
    ·subst heq
     refine .inl ⟨z.2,?_,?_,?_,?_⟩
     ·rw[R8 h5 sX,Zx]
     ·rw[T4 h5 sX sX,Np,hg _ hk,F3,if_pos sX];rfl
     ·rw[ha _ sX,BS h5 (gQ _)]
     rw[F3,if_pos sX];exact h3
    rw[ha k hgt, ha (k + 1) sX];exact i1 k sX hkn
theorem RiseN.all{n size:Nat}:∀{m:List (Nat × Nat)}{k j:Nat},RiseN n size k j m->∀z∈m,z.1<n/\z.2<size
  | [],_,_,_,z,hz=>by cases hz
  | y :: m, _, _, h, z, hz => by
    rcases oQ.1 hz with rfl|hz
    ·exact⟨h.2.1,h.2.2.2.1⟩
    exact RiseN.all h.2.2.2.2 z hz
section
variable {α:Type}(sz:α->Nat)(p:α->α->Nat)
inductive AliP:Nat->Nat->List α->List α->List (Nat × Nat)->Nat->Prop
  | nil {i j:Nat}:AliP i j [] [] [] 0
  | pair {i j:Nat} {x y:α} {xs ys:List α} {m:List (Nat × Nat)} {c:Nat}:AliP (i+1) (j+1) xs ys m c->AliP i j (x::xs) (y::ys) ((i,j)::m) (p x y+c)
  | drop {i j:Nat} {x:α} {xs ys:List α} {m:List (Nat × Nat)} {c:Nat}:AliP (i+1) j xs ys m c->AliP i j (x::xs) ys m (sz x+c)
  | add {i j:Nat} {y:α} {xs ys:List α} {m:List (Nat × Nat)} {c:Nat}:AliP i (j+1) xs ys m c->AliP i j xs (y::ys) m (sz y+c)
end
section
variable {α:Type}{sz:α->Nat}{p:α->α->Nat}
theorem RiseN.low{n size:Nat}{i j k l:Nat}{m:List (Nat × Nat)}(h:RiseN n size k l m)(h1:i<=k)(h2:j<=l):RiseN n size i j m:=by
  cases m with
  | nil=>have h:l<=size:=h;exact fQ h2 h
  | cons z m=>exact⟨fQ h1 h.1,h.2.1,fQ h2 h.2.2.1,h.2.2.2⟩
theorem AliP.rise{i j:Nat}{xs ys:List α}{m:List (Nat × Nat)}{c:Nat}(h:AliP sz p i j xs ys m c):RiseN (i+xs.length) (j+ys.length) i j m:=by
  induction h with
  | nil=>exact gQ _
  | @pair i j x y xs ys m c _ ih =>
    rw[kQ,kQ,show i+(xs.length+1)=i+1+xs.length by omega,show j+(ys.length+1)=j+1+ys.length by omega];exact⟨gQ _,by show i<_;omega,gQ _,by show j<_;omega,ih⟩
  | @drop i j x xs ys m c _ ih =>
    rw[kQ,show i+(xs.length+1)=i+1+xs.length by omega];exact ih.low (Nat.le_succ _) (gQ _)
  | @add i j y xs ys m c _ ih =>
    rw[kQ,show j+(ys.length+1)=j+1+ys.length by omega];exact ih.low (gQ _) (Nat.le_succ _)
theorem XI:∀(xs:List α)(i j:Nat),AliP sz p i j xs [] [] (al sz p xs [])
  | [],_,_=>.nil
  | x::xs,i,j=>by rw[UZ];exact .drop (XI xs (i+1) j)
theorem DD:∀(ys:List α)(i j:Nat),AliP sz p i j [] ys [] (al sz p [] ys)
  | [],_,_=>.nil
  | y::ys,i,j=>by rw[CQ];exact .add (DD ys i (j+1))
end
theorem pth_ali(la lb:List TreeN):∀(k i j:Nat),(la.length-i)+(lb.length-j)<=k->∃mp,pth i j (la.drop i) (lb.drop j)=Te mp/\AliP Fq pN i j (la.drop i) (lb.drop j) mp (al Fq pN (la.drop i) (lb.drop j)):=by
  intro k
  induction k with
  | zero =>
    intro i j hk;rw[K0 sX,List.drop_eq_nil_of_le (show la.length<=i by omega),List.drop_eq_nil_of_le (show lb.length<=j by omega)];exact⟨[],O,.nil⟩
  | succ k ih =>
    intro i j hk;by_cases h1:i<la.length
    ·by_cases h2 : j<lb.length
     ·have hc := RC (sz := Fq) (p := pN) la[i] lb[j] (la.drop (i + 1)) (lb.drop (j + 1))
      rw[E1 h1 h2];by_cases c1:al Fq pN (la.drop i) (lb.drop j)=pN la[i] lb[j]+al Fq pN (la.drop (i+1)) (lb.drop (j+1))
      ·obtain⟨mp, e, h⟩ := ih (i + 1) (j + 1) sX
       rw[if_pos c1,e,c1,List.drop_eq_getElem_cons h1,List.drop_eq_getElem_cons h2];exact⟨(i,j)::mp,O,.pair h⟩
      rw[if_neg c1];by_cases c2:al Fq pN (la.drop i) (lb.drop j)=Fq la[i]+al Fq pN (la.drop (i+1)) (lb.drop j)
      ·obtain⟨mp, e, h⟩ := ih (i + 1) j sX
       rw[if_pos c2,e,c2];refine⟨mp,O,?_⟩;rw[List.drop_eq_getElem_cons h1];exact .drop h
      obtain⟨mp, e, h⟩ := ih i (j + 1) sX;have c3:al Fq pN (la.drop i) (lb.drop j)=Fq lb[j]+al Fq pN (la.drop i) (lb.drop (j+1)):=by
        rw[<-List.drop_eq_getElem_cons h1,<-List.drop_eq_getElem_cons h2]at hc;omega
      rw[if_neg c2,e,c3];refine⟨mp,O,?_⟩;rw[List.drop_eq_getElem_cons h2];exact .add h
     rw[K0 sX, List.drop_eq_nil_of_le (show lb.length <= j by omega)];exact⟨[],O,XI _ _ _⟩
    rw[K0 sX, List.drop_eq_nil_of_le (show la.length <= i by omega)];exact⟨[],O,DD _ _ _⟩
theorem X9(a b:List Tree):∃mp,pth 0 0 (a.map Yi) (b.map Yi)=Te mp/\RiseN a.length b.length 0 0 mp:=by
  obtain⟨mp,e,h⟩:=pth_ali (a.map Yi) (b.map Yi) _ 0 0 (gQ _);rw[List.drop_zero,List.drop_zero]at e h;have hr:=h.rise;rw[Nat.zero_add,Nat.zero_add,rQ,rQ]at hr;exact⟨mp,e,hr⟩
end Go.Scarf
namespace Go.Scarf
open Go.RowKit
section
variable {f:Str->Nat->Mo}{n:Nat}{ks:List Str}
end
end Go.Scarf
namespace Go.Scarf
open Go.RowKit
def Mj:Option Tree->Nat
  | some x=>Rb x
  | none=>0
theorem ND:∀(ks:List Str)(xs:List Tree)(id:Str),ks.length=xs.length->Td ks xs id=if id∈ks then some (xs.getD (ks.idxOf id) zeroT) else none
  | [],[],id,_=>by simp[Td]
  | k :: ks, x :: xs, id, h => by
    rw[Td];by_cases e:k=id
    ·subst e;simp
    rw[if_neg e, ND ks xs id (by simpa using h)];have e1:(id∈k::ks)=(id∈ks):=by simp[Ne.symm e,eq_comm,λh:id=k=>e h.symm]
    rw[List.idxOf_cons];have e2:(k==id)=false:=by simpa using e
    simp[e1,e2]
  | [],_::_,_,h=>by cases h
  | _::_,[],_,h=>by cases h
theorem BM(x:Tree)(key id:Str):Oj x key id=Td (Ek x key) x.items id:=by
  by_cases hm:id∈Ek x key
  ·have hne : Ek x key ≠ [] := λe => by rw[e]at hm;cases hm
   rw[ND _ _ _ (EI hne).1,if_pos hm];unfold Oj UH;rw[if_pos hm];rfl
  have e1 : Oj x key id = none := by unfold Oj UH;rw[if_neg hm];rfl
  rw[e1];symm;cases h:Td (Ek x key) x.items id with
  | none=>rfl
  | some y=>exact absurd (HB h) hm
def Kq(g:Str->Option Tree)(ks:List Str):Nat:=(ks.map λk=>Mj (g k)).sum
theorem qQq{g h:Str->Option Tree}{c:Str->Nat}:∀{ks:List Str},(∀k∈ks,Mj (g k)<=c k+Mj (h k))->Kq g ks<=(ks.map c).sum+Kq h ks
  | [],_=>by simp[Kq]
  | k :: ks, H => by
    have ih:=qQq (g:=g) (h:=h) (c:=c) (ks:=ks) λk hk=>H k (by simp[hk]);have h1:=H k Da;unfold Kq at ih ⊢;simp only[List.map_cons,List.sum_cons];omega
theorem ZJ(k0:Str)(s:Nat):∀{ks:List Str},ks.Nodup->(ks.map λk=>if k0=k then s else 0).sum<=s
  | [],_=>by simp
  | k :: ks, h => by
    obtain⟨h1,h2⟩:=List.nodup_cons.1 h;have ih:=ZJ k0 s h2;simp only[List.map_cons,List.sum_cons];by_cases e:k0=k
    ·have:(ks.map λk=>if k0=k then s else 0).sum=0:=by
       have hz:∀l:List Str,k∉l->(l.map λk=>if k0=k then s else 0).sum=0:=by
         intro l hl
         induction l with
         | nil=>rfl
         | cons a l ih =>
           simp only[List.map_cons,List.sum_cons];rw[ih (λh=>hl (by simp[h])),if_neg (λh=>hl (by simp[<-h,e]))]
       exact hz ks h1
     rw[this,if_pos e];omega
    rw[if_neg e];omega
theorem T3{qs:List Str}(hq:qs.Nodup):∀(ks:List Str)(xs:List Tree),Kq (Td ks xs) qs<=Pb xs
  | k :: ks, x :: xs => by
    have ih:=T3 hq ks xs;have h1:=qQq (g:=Td (k::ks) (x::xs)) (h:=Td ks xs) (c:=λq=>if k=q then Rb x else 0) (ks:=qs) λq _=>by
      rw[Td];split
      ·simp only[Mj];omega
      omega
    have h2:=ZJ k (Rb x) hq;rw[Pb];omega
  | [], xs => by
    have:∀l:List Str,Kq (Td [] xs) l=0:=λl=>by
      induction l with
      | nil=>rfl
      | cons a l ih=>unfold Kq at ih ⊢;rw[List.map_cons,List.sum_cons,ih];simp[Td,Mj]
    rw[this];omega
  | k' :: ks', [] => by
    have:∀l:List Str,Kq (Td (k'::ks') []) l=0:=λl=>by
      induction l with
      | nil=>rfl
      | cons a l ih=>unfold Kq at ih ⊢;rw[List.map_cons,List.sum_cons,ih];simp[Td,Mj]
    rw[this];omega
theorem Vn(g:Str->Option Tree){ks:List Str}{j:Nat}(h:j<ks.length):Kq g (ks.take (j+1))=Kq g (ks.take j)+Mj (g (ks.getD j [])):=by
  unfold Kq;rw[iQ h,jQ,List.sum_append];simp[List.getD,h]
theorem Pq(g:Str->Option Tree)(ks:List Str)(j:Nat):Kq g (ks.take j)<=Kq g ks:=by
  conv=>rhs;rw[<-List.take_append_drop j ks]
  unfold Kq;rw[jQ,List.sum_append];omega
theorem Ms{qs:List Str}(hq:qs.Nodup)(x:Tree):Kq (Hf x) qs+1<=Rb x:=by
  cases x with|node k t ks xs=>exact (by have:=T3 hq ks xs;rw[Rb];show Kq (Td ks xs) qs+1<=_;omega)
theorem Au{qs:List Str}(hq:qs.Nodup)(x:Tree)(key:Str):Kq (Oj x key) qs+1<=Rb x:=by
  have e:Oj x key=Td (Ek x key) x.items:=funext λid=>BM x key id;rw[e];have:=T3 hq (Ek x key) x.items;cases x with|node k t ks xs=>rw[Rb];show Kq _ qs+1<=_;simp only[Tree.items]at *;omega
theorem Gx(m:List (Nat × Nat)):JP (Te m)=m:=by
  unfold JP Te;rw[List.map_map];exact (List.map_congr_left λz _=>by simp).trans (List.map_id _)
theorem ZM(v:List Tree)(gp:Nat->List Int)(im:Nat->Int):∀(d j:Nat),j+d<=v.length->(rng j (j+d)).filterMap (λi=>(By.mk v gp im).at i)=(v.drop j).take d
  | 0,j,_=>by simp[rng]
  | d + 1, j, h => by
    have e:rng j (j+(d+1))=(j:Int)::rng (j+1) (j+1+d):=by
      unfold rng;rw[show j+(d+1)-j=d+1 by omega,show j+1+d-(j+1)=d by omega,List.range'_succ,List.map_cons]
    rw[e,List.filterMap_cons];have e2:(By.mk v gp im).at (j:Int)=some v[j]:=by
      unfold By.at;rw[if_neg sX];simp
    rw[e2,ZM v gp im d (j+1) sX,List.drop_eq_getElem_cons (show j<v.length by omega),List.take_succ_cons]
theorem laid_law(base v:List Tree):∃a:Nat->Nat,a 0=0/\a base.length<=v.length/\(Ue base v).put base.length=v.drop (a base.length) /\
    ∀k,k<base.length->(∃b,a k<=b/\b<v.length/\a (k+1)=b+1/\(Ue base v).item k=v[b]?/\(Ue base v).put k=(v.drop (a k)).take (b-a k))\/((Ue base v).item k=none/\(Ue base v).put k=[]/\a (k+1)=a k):=by
  obtain⟨mp,e,hr⟩:=X9 base v;have em:Ue base v=⟨v,Kj base.length v.length mp 0 (λ_=>[]),Tt mp (λ_=>-1)⟩:=by
    unfold Ue;rw[e,Gx]
  obtain⟨h1,h2,h3⟩:=O9 mp 0 0 (λ_=>[]) (λ_=>-1) hr (Nat.zero_le _) (λ_ _=>rfl) (λ_ _=>rfl);rw[em];have hb:∀k,F3 mp 0 k<=v.length:=λk=>ZO hr;refine⟨F3 mp 0,BS hr (gQ _),h3,?_,λk hk=>?_⟩
  ·unfold By.put
   rw[show (By.mk v (Kj base.length v.length mp 0 λ_=>[]) (Tt mp λ_=>-1)).gap base.length=rng (F3 mp 0 base.length) (F3 mp 0 base.length+(v.length-F3 mp 0 base.length)) by rw[Nat.add_sub_cancel' h3];exact h2];rw[ZM _ _ _ _ _ sX];exact List.take_of_length_le (by rw[List.length_drop];omega)
  rcases h1 k (Nat.zero_le _) hk with ⟨b, k1, k2, k3, k4⟩|⟨k1, k2, k3⟩
  ·have hb1 := hb (k + 1)
   refine .inl ⟨b,k4,by omega,k3,?_,?_⟩
   ·unfold By.item By.at
    simp only[k1];rw[if_neg sX];simp
   unfold By.put;rw[show (By.mk v (Kj base.length v.length mp 0 λ_=>[]) (Tt mp λ_=>-1)).gap k=rng (F3 mp 0 k) (F3 mp 0 k+(b-F3 mp 0 k)) by rw[Nat.add_sub_cancel' k4];exact k2];exact ZM _ _ _ _ _ sX
  refine .inr ⟨?_, ?_, k3⟩
  ·unfold By.item By.at
   simp only[k1];rfl
  unfold By.put;simp only[k2];rfl
def wG(y:By):Nat->Nat
  | 0=>0
  | j+1=>wG y j+Pb (y.put j)+Mj (y.item j)
theorem Rm(base v:List Tree):∀j,j<=base.length->wG (Ue base v) j+(if j=base.length then Pb ((Ue base v).put j) else 0)<=Pb v:=by
  obtain⟨a,a0,an,hp,hk⟩:=laid_law base v;have key:∀j,j<=base.length->wG (Ue base v) j=Pb (v.take (a j)):=by
    intro j
    induction j with
    | zero=>intro _;rw[a0];rfl
    | succ j ih =>
      intro hj;rw[wG,ih sX];rcases hk j sX with ⟨b,h1,h2,h3,h4,h5⟩|⟨h1,h2,h3⟩
      ·rw[h4, h5, h3, List.getElem?_eq_getElem h2]
       have e1:v.take (b+1)=v.take (a j)++((v.drop (a j)).take (b-a j)++[v[b]]):=by
         rw[<-sQ,<-List.take_add,Nat.add_sub_cancel' h1,iQ h2]
       rw[e1,Be,Be];simp only[Mj,Pb];omega
      rw[h1,h2,h3];simp[Pb,Mj]
  intro j hj;rw[key j hj];by_cases e:j=base.length
  ·subst e
   rw[if_pos rfl,hp,<-Be,List.take_append_drop];exact gQ _
  rw[if_neg e];have:Pb v=Pb (v.take (a j))+Pb (v.drop (a j)):=by rw[<-Be,List.take_append_drop]
  omega
theorem D5(base v:List Tree)(j:Nat)(hj:j<base.length):wG (Ue base v) j+Pb ((Ue base v).put j)+Mj ((Ue base v).item j)<=Pb v:=by
  have:=Rm base v (j+1) hj;rw[wG]at this;omega
section
variable {f:Str->Nat->Mo}{n:Nat}{ks:List Str}{gl gr:Str->Option Tree}
theorem Tw(H:∀k n,(f k n).2.length<=Mj (gl k)+Mj (gr k)):∀j,j<=ks.length->(Zn f n ks j).2.length<=Kq gl (ks.take j)+Kq gr (ks.take j)
  | 0,_=>by simp[Zn]
  | j + 1, hj => by
    have ih:=Tw H j sX;have h1:=H (ks.getD j []) (n+(Zn f n ks j).2.length);rw[Zn,dQ,Vn gl sX,Vn gr sX];omega
end
theorem I2(p:List Str)(g n:Nat)(xs ys:List Tree):(Pm p g n xs ys).2.length<=Pb xs+Pb ys:=by
  unfold Pm;split
  ·simp
  rename_i h
  split
  ·simp
  have := Ii xs;simp only[kQ,List.length_nil];omega
theorem Gw{f:Fm}{p:List Str}{n:Nat}{base:List Tree}{x y:By}(H:∀s n k,(f (p++[s]) n base[k]? (x.item k) (y.item k)).2.length<=Mj (x.item k)+Mj (y.item k)):∀j,(Fj f p n base x y j).2.length<=wG x j+wG y j
  | 0=>by simp[Fj]
  | j + 1 => by
    have ih:=Gw (n:=n) H j;have h1:=I2 p j (n+(Fj f p n base x y j).2.length) (x.put j) (y.put j);have h2:=H (Lib.itoa j) (n+((Fj f p n base x y j).2++(Pm p j (n+(Fj f p n base x y j).2.length) (x.put j) (y.put j)).2).length) j;have e:∀A B C:List Cf,(A++B++C).length=A.length+B.length+C.length:=λA B C=>by rw[dQ,dQ]
    rw[Fj,e,wG,wG];omega
theorem Rp{p:List Str}{cls:Int}{n:Nat}{b l r:Option Tree}(h:¬Hl l r=true):(Ww p cls n b l r).2.length<=Mj l+Mj r:=by
  have:1<=Mj l+Mj r:=by
    cases l with
    | some x=>have:=Dr x;simp only[Mj];omega
    | none =>
      cases r with
      | some x=>have:=Dr x;simp only[Mj];omega
      | none=>exact absurd rfl h
  simp only[Ww,kQ,List.length_nil];omega
theorem Vx{rl:List Rl}:∀(F:Nat)(p:List Str)(n:Nat)(b l r:Option Tree),(Bk rl F p n b l r).2.length<=Mj l+Mj r:=by
  intro F
  induction F with
  | zero=>intro p n b l r;simp[Bk]
  | succ F ih =>
    intro p n b l r;rw[Bk];split
    ·simp
    rename_i c1
    split
    ·simp
    split
    ·simp
    cases b with
    | none=>exact Rp c1
    | some x =>
      cases l with
      | none=>exact Rp c1
      | some y =>
        cases r with
        | none=>exact Rp c1
        | some z =>
          simp only[C2];split
          ·split
           ·have h1 := Tw (n := n) (λk n => ih (p ++ [k]) n (Hf x k) (Hf y k) (Hf z k)) (Kg [y.keys, z.keys]).length (gQ _)
            rw[List.take_length]at h1;have h2:=Ms (Ai [y.keys,z.keys]) y;have h3:=Ms (Ai [y.keys,z.keys]) z;unfold DN;simp only[Mj];omega
           split
           ·have hgap:(Bt.gapM (Bk rl F) p n x y z).2.length<=Mj (some y)+Mj (some z):=by
              unfold Bt.gapM;split
              ·unfold AC
               have h1:=Gw (n:=n) (base:=x.items) (x:=Ue x.items y.items) (y:=Ue x.items z.items) (λs n k=>ih (p++[s]) n _ _ _) x.items.length;have h2:=I2 p x.items.length (n+(Fj (Bk rl F) p n x.items (Ue x.items y.items) (Ue x.items z.items) x.items.length).2.length) ((Ue x.items y.items).put x.items.length) ((Ue x.items z.items).put x.items.length);have h3:=Rm x.items y.items x.items.length (gQ _);have h4:=Rm x.items z.items x.items.length (gQ _);rw[if_pos rfl]at h3 h4;have h5:∀v:Tree,Pb v.items<=Rb v:=λv=>by cases v;rw[Rb];simp only[Tree.items];omega
               have h6:=h5 y;have h7:=h5 z;simp only[dQ,Mj];omega
              exact Rp c1
            rw[Bt];cases B2 rl p with
            | none=>exact hgap
            | some key =>
              simp only;split
              ·have h1 := Tw (n := n) (λk n => ih (p ++ [WO k]) n (Oj x key k) (Oj y key k) (Oj z key k)) (Kg [Ek y key, Ek z key]).length (gQ _)
               rw[List.take_length]at h1;have h2:=Au (Ai [Ek y key,Ek z key]) y key;have h3:=Au (Ai [Ek y key,Ek z key]) z key;unfold keyM;simp only;split
               ·simp only[Mj];omega
               exact Rp c1
              exact hgap
           exact Rp c1
          exact Rp c1
end Go.Scarf
