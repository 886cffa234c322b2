/- A part of the proof. -/
import Derived.Test.YtbhneplafiapdaaGreatDoorA4
set_option linter.all false
set_option maxHeartbeats 8000000
set_option maxRecDepth 10000
namespace Go.Scarf
open Go.RowKit
structure Sd where
  has:Bool
  val:Tree
structure Cf where
  path:List Str
  cls:Int
  b:Sd
  l:Sd
  r:Sd
structure Rl where
  pat:List Str
  key:Str
def noS:Sd:=⟨false,Fe⟩
def Sn:Option Tree->Sd
  | some x=>⟨true,x⟩
  | none=>noS
def Ii:Option Tree->Option Tree->Bool
  | some x,some y=>Yd x y
  | none,none=>true
  | _,_=>false
def D3(n:Nat):Str:=Qk (MB n)
def Zp(n:Nat):Tree:=.node 7 (D3 n) [] []
def C6(s:Str):Str:=61::s
def NP(g:Nat):Str:=43::Lib.itoa g
structure Mt where
  i:Nat
  k:Nat
  star:Option Nat
  taken:Nat
def K_:Str:=[42,42]
def TR:Str:=[42]
def EN(p q:List Str)(m:Mt):Option Mt :=
  if p[m.i]? = some K_ then some ⟨m.i+1,m.k,some m.i,m.k⟩
  else if p[m.i]? = some TR\/(p[m.i]?≠none/\p[m.i]? = q[m.k]?) then some ⟨m.i+1,m.k+1,m.star,m.taken⟩
  else match m.star with
    | some s=>some ⟨s+1,m.taken+1,some s,m.taken+1⟩
    | none=>none
def GN(p q:List Str):Nat->Mt->Bool
  | 0,_=>false
  | f+1,m=>if m.k<q.length then (match EN p q m with|some m'=>GN p q f m'|none=>false) else (p.drop m.i).all λs=>decide (s=K_)
def YO(p q:List Str)(m:Mt):Nat:=(p.length-(match m.star with|some s=>s|none=>0)+(if m.star=none then 1 else 0))*((q.length+1)*(q.length+1))+(q.length-m.taken)*(q.length+1)+(q.length-m.k)
def O6(p q:List Str):Bool:=decide (p.length<=200)&&(decide (q.length<=200)&&GN p q 10000000 ⟨0,0,none,0⟩)
def Z8(rl:List Rl)(path:List Str):Option Str:=(rl.find? λx=>O6 x.pat path).map (·.key)
def F8(l:List Str):Bool:=decide l.Nodup&&decide (l.length<=256)
def Gk(p:List Str)(x y:Str):Int:=if x∈p/\y∈p then Lib.compareInt (p.idxOf x) (p.idxOf y) else 0
def CE(b l r:List Str)(x y:Str):Option Int :=
  if Gk b x y≠0/\(Gk l x y = - Gk b x y\/Gk r x y = - Gk b x y) then some (- Gk b x y)
  else if Gk b x y≠0 then some (Gk b x y)
  else if Gk l x y*Gk r x y<0 then none
  else some (if Gk l x y≠0 then Gk l x y else Gk r x y)
def SO(b l r:List Str)(rest:List Str)(s:Str):Bool:=rest.all λy=>decide (y=s) || decide (CE b l r y s≠some (-1))
def Ks(b l r:List Str):Nat->List Str->Option (List Str)
  | 0,_=>some []
  | f + 1, rest => match rest.find? (SO b l r rest)with
    | some s=>(Ks b l r f (rest.erase s)).map (s::·)
    | none=>none
def CL(b l r names:List Str):Bool:=(List.range names.length).any λi=>(names.take i).any λy=>decide (CE b l r (names.getD i []) y=none)
def Zv(b l r names:List Str):Option (List Str) :=
  if F8 b=true/\F8 l=true/\F8 r=true/\F8 names=true/\CL b l r names=false then Ks b l r names.length (Tm names) else none
abbrev Mo:=Option Tree × List Cf
def Ts(path:List Str)(cls:Int)(n:Nat)(b l r:Option Tree):Mo:=(some (Zp n),[⟨path,cls,Sn b,Sn l,Sn r⟩])
def KR:Option Tree->Option Tree->Option Tree->Int
  | none,_,_=>4
  | some x,some y,some z=>if x.kind=y.kind/\x.kind=z.kind then 1 else 2
  | _,_,_=>3
def IM(k:Str):Option Tree->List (Str × Tree)
  | some x=>[(k,x)]
  | none=>[]
def Kk(f:Str->Nat->Mo)(n:Nat)(ks:List Str):Nat->List (Str × Tree) × List Cf
  | 0=>([],[])
  | j + 1 =>
    let a:=Kk f n ks j
    let q:=f (ks.getD j []) (n+a.2.length)
    (a.1++IM (ks.getD j []) q.1,a.2++q.2)
def Am(x:Tree)(key:Str):Option Tree:=Ic x.keys x.items key
def Pe(x:Tree)(key id:Str):Option Tree:=if (P3 x key id).2=true then some (P3 x key id).1 else none
def Ws(path:List Str)(g n:Nat)(p q:List Tree):List Tree × List Cf :=
  if p.length=0 then (q,[]) else if q.length=0\/Yd (.node 5 [] [] p) (.node 5 [] [] q)=true then (p,[])
  else ([Zp n],[⟨path++[NP g],5,⟨true,.node 5 [] [] []⟩,⟨true,.node 5 [] [] p⟩,⟨true,.node 5 [] [] q⟩⟩])
structure By where
  items:List Tree
  gap:Nat->List Int
  img:Nat->Int
def By.at(y:By)(i:Int):Option Tree:=if i<0 then none else y.items[i.toNat]?
def By.put(y:By)(g:Nat):List Tree:=(y.gap g).filterMap λi=>y.at i
def By.item(y:By)(k:Nat):Option Tree:=y.at (y.img k)
def U5(m:List (Int × Int)):List (Nat × Nat):=m.map λz=>(z.1.toNat,z.2.toNat)
def Le(base v:List Tree):By :=
  let m:=U5 (pth 0 0 (base.map Hn) (v.map Hn))
  ⟨v,Ej base.length v.length m 0 (λ_=>[]),Ex m (λ_=>-1)⟩
def Aj(f:List Str->Nat->Option Tree->Option Tree->Option Tree->Mo)(path:List Str)(n:Nat)(base:List Tree)(x y:By):Nat->List Tree × List Cf
  | 0=>([],[])
  | j + 1 =>
    let a:=Aj f path n base x y j
    let p:=Ws path j (n+a.2.length) (x.put j) (y.put j)
    let q:=f (path++[Lib.itoa j]) (n+(a.2++p.2).length) base[j]? (x.item j) (y.item j)
    (a.1++p.1++q.1.toList,a.2++p.2++q.2)
def AE(f:List Str->Nat->Option Tree->Option Tree->Option Tree->Mo)(path:List Str)(n:Nat)(base:List Tree)(x y:By):Mo :=
  let a:=Aj f path n base x y base.length
  let p:=Ws path base.length (n+a.2.length) (x.put base.length) (y.put base.length)
  (some (.node 5 [] [] (a.1++p.1)),a.2++p.2)
def VM(f:List Str->Nat->Option Tree->Option Tree->Option Tree->Mo)(path:List Str)(n:Nat)(b l r:Tree):Mo :=
  let ks:=Bg [l.keys,r.keys]
  let a:=Kk (λk m=>f (path++[k]) m (Am b k) (Am l k) (Am r k)) n ks ks.length
  (some (.node 6 [] (a.1.map (·.1)) (a.1.map (·.2))),a.2)
def Es(m:List (Str × Tree))(id:Str):Tree:=(Ic (m.map (·.1)) (m.map (·.2)) id).getD Fe
def SG(f:List Str->Nat->Option Tree->Option Tree->Option Tree->Mo)(path:List Str)(n:Nat)(key:Str)(b l r:Tree):Mo :=
  let ids:=Bg [Bf l key,Bf r key]
  let a:=Kk (λid m=>f (path++[C6 id]) m (Pe b key id) (Pe l key id) (Pe r key id)) n ids ids.length
  match Zv (Bf b key) (Bf l key) (Bf r key) (a.1.map (·.1))with
  | some o=>(some (.node 5 [] [] (o.map (Es a.1))),a.2)
  | none=>Ts path 6 n (some b) (some l) (some r)
def JR(key:Str)(b l r:Tree):Bool:=(T5 b key).isSome&&((T5 l key).isSome&&(T5 r key).isSome)
def Hx(rl:List Rl)(f:List Str->Nat->Option Tree->Option Tree->Option Tree->Mo)(path:List Str)(n:Nat)(b l r:Tree):Mo :=
  match Z8 rl path with
  | some key=>if JR key b l r=true then SG f path n key b l r else gapM
  | none=>gapM
where gapM:Mo:=if RM b.items=0/\RM l.items=0/\RM r.items=0 then AE f path n b.items (Le b.items l.items) (Le b.items r.items) else Ts path 1 n (some b) (some l) (some r)
def N8(rl:List Rl)(f:List Str->Nat->Option Tree->Option Tree->Option Tree->Mo)(path:List Str)(n:Nat):Option Tree->Option Tree->Option Tree->Mo
  | some x, some y, some z =>
    if x.kind=y.kind/\x.kind=z.kind then
      if x.kind=6 then VM f path n x y z else if x.kind=5 then Hx rl f path n x y z else Ts path 1 n (some x) (some y) (some z)
    else Ts path 2 n (some x) (some y) (some z)
  | b,l,r=>Ts path (KR b l r) n b l r
def Em(rl:List Rl):Nat->List Str->Nat->Option Tree->Option Tree->Option Tree->Mo
  | 0,_,_,_,l,_=>(l,[])
  | F+1,path,n,b,l,r=>if Ii l r=true then (l,[]) else if Ii b l=true then (r,[]) else if Ii b r=true then (l,[]) else N8 rl (Em rl F) path n b l r
def Wy(x:Rl):Bool:=Lib.validD x.key&&(decide (x.pat.length<=64)&&x.pat.all Lib.validD)
def Kr(rl:List Rl):Bool:=decide (rl.length<=32)&&rl.all Wy
def EA(q:Mo):Tree × List Cf × Int:=if Wh (q.1.getD Fe)=true then (q.1.getD Fe,q.2,0) else (Fe,[],6)
def EB(rl:List Rl)(b l r:Tree):Prop:=Zb b=true/\Zb l=true/\Zb r=true/\Kr rl=true
instance (rl:List Rl) (b l r:Tree):Decidable (EB rl b l r):=inferInstanceAs (Decidable (_/\_/\_/\_))
def Kh(rl:List Rl)(b l r:Tree):Tree × List Cf × Int:=if EB rl b l r then EA (Em rl 40 [] 0 (some b) (some l) (some r)) else (Fe,[],1)
def Fx(s:Sd):Sd:=if s.has=true then ⟨true,Vr s.val⟩ else noS
def EO(c:Cf)(p:Int):Sd × Bool:=if p=0 then (Fx c.b,true) else if p=1 then (Fx c.l,true) else if p=2 then (Fx c.r,true) else (noS,false)
mutual
def I5:Tree->List Str
  | .node k t _ xs=>(if k=7 then [t] else [])++Mj xs
def Mj:List Tree->List Str
  | []=>[]
  | x::xs=>I5 x++Mj xs
end
def UQ:Cf:=⟨[],0,noS,noS,noS⟩
def Xr(v:Tree):Int:=if v.kind≠7 then -1 else if (Jd v.text).2≠0 then -1 else (O4 (Jd v.text).1).1
def AQ(l:List Cf)(pick:List Int)(i:Int):Sd:=(EO (l.getD i.toNat UQ) (pick.getD i.toNat 0)).1
def WL(l:List Cf)(k:Int)(key:Str)(h:Int)(s:Sd):List Str × List Tree :=
  if s.has=true then
    if k=6 then ([key],[s.val])
    else if 0<=h/\(l.getD h.toNat UQ).cls=5 then ([],s.val.items)
    else ([],[s.val])
  else ([],[])
mutual
def Ls(l:List Cf)(pick:List Int):Tree->Sd
  | .node k t ks xs =>
    if 0<=Xr (.node k t ks xs) then AQ l pick (Xr (.node k t ks xs))
    else ⟨true,.node k t (D7 l pick k ks xs).1 (D7 l pick k ks xs).2⟩
def D7(l:List Cf)(pick:List Int)(k:Int):List Str->List Tree->List Str × List Tree
  | _,[]=>([],[])
  | ks, x :: xs =>
    let a:=WL l k (ks.headD []) (Xr x) (Ls l pick x)
    let b:=D7 l pick k ks.tail xs
    (a.1++b.1,a.2++b.2)
end
mutual
def XC:Tree->Tree
  | .node k t ks xs=>.node k (if k=7 then [] else t) ks (P8 xs)
def P8:List Tree->List Tree
  | []=>[]
  | x::xs=>XC x::P8 xs
end
def LC(o:Option Tree):Option Tree:=o.map XC
def pre(p:List Str)(c:Cf):Cf:={ c with path:=p++c.path }
theorem S9(p q:List Str)(R:List Cf):R.map (pre (p++q))=(R.map (pre q)).map (pre p):=by
  rw[List.map_map];refine List.map_congr_left λc _=>?_;simp[pre]
def Xj:Option Tree->Nat
  | some x=>Be x
  | none=>0
theorem Dz{x y:Tree}{key:Str}(h:Am x key=some y):y∈x.items:=Ik h
theorem Lv{x y:Tree}{key id:Str}(h:Pe x key id=some y):y∈x.items:=by
  unfold Pe at h;split at h
  ·rename_i h2
   obtain rfl:=lQ h;unfold P3 at h2 ⊢;split at h2
   ·rename_i hm
    rw[if_pos hm];have hne:Bf x key≠[]:=λe=>by rw[e]at hm;cases hm
    have h1:=(H1 hne).1;have h3:=List.idxOf_lt_length_iff.2 hm;simp only[List.getD,List.getElem?_eq_getElem (show (Bf x key).idxOf id<x.items.length by omega),Option.getD_some];exact eQ _
   cases h2
  cases h
theorem Z7{y:By}{i:Int}{x:Tree}(h:y.at i=some x):x∈y.items:=by
  unfold By.at at h;split at h
  ·cases h
  exact List.mem_of_getElem? h
theorem Ot{y:By}{g:Nat}{x:Tree}(h:x∈y.put g):x∈y.items:=by
  unfold By.put at h;obtain⟨i,_,hi⟩:=List.mem_filterMap.1 h;exact Z7 hi
section
variable {f g:Str->Nat->Mo}{p q:List Str}{n m:Nat}{ks:List Str}
def Twin(p q:List Str)(a b:Mo):Prop:=∃R:List Cf,a.2=R.map (pre p)/\b.2=R.map (pre q)/\LC a.1=LC b.1
theorem Twin.up{s:List Str}{a b:Mo}(h:Twin (p++s) (q++s) a b):Twin p q a b:=by
  obtain⟨R,h1,h2,h3⟩:=h;exact⟨R.map (pre s),by rw[h1,S9],by rw[h2,S9],h3⟩
end
abbrev Fm:=List Str->Nat->Option Tree->Option Tree->Option Tree->Mo
end Go.Scarf
namespace Go.Scarf
section
variable {α:Type}(sz:α->Nat)(p:α->α->Nat)
inductive AliP:Nat->Nat->List α->List α->List (Nat × Nat)->Nat->Prop
  | nil {i j:Nat}:AliP i j [] [] [] 0
  | pair {i j:Nat} {x y:α} {xs ys:List α} {m:List (Nat × Nat)} {c:Nat}:AliP (i+1) (j+1) xs ys m c->AliP i j (x::xs) (y::ys) ((i,j)::m) (p x y+c)
  | drop {i j:Nat} {x:α} {xs ys:List α} {m:List (Nat × Nat)} {c:Nat}:AliP (i+1) j xs ys m c->AliP i j (x::xs) ys m (sz x+c)
  | add {i j:Nat} {y:α} {xs ys:List α} {m:List (Nat × Nat)} {c:Nat}:AliP i (j+1) xs ys m c->AliP i j xs (y::ys) m (sz y+c)
end
section
variable {α:Type}{sz:α->Nat}{p:α->α->Nat}
theorem RiseN.low{n size:Nat}{i j k l:Nat}{m:List (Nat × Nat)}(h:RiseN n size k l m)(h1:i<=k)(h2:j<=l):RiseN n size i j m:=by
  cases m with
  | nil=>have h:l<=size:=h;exact fQ h2 h
  | cons z m=>exact⟨fQ h1 h.1,h.2.1,fQ h2 h.2.2.1,h.2.2.2⟩
theorem AliP.rise{i j:Nat}{xs ys:List α}{m:List (Nat × Nat)}{c:Nat}(h:AliP sz p i j xs ys m c):RiseN (i+xs.length) (j+ys.length) i j m:=by
  induction h with
  | nil=>exact gQ _
  | @pair i j x y xs ys m c _ ih =>
    rw[kQ,kQ,show i+(xs.length+1)=i+1+xs.length by omega,show j+(ys.length+1)=j+1+ys.length by omega];exact⟨gQ _,by show i<_;omega,gQ _,by show j<_;omega,ih⟩
  | @drop i j x xs ys m c _ ih =>
    rw[kQ,show i+(xs.length+1)=i+1+xs.length by omega];exact ih.low (Nat.le_succ _) (gQ _)
  | @add i j y xs ys m c _ ih =>
    rw[kQ,show j+(ys.length+1)=j+1+ys.length by omega];exact ih.low (gQ _) (Nat.le_succ _)
theorem Y2:∀(xs:List α)(i j:Nat),AliP sz p i j xs [] [] (al sz p xs [])
  | [],_,_=>.nil
  | x::xs,i,j=>by rw[JQ];exact .drop (Y2 xs (i+1) j)
theorem Xx:∀(ys:List α)(i j:Nat),AliP sz p i j [] ys [] (al sz p [] ys)
  | [],_,_=>.nil
  | y::ys,i,j=>by rw[TP];exact .add (Xx ys i (j+1))
end
theorem NH(la lb:List TreeN):∀(k i j:Nat),(la.length-i)+(lb.length-j)<=k->∃mp,pth i j (la.drop i) (lb.drop j)=T8 mp/\AliP Ev pN i j (la.drop i) (lb.drop j) mp (al Ev pN (la.drop i) (lb.drop j)):=by
  intro k
  induction k with
  | zero =>
    intro i j hk;rw[Fz Ca,List.drop_eq_nil_of_le (show la.length<=i by omega),List.drop_eq_nil_of_le (show lb.length<=j by omega)];exact⟨[],O,.nil⟩
  | succ k ih =>
    intro i j hk;by_cases h1:i<la.length
    ·by_cases h2 : j<lb.length
     ·have hc := XP (sz := Ev) (p := pN) la[i] lb[j] (la.drop (i + 1)) (lb.drop (j + 1))
      rw[MC h1 h2];by_cases c1:al Ev pN (la.drop i) (lb.drop j)=pN la[i] lb[j]+al Ev pN (la.drop (i+1)) (lb.drop (j+1))
      ·obtain⟨mp, e, h⟩ := ih (i + 1) (j + 1) Ca
       rw[if_pos c1,e,c1,List.drop_eq_getElem_cons h1,List.drop_eq_getElem_cons h2];exact⟨(i,j)::mp,O,.pair h⟩
      rw[if_neg c1];by_cases c2:al Ev pN (la.drop i) (lb.drop j)=Ev la[i]+al Ev pN (la.drop (i+1)) (lb.drop j)
      ·obtain⟨mp, e, h⟩ := ih (i + 1) j Ca
       rw[if_pos c2,e,c2];refine⟨mp,O,?_⟩;rw[List.drop_eq_getElem_cons h1];exact .drop h
      obtain⟨mp, e, h⟩ := ih i (j + 1) Ca;have c3:al Ev pN (la.drop i) (lb.drop j)=Ev lb[j]+al Ev pN (la.drop i) (lb.drop (j+1)):=by
        rw[<-List.drop_eq_getElem_cons h1,<-List.drop_eq_getElem_cons h2]at hc;omega
      rw[if_neg c2,e,c3];refine⟨mp,O,?_⟩;rw[List.drop_eq_getElem_cons h2];exact .add h
     rw[Fz Ca, List.drop_eq_nil_of_le (show lb.length <= j by omega)];exact⟨[],O,Y2 _ _ _⟩
    rw[Fz Ca, List.drop_eq_nil_of_le (show la.length <= i by omega)];exact⟨[],O,Xx _ _ _⟩
theorem HF(a b:List Tree):∃mp,pth 0 0 (a.map Hn) (b.map Hn)=T8 mp/\RiseN a.length b.length 0 0 mp:=by
  obtain⟨mp,e,h⟩:=NH (a.map Hn) (b.map Hn) _ 0 0 (gQ _);rw[List.drop_zero,List.drop_zero]at e h;have hr:=h.rise;rw[Nat.zero_add,Nat.zero_add,rQ,rQ]at hr;exact⟨mp,e,hr⟩
end Go.Scarf
namespace Go.Scarf
open Go.RowKit
section
variable {f:Str->Nat->Mo}{n:Nat}{ks:List Str}
end
end Go.Scarf
namespace Go.Scarf
open Go.RowKit
def Ve:Option Tree->Nat
  | some x=>Gb x
  | none=>0
theorem Fy:∀(ks:List Str)(xs:List Tree)(id:Str),ks.length=xs.length->Ic ks xs id=if id∈ks then some (xs.getD (ks.idxOf id) Fe) else none
  | [],[],id,_=>by simp[Ic]
  | k :: ks, x :: xs, id, h => by
    rw[Ic];by_cases e:k=id
    ·subst e;simp
    rw[if_neg e, Fy ks xs id (by simpa using h)];have e1:(id∈k::ks)=(id∈ks):=by simp[Ne.symm e,eq_comm,λh:id=k=>e h.symm]
    rw[List.idxOf_cons];have e2:(k==id)=false:=by simpa using e
    simp[e1,e2]
  | [],_::_,_,h=>by cases h
  | _::_,[],_,h=>by cases h
theorem R6(x:Tree)(key id:Str):Pe x key id=Ic (Bf x key) x.items id:=by
  by_cases hm:id∈Bf x key
  ·have hne : Bf x key ≠ [] := λe => by rw[e]at hm;cases hm
   rw[Fy _ _ _ (H1 hne).1,if_pos hm];unfold Pe P3;rw[if_pos hm];rfl
  have e1 : Pe x key id = none := by unfold Pe P3;rw[if_neg hm];rfl
  rw[e1];symm;cases h:Ic (Bf x key) x.items id with
  | none=>rfl
  | some y=>exact absurd (Ey h) hm
def Di(g:Str->Option Tree)(ks:List Str):Nat:=(ks.map λk=>Ve (g k)).sum
theorem X9{g h:Str->Option Tree}{c:Str->Nat}:∀{ks:List Str},(∀k∈ks,Ve (g k)<=c k+Ve (h k))->Di g ks<=(ks.map c).sum+Di h ks
  | [],_=>by simp[Di]
  | k :: ks, H => by
    have ih:=X9 (g:=g) (h:=h) (c:=c) (ks:=ks) λk hk=>H k (by simp[hk]);have h1:=H k Pa;unfold Di at ih ⊢;simp only[List.map_cons,List.sum_cons];omega
theorem O3(k0:Str)(s:Nat):∀{ks:List Str},ks.Nodup->(ks.map λk=>if k0=k then s else 0).sum<=s
  | [],_=>by simp
  | k :: ks, h => by
    obtain⟨h1,h2⟩:=List.nodup_cons.1 h;have ih:=O3 k0 s h2;simp only[List.map_cons,List.sum_cons];by_cases e:k0=k
    ·have:(ks.map λk=>if k0=k then s else 0).sum=0:=by
       have hz:∀l:List Str,k∉l->(l.map λk=>if k0=k then s else 0).sum=0:=by
         intro l hl
         induction l with
         | nil=>rfl
         | cons a l ih =>
           simp only[List.map_cons,List.sum_cons];rw[ih (λh=>hl (by simp[h])),if_neg (λh=>hl (by simp[<-h,e]))]
       exact hz ks h1
     rw[this,if_pos e];omega
    rw[if_neg e];omega
theorem Uq{qs:List Str}(hq:qs.Nodup):∀(ks:List Str)(xs:List Tree),Di (Ic ks xs) qs<=Za xs
  | k :: ks, x :: xs => by
    have ih:=Uq hq ks xs;have h1:=X9 (g:=Ic (k::ks) (x::xs)) (h:=Ic ks xs) (c:=λq=>if k=q then Gb x else 0) (ks:=qs) λq _=>by
      rw[Ic];split
      ·simp only[Ve];omega
      omega
    have h2:=O3 k (Gb x) hq;rw[Za];omega
  | [], xs => by
    have:∀l:List Str,Di (Ic [] xs) l=0:=λl=>by
      induction l with
      | nil=>rfl
      | cons a l ih=>unfold Di at ih ⊢;rw[List.map_cons,List.sum_cons,ih];simp[Ic,Ve]
    rw[this];omega
  | k' :: ks', [] => by
    have:∀l:List Str,Di (Ic (k'::ks') []) l=0:=λl=>by
      induction l with
      | nil=>rfl
      | cons a l ih=>unfold Di at ih ⊢;rw[List.map_cons,List.sum_cons,ih];simp[Ic,Ve]
    rw[this];omega
theorem Ri(g:Str->Option Tree){ks:List Str}{j:Nat}(h:j<ks.length):Di g (ks.take (j+1))=Di g (ks.take j)+Ve (g (ks.getD j [])):=by
  unfold Di;rw[iQ h,jQ,List.sum_append];simp[List.getD,h]
theorem Hq(g:Str->Option Tree)(ks:List Str)(j:Nat):Di g (ks.take j)<=Di g ks:=by
  conv=>rhs;rw[<-List.take_append_drop j ks]
  unfold Di;rw[jQ,List.sum_append];omega
theorem Jn{qs:List Str}(hq:qs.Nodup)(x:Tree):Di (Am x) qs+1<=Gb x:=by
  cases x with|node k t ks xs=>exact (by have:=Uq hq ks xs;rw[Gb];show Di (Ic ks xs) qs+1<=_;omega)
theorem Yk{qs:List Str}(hq:qs.Nodup)(x:Tree)(key:Str):Di (Pe x key) qs+1<=Gb x:=by
  have e:Pe x key=Ic (Bf x key) x.items:=funext λid=>R6 x key id;rw[e];have:=Uq hq (Bf x key) x.items;cases x with|node k t ks xs=>rw[Gb];show Di _ qs+1<=_;simp only[Tree.items]at *;omega
theorem M4(m:List (Nat × Nat)):U5 (T8 m)=m:=by
  unfold U5 T8;rw[List.map_map];exact (List.map_congr_left λz _=>by simp).trans (List.map_id _)
theorem Y6(v:List Tree)(gp:Nat->List Int)(im:Nat->Int):∀(d j:Nat),j+d<=v.length->(rng j (j+d)).filterMap (λi=>(By.mk v gp im).at i)=(v.drop j).take d
  | 0,j,_=>by simp[rng]
  | d + 1, j, h => by
    have e:rng j (j+(d+1))=(j:Int)::rng (j+1) (j+1+d):=by
      unfold rng;rw[show j+(d+1)-j=d+1 by omega,show j+1+d-(j+1)=d by omega,List.range'_succ,List.map_cons]
    rw[e,List.filterMap_cons];have e2:(By.mk v gp im).at (j:Int)=some v[j]:=by
      unfold By.at;rw[if_neg Ca];simp
    rw[e2,Y6 v gp im d (j+1) Ca,List.drop_eq_getElem_cons (show j<v.length by omega),List.take_succ_cons]
theorem UE(base v:List Tree):∃a:Nat->Nat,a 0=0/\a base.length<=v.length/\(Le base v).put base.length=v.drop (a base.length) /\
    ∀k,k<base.length->(∃b,a k<=b/\b<v.length/\a (k+1)=b+1/\(Le base v).item k=v[b]?/\(Le base v).put k=(v.drop (a k)).take (b-a k))\/((Le base v).item k=none/\(Le base v).put k=[]/\a (k+1)=a k):=by
  obtain⟨mp,e,hr⟩:=HF base v;have em:Le base v=⟨v,Ej base.length v.length mp 0 (λ_=>[]),Ex mp (λ_=>-1)⟩:=by
    unfold Le;rw[e,M4]
  obtain⟨h1,h2,h3⟩:=X4 mp 0 0 (λ_=>[]) (λ_=>-1) hr (Nat.zero_le _) (λ_ _=>rfl) (λ_ _=>rfl);rw[em];have hb:∀k,Rq mp 0 k<=v.length:=λk=>HC hr;refine⟨Rq mp 0,L_ hr (gQ _),h3,?_,λk hk=>?_⟩
  ·unfold By.put
   rw[show (By.mk v (Ej base.length v.length mp 0 λ_=>[]) (Ex mp λ_=>-1)).gap base.length=rng (Rq mp 0 base.length) (Rq mp 0 base.length+(v.length-Rq mp 0 base.length)) by rw[Nat.add_sub_cancel' h3];exact h2];rw[Y6 _ _ _ _ _ Ca];exact List.take_of_length_le (by rw[List.length_drop];omega)
  rcases h1 k (Nat.zero_le _) hk with ⟨b, k1, k2, k3, k4⟩|⟨k1, k2, k3⟩
  ·have hb1 := hb (k + 1)
   refine .inl ⟨b,k4,by omega,k3,?_,?_⟩
   ·unfold By.item By.at
    simp only[k1];rw[if_neg Ca];simp
   unfold By.put;rw[show (By.mk v (Ej base.length v.length mp 0 λ_=>[]) (Ex mp λ_=>-1)).gap k=rng (Rq mp 0 k) (Rq mp 0 k+(b-Rq mp 0 k)) by rw[Nat.add_sub_cancel' k4];exact k2];exact Y6 _ _ _ _ _ Ca
  refine .inr ⟨?_, ?_, k3⟩
  ·unfold By.item By.at
   simp only[k1];rfl
  unfold By.put;simp only[k2];rfl
def wG(y:By):Nat->Nat
  | 0=>0
  | j+1=>wG y j+Za (y.put j)+Ve (y.item j)
theorem Tk(base v:List Tree):∀j,j<=base.length->wG (Le base v) j+(if j=base.length then Za ((Le base v).put j) else 0)<=Za v:=by
  obtain⟨a,a0,an,hp,hk⟩:=UE base v;have key:∀j,j<=base.length->wG (Le base v) j=Za (v.take (a j)):=by
    intro j
    induction j with
    | zero=>intro _;rw[a0];rfl
    | succ j ih =>
      intro hj;rw[wG,ih Ca];rcases hk j Ca with ⟨b,h1,h2,h3,h4,h5⟩|⟨h1,h2,h3⟩
      ·rw[h4, h5, h3, List.getElem?_eq_getElem h2]
       have e1:v.take (b+1)=v.take (a j)++((v.drop (a j)).take (b-a j)++[v[b]]):=by
         rw[<-sQ,<-List.take_add,Nat.add_sub_cancel' h1,iQ h2]
       rw[e1,Oc,Oc];simp only[Ve,Za];omega
      rw[h1,h2,h3];simp[Za,Ve]
  intro j hj;rw[key j hj];by_cases e:j=base.length
  ·subst e
   rw[if_pos rfl,hp,<-Oc,List.take_append_drop];exact gQ _
  rw[if_neg e];have:Za v=Za (v.take (a j))+Za (v.drop (a j)):=by rw[<-Oc,List.take_append_drop]
  omega
section
variable {f:Str->Nat->Mo}{n:Nat}{ks:List Str}{gl gr:Str->Option Tree}
theorem Aq(H:∀k n,(f k n).2.length<=Ve (gl k)+Ve (gr k)):∀j,j<=ks.length->(Kk f n ks j).2.length<=Di gl (ks.take j)+Di gr (ks.take j)
  | 0,_=>by simp[Kk]
  | j + 1, hj => by
    have ih:=Aq H j Ca;have h1:=H (ks.getD j []) (n+(Kk f n ks j).2.length);rw[Kk,dQ,Ri gl Ca,Ri gr Ca];omega
end
theorem Nw(p:List Str)(g n:Nat)(xs ys:List Tree):(Ws p g n xs ys).2.length<=Za xs+Za ys:=by
  unfold Ws;split
  ·simp
  rename_i h
  split
  ·simp
  have := Cj xs;simp only[kQ,List.length_nil];omega
theorem Lp{f:Fm}{p:List Str}{n:Nat}{base:List Tree}{x y:By}(H:∀s n k,(f (p++[s]) n base[k]? (x.item k) (y.item k)).2.length<=Ve (x.item k)+Ve (y.item k)):∀j,(Aj f p n base x y j).2.length<=wG x j+wG y j
  | 0=>by simp[Aj]
  | j + 1 => by
    have ih:=Lp (n:=n) H j;have h1:=Nw p j (n+(Aj f p n base x y j).2.length) (x.put j) (y.put j);have h2:=H (Lib.itoa j) (n+((Aj f p n base x y j).2++(Ws p j (n+(Aj f p n base x y j).2.length) (x.put j) (y.put j)).2).length) j;have e:∀A B C:List Cf,(A++B++C).length=A.length+B.length+C.length:=λA B C=>by rw[dQ,dQ]
    rw[Aj,e,wG,wG];omega
theorem Ai{p:List Str}{cls:Int}{n:Nat}{b l r:Option Tree}(h:¬Ii l r=true):(Ts p cls n b l r).2.length<=Ve l+Ve r:=by
  have:1<=Ve l+Ve r:=by
    cases l with
    | some x=>have:=Hk x;simp only[Ve];omega
    | none =>
      cases r with
      | some x=>have:=Hk x;simp only[Ve];omega
      | none=>exact absurd rfl h
  simp only[Ts,kQ,List.length_nil];omega
theorem Ft{rl:List Rl}:∀(F:Nat)(p:List Str)(n:Nat)(b l r:Option Tree),(Em rl F p n b l r).2.length<=Ve l+Ve r:=by
  intro F
  induction F with
  | zero=>intro p n b l r;simp[Em]
  | succ F ih =>
    intro p n b l r;rw[Em];split
    ·simp
    rename_i c1
    split
    ·simp
    split
    ·simp
    cases b with
    | none=>exact Ai c1
    | some x =>
      cases l with
      | none=>exact Ai c1
      | some y =>
        cases r with
        | none=>exact Ai c1
        | some z =>
          simp only[N8];split
          ·split
           ·have h1 := Aq (n := n) (λk n => ih (p ++ [k]) n (Am x k) (Am y k) (Am z k)) (Bg [y.keys, z.keys]).length (gQ _)
            rw[List.take_length]at h1;have h2:=Jn (He [y.keys,z.keys]) y;have h3:=Jn (He [y.keys,z.keys]) z;unfold VM;simp only[Ve];omega
           split
           ·have hgap:(Hx.gapM (Em rl F) p n x y z).2.length<=Ve (some y)+Ve (some z):=by
              unfold Hx.gapM;split
              ·unfold AE
               have h1:=Lp (n:=n) (base:=x.items) (x:=Le x.items y.items) (y:=Le x.items z.items) (λs n k=>ih (p++[s]) n _ _ _) x.items.length;have h2:=Nw p x.items.length (n+(Aj (Em rl F) p n x.items (Le x.items y.items) (Le x.items z.items) x.items.length).2.length) ((Le x.items y.items).put x.items.length) ((Le x.items z.items).put x.items.length);have h3:=Tk x.items y.items x.items.length (gQ _);have h4:=Tk x.items z.items x.items.length (gQ _);rw[if_pos rfl]at h3 h4;have h5:∀v:Tree,Za v.items<=Gb v:=λv=>by cases v;rw[Gb];simp only[Tree.items];omega
               have h6:=h5 y;have h7:=h5 z;simp only[dQ,Ve];omega
              exact Ai c1
            rw[Hx];cases Z8 rl p with
            | none=>exact hgap
            | some key =>
              simp only;split
              ·have h1 := Aq (n := n) (λk n => ih (p ++ [C6 k]) n (Pe x key k) (Pe y key k) (Pe z key k)) (Bg [Bf y key, Bf z key]).length (gQ _)
               rw[List.take_length]at h1;have h2:=Yk (He [Bf y key,Bf z key]) y key;have h3:=Yk (He [Bf y key,Bf z key]) z key;unfold SG;simp only;split
               ·simp only[Ve];omega
               exact Ai c1
              exact hgap
           exact Ai c1
          exact Ai c1
end Go.Scarf
