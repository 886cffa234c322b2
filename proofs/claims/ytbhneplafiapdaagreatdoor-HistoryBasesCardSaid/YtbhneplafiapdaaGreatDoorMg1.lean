/- A part of the proof. -/
import Derived.Test.YtbhneplafiapdaaGreatDoorA4
set_option linter.all false
set_option maxHeartbeats 8000000
set_option maxRecDepth 10000
namespace Go.Scarf
open Go.RowKit
structure Sd where
  has:Bool
  val:Tree
structure Cf where
  path:List Str
  cls:Int
  b:Sd
  l:Sd
  r:Sd
structure Rl where
  pat:List Str
  key:Str
def noS:Sd:=⟨false,Ge⟩
def Qn:Option Tree->Sd
  | some x=>⟨true,x⟩
  | none=>noS
def Hi:Option Tree->Option Tree->Bool
  | some x,some y=>Je x y
  | none,none=>true
  | _,_=>false
def B4(n:Nat):Str:=Jk (FB n)
def Xp(n:Nat):Tree:=.node 7 (B4 n) [] []
def E5(s:Str):Str:=61::s
def KP(g:Nat):Str:=43::Lib.itoa g
structure Mt where
  i:Nat
  k:Nat
  star:Option Nat
  taken:Nat
def F9:Str:=[42,42]
def UR:Str:=[42]
def BN(p q:List Str)(m:Mt):Option Mt :=
  if p[m.i]? = some F9 then some ⟨m.i+1,m.k,some m.i,m.k⟩
  else if p[m.i]? = some UR\/(p[m.i]?≠none/\p[m.i]? = q[m.k]?) then some ⟨m.i+1,m.k+1,m.star,m.taken⟩
  else match m.star with
    | some s=>some ⟨s+1,m.taken+1,some s,m.taken+1⟩
    | none=>none
def AN(p q:List Str):Nat->Mt->Bool
  | 0,_=>false
  | f+1,m=>if m.k<q.length then (match BN p q m with|some m'=>AN p q f m'|none=>false) else (p.drop m.i).all λs=>decide (s=F9)
def NQ(p q:List Str)(m:Mt):Nat:=(p.length-(match m.star with|some s=>s|none=>0)+(if m.star=none then 1 else 0))*((q.length+1)*(q.length+1))+(q.length-m.taken)*(q.length+1)+(q.length-m.k)
def A7(p q:List Str):Bool:=decide (p.length<=200)&&(decide (q.length<=200)&&AN p q 10000000 ⟨0,0,none,0⟩)
def F_(rl:List Rl)(path:List Str):Option Str:=(rl.find? λx=>A7 x.pat path).map (·.key)
def K8(l:List Str):Bool:=decide l.Nodup&&decide (l.length<=256)
def Uk(p:List Str)(x y:Str):Int:=if x∈p/\y∈p then Lib.compareInt (p.idxOf x) (p.idxOf y) else 0
def GE(b l r:List Str)(x y:Str):Option Int :=
  if Uk b x y≠0/\(Uk l x y = - Uk b x y\/Uk r x y = - Uk b x y) then some (- Uk b x y)
  else if Uk b x y≠0 then some (Uk b x y)
  else if Uk l x y*Uk r x y<0 then none
  else some (if Uk l x y≠0 then Uk l x y else Uk r x y)
def QP(b l r:List Str)(rest:List Str)(s:Str):Bool:=rest.all λy=>decide (y=s) || decide (GE b l r y s≠some (-1))
def Yr(b l r:List Str):Nat->List Str->Option (List Str)
  | 0,_=>some []
  | f + 1, rest => match rest.find? (QP b l r rest)with
    | some s=>(Yr b l r f (rest.erase s)).map (s::·)
    | none=>none
def CM(b l r names:List Str):Bool:=(List.range names.length).any λi=>(names.take i).any λy=>decide (GE b l r (names.getD i []) y=none)
def Bw(b l r names:List Str):Option (List Str) :=
  if K8 b=true/\K8 l=true/\K8 r=true/\K8 names=true/\CM b l r names=false then Yr b l r names.length (Rm names) else none
abbrev Mo:=Option Tree × List Cf
def Rs(path:List Str)(cls:Int)(n:Nat)(b l r:Option Tree):Mo:=(some (Xp n),[⟨path,cls,Qn b,Qn l,Qn r⟩])
def LR:Option Tree->Option Tree->Option Tree->Int
  | none,_,_=>4
  | some x,some y,some z=>if x.kind=y.kind/\x.kind=z.kind then 1 else 2
  | _,_,_=>3
def CL(k:Str):Option Tree->List (Str × Tree)
  | some x=>[(k,x)]
  | none=>[]
def Hk(f:Str->Nat->Mo)(n:Nat)(ks:List Str):Nat->List (Str × Tree) × List Cf
  | 0=>([],[])
  | j + 1 =>
    let a:=Hk f n ks j
    let q:=f (ks.getD j []) (n+a.2.length)
    (a.1++CL (ks.getD j []) q.1,a.2++q.2)
def Yl(x:Tree)(key:Str):Option Tree:=Oc x.keys x.items key
def Te(x:Tree)(key id:Str):Option Tree:=if (D1 x key id).2=true then some (D1 x key id).1 else none
def Ls(path:List Str)(g n:Nat)(p q:List Tree):List Tree × List Cf :=
  if p.length=0 then (q,[]) else if q.length=0\/Je (.node 5 [] [] p) (.node 5 [] [] q)=true then (p,[])
  else ([Xp n],[⟨path++[KP g],5,⟨true,.node 5 [] [] []⟩,⟨true,.node 5 [] [] p⟩,⟨true,.node 5 [] [] q⟩⟩])
structure By where
  items:List Tree
  gap:Nat->List Int
  img:Nat->Int
def By.at(y:By)(i:Int):Option Tree:=if i<0 then none else y.items[i.toNat]?
def By.put(y:By)(g:Nat):List Tree:=(y.gap g).filterMap λi=>y.at i
def By.item(y:By)(k:Nat):Option Tree:=y.at (y.img k)
def Q5(m:List (Int × Int)):List (Nat × Nat):=m.map λz=>(z.1.toNat,z.2.toNat)
def Qe(base v:List Tree):By :=
  let m:=Q5 (pth 0 0 (base.map En) (v.map En))
  ⟨v,Wi base.length v.length m 0 (λ_=>[]),Sw m (λ_=>-1)⟩
def Zi(f:List Str->Nat->Option Tree->Option Tree->Option Tree->Mo)(path:List Str)(n:Nat)(base:List Tree)(x y:By):Nat->List Tree × List Cf
  | 0=>([],[])
  | j + 1 =>
    let a:=Zi f path n base x y j
    let p:=Ls path j (n+a.2.length) (x.put j) (y.put j)
    let q:=f (path++[Lib.itoa j]) (n+(a.2++p.2).length) base[j]? (x.item j) (y.item j)
    (a.1++p.1++q.1.toList,a.2++p.2++q.2)
def SD(f:List Str->Nat->Option Tree->Option Tree->Option Tree->Mo)(path:List Str)(n:Nat)(base:List Tree)(x y:By):Mo :=
  let a:=Zi f path n base x y base.length
  let p:=Ls path base.length (n+a.2.length) (x.put base.length) (y.put base.length)
  (some (.node 5 [] [] (a.1++p.1)),a.2++p.2)
def YL(f:List Str->Nat->Option Tree->Option Tree->Option Tree->Mo)(path:List Str)(n:Nat)(b l r:Tree):Mo :=
  let ks:=Xf [l.keys,r.keys]
  let a:=Hk (λk m=>f (path++[k]) m (Yl b k) (Yl l k) (Yl r k)) n ks ks.length
  (some (.node 6 [] (a.1.map (·.1)) (a.1.map (·.2))),a.2)
def Sr(m:List (Str × Tree))(id:Str):Tree:=(Oc (m.map (·.1)) (m.map (·.2)) id).getD Ge
def JI(f:List Str->Nat->Option Tree->Option Tree->Option Tree->Mo)(path:List Str)(n:Nat)(key:Str)(b l r:Tree):Mo :=
  let ids:=Xf [Bf l key,Bf r key]
  let a:=Hk (λid m=>f (path++[E5 id]) m (Te b key id) (Te l key id) (Te r key id)) n ids ids.length
  match Bw (Bf b key) (Bf l key) (Bf r key) (a.1.map (·.1))with
  | some o=>(some (.node 5 [] [] (o.map (Sr a.1))),a.2)
  | none=>Rs path 6 n (some b) (some l) (some r)
def NR(key:Str)(b l r:Tree):Bool:=(G6 b key).isSome&&((G6 l key).isSome&&(G6 r key).isSome)
def Ex(rl:List Rl)(f:List Str->Nat->Option Tree->Option Tree->Option Tree->Mo)(path:List Str)(n:Nat)(b l r:Tree):Mo :=
  match F_ rl path with
  | some key=>if NR key b l r=true then JI f path n key b l r else gapM
  | none=>gapM
where gapM:Mo:=if WK b.items=0/\WK l.items=0/\WK r.items=0 then SD f path n b.items (Qe b.items l.items) (Qe b.items r.items) else Rs path 1 n (some b) (some l) (some r)
def I_(rl:List Rl)(f:List Str->Nat->Option Tree->Option Tree->Option Tree->Mo)(path:List Str)(n:Nat):Option Tree->Option Tree->Option Tree->Mo
  | some x, some y, some z =>
    if x.kind=y.kind/\x.kind=z.kind then
      if x.kind=6 then YL f path n x y z else if x.kind=5 then Ex rl f path n x y z else Rs path 1 n (some x) (some y) (some z)
    else Rs path 2 n (some x) (some y) (some z)
  | b,l,r=>Rs path (LR b l r) n b l r
def Dm(rl:List Rl):Nat->List Str->Nat->Option Tree->Option Tree->Option Tree->Mo
  | 0,_,_,_,l,_=>(l,[])
  | F+1,path,n,b,l,r=>if Hi l r=true then (l,[]) else if Hi b l=true then (r,[]) else if Hi b r=true then (l,[]) else I_ rl (Dm rl F) path n b l r
def Tx(x:Rl):Bool:=Lib.validD x.key&&(decide (x.pat.length<=64)&&x.pat.all Lib.validD)
def Cr(rl:List Rl):Bool:=decide (rl.length<=32)&&rl.all Tx
def W_(q:Mo):Tree × List Cf × Int:=if Qh (q.1.getD Ge)=true then (q.1.getD Ge,q.2,0) else (Ge,[],6)
def OD(rl:List Rl)(b l r:Tree):Prop:=Kc b=true/\Kc l=true/\Kc r=true/\Cr rl=true
instance (rl:List Rl) (b l r:Tree):Decidable (OD rl b l r):=inferInstanceAs (Decidable (_/\_/\_/\_))
def Oj(rl:List Rl)(b l r:Tree):Tree × List Cf × Int:=if OD rl b l r then W_ (Dm rl 40 [] 0 (some b) (some l) (some r)) else (Ge,[],1)
def Fx(s:Sd):Sd:=if s.has=true then ⟨true,Gs s.val⟩ else noS
def XO(c:Cf)(p:Int):Sd × Bool:=if p=0 then (Fx c.b,true) else if p=1 then (Fx c.l,true) else if p=2 then (Fx c.r,true) else (noS,false)
mutual
def S7:Tree->List Str
  | .node k t _ xs=>(if k=7 then [t] else [])++Ij xs
def Ij:List Tree->List Str
  | []=>[]
  | x::xs=>S7 x++Ij xs
end
def RQ:Cf:=⟨[],0,noS,noS,noS⟩
def Qr(v:Tree):Int:=if v.kind≠7 then -1 else if (Md v.text).2≠0 then -1 else (E3 (Md v.text).1).1
def PQ(l:List Cf)(pick:List Int)(i:Int):Sd:=(XO (l.getD i.toNat RQ) (pick.getD i.toNat 0)).1
def LL(l:List Cf)(k:Int)(key:Str)(h:Int)(s:Sd):List Str × List Tree :=
  if s.has=true then
    if k=6 then ([key],[s.val])
    else if 0<=h/\(l.getD h.toNat RQ).cls=5 then ([],s.val.items)
    else ([],[s.val])
  else ([],[])
mutual
def Wr(l:List Cf)(pick:List Int):Tree->Sd
  | .node k t ks xs =>
    if 0<=Qr (.node k t ks xs) then PQ l pick (Qr (.node k t ks xs))
    else ⟨true,.node k t (S6 l pick k ks xs).1 (S6 l pick k ks xs).2⟩
def S6(l:List Cf)(pick:List Int)(k:Int):List Str->List Tree->List Str × List Tree
  | _,[]=>([],[])
  | ks, x :: xs =>
    let a:=LL l k (ks.headD []) (Qr x) (Wr l pick x)
    let b:=S6 l pick k ks.tail xs
    (a.1++b.1,a.2++b.2)
end
mutual
def MC:Tree->Tree
  | .node k t ks xs=>.node k (if k=7 then [] else t) ks (B_ xs)
def B_:List Tree->List Tree
  | []=>[]
  | x::xs=>MC x::B_ xs
end
def PE(o:Option Tree):Option Tree:=o.map MC
def pre(p:List Str)(c:Cf):Cf:={ c with path:=p++c.path }
theorem F8(p q:List Str)(R:List Cf):R.map (pre (p++q))=(R.map (pre q)).map (pre p):=by
  rw[List.map_map];refine List.map_congr_left λc _=>?_;simp[pre]
def Vj:Option Tree->Nat
  | some x=>Ce x
  | none=>0
theorem D0{x y:Tree}{key:Str}(h:Yl x key=some y):y∈x.items:=Mk h
theorem Mw{x y:Tree}{key id:Str}(h:Te x key id=some y):y∈x.items:=by
  unfold Te at h;split at h
  ·rename_i h2
   obtain rfl:=lQ h;unfold D1 at h2 ⊢;split at h2
   ·rename_i hm
    rw[if_pos hm];have hne:Bf x key≠[]:=λe=>by rw[e]at hm;cases hm
    have h1:=(U4 hne).1;have h3:=List.idxOf_lt_length_iff.2 hm;simp only[List.getD,List.getElem?_eq_getElem (show (Bf x key).idxOf id<x.items.length by omega),Option.getD_some];exact eQ _
   cases h2
  cases h
theorem V5{y:By}{i:Int}{x:Tree}(h:y.at i=some x):x∈y.items:=by
  unfold By.at at h;split at h
  ·cases h
  exact List.mem_of_getElem? h
theorem Zs{y:By}{g:Nat}{x:Tree}(h:x∈y.put g):x∈y.items:=by
  unfold By.put at h;obtain⟨i,_,hi⟩:=List.mem_filterMap.1 h;exact V5 hi
section
variable {f g:Str->Nat->Mo}{p q:List Str}{n m:Nat}{ks:List Str}
def Twin(p q:List Str)(a b:Mo):Prop:=∃R:List Cf,a.2=R.map (pre p)/\b.2=R.map (pre q)/\PE a.1=PE b.1
theorem Twin.up{s:List Str}{a b:Mo}(h:Twin (p++s) (q++s) a b):Twin p q a b:=by
  obtain⟨R,h1,h2,h3⟩:=h;exact⟨R.map (pre s),by rw[h1,F8],by rw[h2,F8],h3⟩
end
abbrev Fm:=List Str->Nat->Option Tree->Option Tree->Option Tree->Mo
end Go.Scarf
namespace Go.Scarf
section
variable {α:Type}(sz:α->Nat)(p:α->α->Nat)
inductive AliP:Nat->Nat->List α->List α->List (Nat × Nat)->Nat->Prop
  | nil {i j:Nat}:AliP i j [] [] [] 0
  | pair {i j:Nat} {x y:α} {xs ys:List α} {m:List (Nat × Nat)} {c:Nat}:AliP (i+1) (j+1) xs ys m c->AliP i j (x::xs) (y::ys) ((i,j)::m) (p x y+c)
  | drop {i j:Nat} {x:α} {xs ys:List α} {m:List (Nat × Nat)} {c:Nat}:AliP (i+1) j xs ys m c->AliP i j (x::xs) ys m (sz x+c)
  | add {i j:Nat} {y:α} {xs ys:List α} {m:List (Nat × Nat)} {c:Nat}:AliP i (j+1) xs ys m c->AliP i j xs (y::ys) m (sz y+c)
end
section
variable {α:Type}{sz:α->Nat}{p:α->α->Nat}
theorem RiseN.low{n size:Nat}{i j k l:Nat}{m:List (Nat × Nat)}(h:RiseN n size k l m)(h1:i<=k)(h2:j<=l):RiseN n size i j m:=by
  cases m with
  | nil=>have h:l<=size:=h;exact fQ h2 h
  | cons z m=>exact⟨fQ h1 h.1,h.2.1,fQ h2 h.2.2.1,h.2.2.2⟩
theorem AliP.rise{i j:Nat}{xs ys:List α}{m:List (Nat × Nat)}{c:Nat}(h:AliP sz p i j xs ys m c):RiseN (i+xs.length) (j+ys.length) i j m:=by
  induction h with
  | nil=>exact gQ _
  | @pair i j x y xs ys m c _ ih =>
    rw[kQ,kQ,show i+(xs.length+1)=i+1+xs.length by omega,show j+(ys.length+1)=j+1+ys.length by omega];exact⟨gQ _,by show i<_;omega,gQ _,by show j<_;omega,ih⟩
  | @drop i j x xs ys m c _ ih =>
    rw[kQ,show i+(xs.length+1)=i+1+xs.length by omega];exact ih.low (Nat.le_succ _) (gQ _)
  | @add i j y xs ys m c _ ih =>
    rw[kQ,show j+(ys.length+1)=j+1+ys.length by omega];exact ih.low (gQ _) (Nat.le_succ _)
theorem X2:∀(xs:List α)(i j:Nat),AliP sz p i j xs [] [] (al sz p xs [])
  | [],_,_=>.nil
  | x::xs,i,j=>by rw[FQ];exact .drop (X2 xs (i+1) j)
theorem Wx:∀(ys:List α)(i j:Nat),AliP sz p i j [] ys [] (al sz p [] ys)
  | [],_,_=>.nil
  | y::ys,i,j=>by rw[IQ];exact .add (Wx ys i (j+1))
end
theorem SI(la lb:List TreeN):∀(k i j:Nat),(la.length-i)+(lb.length-j)<=k->∃mp,pth i j (la.drop i) (lb.drop j)=I9 mp/\AliP Ru pN i j (la.drop i) (lb.drop j) mp (al Ru pN (la.drop i) (lb.drop j)):=by
  intro k
  induction k with
  | zero =>
    intro i j hk;rw[Qz Ca,List.drop_eq_nil_of_le (show la.length<=i by omega),List.drop_eq_nil_of_le (show lb.length<=j by omega)];exact⟨[],O,.nil⟩
  | succ k ih =>
    intro i j hk;by_cases h1:i<la.length
    ·by_cases h2 : j<lb.length
     ·have hc := JO (sz := Ru) (p := pN) la[i] lb[j] (la.drop (i + 1)) (lb.drop (j + 1))
      rw[CE h1 h2];by_cases c1:al Ru pN (la.drop i) (lb.drop j)=pN la[i] lb[j]+al Ru pN (la.drop (i+1)) (lb.drop (j+1))
      ·obtain⟨mp, e, h⟩ := ih (i + 1) (j + 1) Ca
       rw[if_pos c1,e,c1,List.drop_eq_getElem_cons h1,List.drop_eq_getElem_cons h2];exact⟨(i,j)::mp,O,.pair h⟩
      rw[if_neg c1];by_cases c2:al Ru pN (la.drop i) (lb.drop j)=Ru la[i]+al Ru pN (la.drop (i+1)) (lb.drop j)
      ·obtain⟨mp, e, h⟩ := ih (i + 1) j Ca
       rw[if_pos c2,e,c2];refine⟨mp,O,?_⟩;rw[List.drop_eq_getElem_cons h1];exact .drop h
      obtain⟨mp, e, h⟩ := ih i (j + 1) Ca;have c3:al Ru pN (la.drop i) (lb.drop j)=Ru lb[j]+al Ru pN (la.drop i) (lb.drop (j+1)):=by
        rw[<-List.drop_eq_getElem_cons h1,<-List.drop_eq_getElem_cons h2]at hc;omega
      rw[if_neg c2,e,c3];refine⟨mp,O,?_⟩;rw[List.drop_eq_getElem_cons h2];exact .add h
     rw[Qz Ca, List.drop_eq_nil_of_le (show lb.length <= j by omega)];exact⟨[],O,X2 _ _ _⟩
    rw[Qz Ca, List.drop_eq_nil_of_le (show la.length <= i by omega)];exact⟨[],O,Wx _ _ _⟩
theorem SE(a b:List Tree):∃mp,pth 0 0 (a.map En) (b.map En)=I9 mp/\RiseN a.length b.length 0 0 mp:=by
  obtain⟨mp,e,h⟩:=SI (a.map En) (b.map En) _ 0 0 (gQ _);rw[List.drop_zero,List.drop_zero]at e h;have hr:=h.rise;rw[Nat.zero_add,Nat.zero_add,rQ,rQ]at hr;exact⟨mp,e,hr⟩
end Go.Scarf
namespace Go.Scarf
open Go.RowKit
section
variable {f:Str->Nat->Mo}{n:Nat}{ks:List Str}
end
end Go.Scarf
namespace Go.Scarf
open Go.RowKit
def Ye:Option Tree->Nat
  | some x=>Jb x
  | none=>0
theorem Bz:∀(ks:List Str)(xs:List Tree)(id:Str),ks.length=xs.length->Oc ks xs id=if id∈ks then some (xs.getD (ks.idxOf id) Ge) else none
  | [],[],id,_=>by simp[Oc]
  | k :: ks, x :: xs, id, h => by
    rw[Oc];by_cases e:k=id
    ·subst e;simp
    rw[if_neg e, Bz ks xs id (by simpa using h)];have e1:(id∈k::ks)=(id∈ks):=by simp[Ne.symm e,eq_comm,λh:id=k=>e h.symm]
    rw[List.idxOf_cons];have e2:(k==id)=false:=by simpa using e
    simp[e1,e2]
  | [],_::_,_,h=>by cases h
  | _::_,[],_,h=>by cases h
theorem N5(x:Tree)(key id:Str):Te x key id=Oc (Bf x key) x.items id:=by
  by_cases hm:id∈Bf x key
  ·have hne : Bf x key ≠ [] := λe => by rw[e]at hm;cases hm
   rw[Bz _ _ _ (U4 hne).1,if_pos hm];unfold Te D1;rw[if_pos hm];rfl
  have e1 : Te x key id = none := by unfold Te D1;rw[if_neg hm];rfl
  rw[e1];symm;cases h:Oc (Bf x key) x.items id with
  | none=>rfl
  | some y=>exact absurd (Zy h) hm
def Ci(g:Str->Option Tree)(ks:List Str):Nat:=(ks.map λk=>Ye (g k)).sum
theorem Y8{g h:Str->Option Tree}{c:Str->Nat}:∀{ks:List Str},(∀k∈ks,Ye (g k)<=c k+Ye (h k))->Ci g ks<=(ks.map c).sum+Ci h ks
  | [],_=>by simp[Ci]
  | k :: ks, H => by
    have ih:=Y8 (g:=g) (h:=h) (c:=c) (ks:=ks) λk hk=>H k (by simp[hk]);have h1:=H k Pa;unfold Ci at ih ⊢;simp only[List.map_cons,List.sum_cons];omega
theorem K3(k0:Str)(s:Nat):∀{ks:List Str},ks.Nodup->(ks.map λk=>if k0=k then s else 0).sum<=s
  | [],_=>by simp
  | k :: ks, h => by
    obtain⟨h1,h2⟩:=List.nodup_cons.1 h;have ih:=K3 k0 s h2;simp only[List.map_cons,List.sum_cons];by_cases e:k0=k
    ·have:(ks.map λk=>if k0=k then s else 0).sum=0:=by
       have hz:∀l:List Str,k∉l->(l.map λk=>if k0=k then s else 0).sum=0:=by
         intro l hl
         induction l with
         | nil=>rfl
         | cons a l ih =>
           simp only[List.map_cons,List.sum_cons];rw[ih (λh=>hl (by simp[h])),if_neg (λh=>hl (by simp[<-h,e]))]
       exact hz ks h1
     rw[this,if_pos e];omega
    rw[if_neg e];omega
theorem Lq{qs:List Str}(hq:qs.Nodup):∀(ks:List Str)(xs:List Tree),Ci (Oc ks xs) qs<=Cb xs
  | k :: ks, x :: xs => by
    have ih:=Lq hq ks xs;have h1:=Y8 (g:=Oc (k::ks) (x::xs)) (h:=Oc ks xs) (c:=λq=>if k=q then Jb x else 0) (ks:=qs) λq _=>by
      rw[Oc];split
      ·simp only[Ye];omega
      omega
    have h2:=K3 k (Jb x) hq;rw[Cb];omega
  | [], xs => by
    have:∀l:List Str,Ci (Oc [] xs) l=0:=λl=>by
      induction l with
      | nil=>rfl
      | cons a l ih=>unfold Ci at ih ⊢;rw[List.map_cons,List.sum_cons,ih];simp[Oc,Ye]
    rw[this];omega
  | k' :: ks', [] => by
    have:∀l:List Str,Ci (Oc (k'::ks') []) l=0:=λl=>by
      induction l with
      | nil=>rfl
      | cons a l ih=>unfold Ci at ih ⊢;rw[List.map_cons,List.sum_cons,ih];simp[Oc,Ye]
    rw[this];omega
theorem Ri(g:Str->Option Tree){ks:List Str}{j:Nat}(h:j<ks.length):Ci g (ks.take (j+1))=Ci g (ks.take j)+Ye (g (ks.getD j [])):=by
  unfold Ci;rw[iQ h,jQ,List.sum_append];simp[List.getD,h]
theorem Kp(g:Str->Option Tree)(ks:List Str)(j:Nat):Ci g (ks.take j)<=Ci g ks:=by
  conv=>rhs;rw[<-List.take_append_drop j ks]
  unfold Ci;rw[jQ,List.sum_append];omega
theorem An{qs:List Str}(hq:qs.Nodup)(x:Tree):Ci (Yl x) qs+1<=Jb x:=by
  cases x with|node k t ks xs=>exact (by have:=Lq hq ks xs;rw[Jb];show Ci (Oc ks xs) qs+1<=_;omega)
theorem Fk{qs:List Str}(hq:qs.Nodup)(x:Tree)(key:Str):Ci (Te x key) qs+1<=Jb x:=by
  have e:Te x key=Oc (Bf x key) x.items:=funext λid=>N5 x key id;rw[e];have:=Lq hq (Bf x key) x.items;cases x with|node k t ks xs=>rw[Jb];show Ci _ qs+1<=_;simp only[Tree.items]at *;omega
theorem Z1(m:List (Nat × Nat)):Q5 (I9 m)=m:=by
  unfold Q5 I9;rw[List.map_map];exact (List.map_congr_left λz _=>by simp).trans (List.map_id _)
theorem F5(v:List Tree)(gp:Nat->List Int)(im:Nat->Int):∀(d j:Nat),j+d<=v.length->(rng j (j+d)).filterMap (λi=>(By.mk v gp im).at i)=(v.drop j).take d
  | 0,j,_=>by simp[rng]
  | d + 1, j, h => by
    have e:rng j (j+(d+1))=(j:Int)::rng (j+1) (j+1+d):=by
      unfold rng;rw[show j+(d+1)-j=d+1 by omega,show j+1+d-(j+1)=d by omega,List.range'_succ,List.map_cons]
    rw[e,List.filterMap_cons];have e2:(By.mk v gp im).at (j:Int)=some v[j]:=by
      unfold By.at;rw[if_neg Ca];simp
    rw[e2,F5 v gp im d (j+1) Ca,List.drop_eq_getElem_cons (show j<v.length by omega),List.take_succ_cons]
theorem UE(base v:List Tree):∃a:Nat->Nat,a 0=0/\a base.length<=v.length/\(Qe base v).put base.length=v.drop (a base.length) /\
    ∀k,k<base.length->(∃b,a k<=b/\b<v.length/\a (k+1)=b+1/\(Qe base v).item k=v[b]?/\(Qe base v).put k=(v.drop (a k)).take (b-a k))\/((Qe base v).item k=none/\(Qe base v).put k=[]/\a (k+1)=a k):=by
  obtain⟨mp,e,hr⟩:=SE base v;have em:Qe base v=⟨v,Wi base.length v.length mp 0 (λ_=>[]),Sw mp (λ_=>-1)⟩:=by
    unfold Qe;rw[e,Z1]
  obtain⟨h1,h2,h3⟩:=M4 mp 0 0 (λ_=>[]) (λ_=>-1) hr (Nat.zero_le _) (λ_ _=>rfl) (λ_ _=>rfl);rw[em];have hb:∀k,Pq mp 0 k<=v.length:=λk=>IF hr;refine⟨Pq mp 0,Y9 hr (gQ _),h3,?_,λk hk=>?_⟩
  ·unfold By.put
   rw[show (By.mk v (Wi base.length v.length mp 0 λ_=>[]) (Sw mp λ_=>-1)).gap base.length=rng (Pq mp 0 base.length) (Pq mp 0 base.length+(v.length-Pq mp 0 base.length)) by rw[Nat.add_sub_cancel' h3];exact h2];rw[F5 _ _ _ _ _ Ca];exact List.take_of_length_le (by rw[List.length_drop];omega)
  rcases h1 k (Nat.zero_le _) hk with ⟨b, k1, k2, k3, k4⟩|⟨k1, k2, k3⟩
  ·have hb1 := hb (k + 1)
   refine .inl ⟨b,k4,by omega,k3,?_,?_⟩
   ·unfold By.item By.at
    simp only[k1];rw[if_neg Ca];simp
   unfold By.put;rw[show (By.mk v (Wi base.length v.length mp 0 λ_=>[]) (Sw mp λ_=>-1)).gap k=rng (Pq mp 0 k) (Pq mp 0 k+(b-Pq mp 0 k)) by rw[Nat.add_sub_cancel' k4];exact k2];exact F5 _ _ _ _ _ Ca
  refine .inr ⟨?_, ?_, k3⟩
  ·unfold By.item By.at
   simp only[k1];rfl
  unfold By.put;simp only[k2];rfl
def wG(y:By):Nat->Nat
  | 0=>0
  | j+1=>wG y j+Cb (y.put j)+Ye (y.item j)
theorem Qk(base v:List Tree):∀j,j<=base.length->wG (Qe base v) j+(if j=base.length then Cb ((Qe base v).put j) else 0)<=Cb v:=by
  obtain⟨a,a0,an,hp,hk⟩:=UE base v;have key:∀j,j<=base.length->wG (Qe base v) j=Cb (v.take (a j)):=by
    intro j
    induction j with
    | zero=>intro _;rw[a0];rfl
    | succ j ih =>
      intro hj;rw[wG,ih Ca];rcases hk j Ca with ⟨b,h1,h2,h3,h4,h5⟩|⟨h1,h2,h3⟩
      ·rw[h4, h5, h3, List.getElem?_eq_getElem h2]
       have e1:v.take (b+1)=v.take (a j)++((v.drop (a j)).take (b-a j)++[v[b]]):=by
         rw[<-sQ,<-List.take_add,Nat.add_sub_cancel' h1,iQ h2]
       rw[e1,Tc,Tc];simp only[Ye,Cb];omega
      rw[h1,h2,h3];simp[Cb,Ye]
  intro j hj;rw[key j hj];by_cases e:j=base.length
  ·subst e
   rw[if_pos rfl,hp,<-Tc,List.take_append_drop];exact gQ _
  rw[if_neg e];have:Cb v=Cb (v.take (a j))+Cb (v.drop (a j)):=by rw[<-Tc,List.take_append_drop]
  omega
section
variable {f:Str->Nat->Mo}{n:Nat}{ks:List Str}{gl gr:Str->Option Tree}
theorem Wp(H:∀k n,(f k n).2.length<=Ye (gl k)+Ye (gr k)):∀j,j<=ks.length->(Hk f n ks j).2.length<=Ci gl (ks.take j)+Ci gr (ks.take j)
  | 0,_=>by simp[Hk]
  | j + 1, hj => by
    have ih:=Wp H j Ca;have h1:=H (ks.getD j []) (n+(Hk f n ks j).2.length);rw[Hk,dQ,Ri gl Ca,Ri gr Ca];omega
end
theorem Kv(p:List Str)(g n:Nat)(xs ys:List Tree):(Ls p g n xs ys).2.length<=Cb xs+Cb ys:=by
  unfold Ls;split
  ·simp
  rename_i h
  split
  ·simp
  have := Cj xs;simp only[kQ,List.length_nil];omega
theorem Dp{f:Fm}{p:List Str}{n:Nat}{base:List Tree}{x y:By}(H:∀s n k,(f (p++[s]) n base[k]? (x.item k) (y.item k)).2.length<=Ye (x.item k)+Ye (y.item k)):∀j,(Zi f p n base x y j).2.length<=wG x j+wG y j
  | 0=>by simp[Zi]
  | j + 1 => by
    have ih:=Dp (n:=n) H j;have h1:=Kv p j (n+(Zi f p n base x y j).2.length) (x.put j) (y.put j);have h2:=H (Lib.itoa j) (n+((Zi f p n base x y j).2++(Ls p j (n+(Zi f p n base x y j).2.length) (x.put j) (y.put j)).2).length) j;have e:∀A B C:List Cf,(A++B++C).length=A.length+B.length+C.length:=λA B C=>by rw[dQ,dQ]
    rw[Zi,e,wG,wG];omega
theorem Uh{p:List Str}{cls:Int}{n:Nat}{b l r:Option Tree}(h:¬Hi l r=true):(Rs p cls n b l r).2.length<=Ye l+Ye r:=by
  have:1<=Ye l+Ye r:=by
    cases l with
    | some x=>have:=Ok x;simp only[Ye];omega
    | none =>
      cases r with
      | some x=>have:=Ok x;simp only[Ye];omega
      | none=>exact absurd rfl h
  simp only[Rs,kQ,List.length_nil];omega
theorem Us{rl:List Rl}:∀(F:Nat)(p:List Str)(n:Nat)(b l r:Option Tree),(Dm rl F p n b l r).2.length<=Ye l+Ye r:=by
  intro F
  induction F with
  | zero=>intro p n b l r;simp[Dm]
  | succ F ih =>
    intro p n b l r;rw[Dm];split
    ·simp
    rename_i c1
    split
    ·simp
    split
    ·simp
    cases b with
    | none=>exact Uh c1
    | some x =>
      cases l with
      | none=>exact Uh c1
      | some y =>
        cases r with
        | none=>exact Uh c1
        | some z =>
          simp only[I_];split
          ·split
           ·have h1 := Wp (n := n) (λk n => ih (p ++ [k]) n (Yl x k) (Yl y k) (Yl z k)) (Xf [y.keys, z.keys]).length (gQ _)
            rw[List.take_length]at h1;have h2:=An (Ie [y.keys,z.keys]) y;have h3:=An (Ie [y.keys,z.keys]) z;unfold YL;simp only[Ye];omega
           split
           ·have hgap:(Ex.gapM (Dm rl F) p n x y z).2.length<=Ye (some y)+Ye (some z):=by
              unfold Ex.gapM;split
              ·unfold SD
               have h1:=Dp (n:=n) (base:=x.items) (x:=Qe x.items y.items) (y:=Qe x.items z.items) (λs n k=>ih (p++[s]) n _ _ _) x.items.length;have h2:=Kv p x.items.length (n+(Zi (Dm rl F) p n x.items (Qe x.items y.items) (Qe x.items z.items) x.items.length).2.length) ((Qe x.items y.items).put x.items.length) ((Qe x.items z.items).put x.items.length);have h3:=Qk x.items y.items x.items.length (gQ _);have h4:=Qk x.items z.items x.items.length (gQ _);rw[if_pos rfl]at h3 h4;have h5:∀v:Tree,Cb v.items<=Jb v:=λv=>by cases v;rw[Jb];simp only[Tree.items];omega
               have h6:=h5 y;have h7:=h5 z;simp only[dQ,Ye];omega
              exact Uh c1
            rw[Ex];cases F_ rl p with
            | none=>exact hgap
            | some key =>
              simp only;split
              ·have h1 := Wp (n := n) (λk n => ih (p ++ [E5 k]) n (Te x key k) (Te y key k) (Te z key k)) (Xf [Bf y key, Bf z key]).length (gQ _)
               rw[List.take_length]at h1;have h2:=Fk (Ie [Bf y key,Bf z key]) y key;have h3:=Fk (Ie [Bf y key,Bf z key]) z key;unfold JI;simp only;split
               ·simp only[Ye];omega
               exact Uh c1
              exact hgap
           exact Uh c1
          exact Uh c1
end Go.Scarf
