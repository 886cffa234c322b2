/- A part of the proof. -/
import Derived.Test.YtbhneplafiapdaaGreatDoorA4
set_option linter.all false
set_option maxHeartbeats 8000000
set_option maxRecDepth 10000
namespace Go.Scarf
open Go.RowKit
structure Sd where
  has:Bool
  val:Tree
structure Cf where
  path:List Str
  cls:Int
  b:Sd
  l:Sd
  r:Sd
structure Rl where
  pat:List Str
  key:Str
def noS:Sd:=⟨false,Sf⟩
def Cr:Option Tree->Sd
  | some x=>⟨true,x⟩
  | none=>noS
def Yk:Option Tree->Option Tree->Bool
  | some x,some y=>Al x y
  | none,none=>true
  | _,_=>false
def Y9(n:Nat):Str:=Oi (LF n)
def Gu(n:Nat):Tree:=.node 7 (Y9 n) [] []
def HC(s:Str):Str:=61::s
def VY(g:Nat):Str:=43::Lib.itoa g
structure Mt where
  i:Nat
  k:Nat
  star:Option Nat
  taken:Nat
def LD:Str:=[42,42]
def oneS:Str:=[42]
def MW(p q:List Str)(m:Mt):Option Mt :=
  if p[m.i]? = some LD then some ⟨m.i+1,m.k,some m.i,m.k⟩
  else if p[m.i]? = some oneS\/(p[m.i]?≠none/\p[m.i]? = q[m.k]?) then some ⟨m.i+1,m.k+1,m.star,m.taken⟩
  else match m.star with
    | some s=>some ⟨s+1,m.taken+1,some s,m.taken+1⟩
    | none=>none
def LW(p q:List Str):Nat->Mt->Bool
  | 0,_=>false
  | f+1,m=>if m.k<q.length then (match MW p q m with|some m'=>LW p q f m'|none=>false) else (p.drop m.i).all λs=>decide (s=LD)
def FZ(p q:List Str)(m:Mt):Nat:=(p.length-(match m.star with|some s=>s|none=>0)+(if m.star=none then 1 else 0))*((q.length+1)*(q.length+1))+(q.length-m.taken)*(q.length+1)+(q.length-m.k)
def YA(p q:List Str):Bool:=decide (p.length<=200)&&(decide (q.length<=200)&&LW p q 10000000 ⟨0,0,none,0⟩)
def FF(rl:List Rl)(path:List Str):Option Str:=(rl.find? λx=>YA x.pat path).map (·.key)
def AE(l:List Str):Bool:=decide l.Nodup&&decide (l.length<=256)
def Un(p:List Str)(x y:Str):Int:=if x∈p/\y∈p then Lib.compareInt (p.idxOf x) (p.idxOf y) else 0
def GK(b l r:List Str)(x y:Str):Option Int :=
  if Un b x y≠0/\(Un l x y = - Un b x y\/Un r x y = - Un b x y) then some (- Un b x y)
  else if Un b x y≠0 then some (Un b x y)
  else if Un l x y*Un r x y<0 then none
  else some (if Un l x y≠0 then Un l x y else Un r x y)
def SW(b l r:List Str)(rest:List Str)(s:Str):Bool:=rest.all λy=>decide (y=s) || decide (GK b l r y s≠some (-1))
def Ww(b l r:List Str):Nat->List Str->Option (List Str)
  | 0,_=>some []
  | f + 1, rest => match rest.find? (SW b l r rest)with
    | some s=>(Ww b l r f (rest.erase s)).map (s::·)
    | none=>none
def ZU(b l r names:List Str):Bool:=(List.range names.length).any λi=>(names.take i).any λy=>decide (GK b l r (names.getD i []) y=none)
def Rz(b l r names:List Str):Option (List Str) :=
  if AE b=true/\AE l=true/\AE r=true/\AE names=true/\ZU b l r names=false then Ww b l r names.length (T4 names) else none
abbrev Mo:=Option Tree × List Cf
def Zx(path:List Str)(cls:Int)(n:Nat)(b l r:Option Tree):Mo:=(some (Gu n),[⟨path,cls,Cr b,Cr l,Cr r⟩])
def ZZ:Option Tree->Option Tree->Option Tree->Int
  | none,_,_=>4
  | some x,some y,some z=>if x.kind=y.kind/\x.kind=z.kind then 1 else 2
  | _,_,_=>3
def IV(k:Str):Option Tree->List (Str × Tree)
  | some x=>[(k,x)]
  | none=>[]
def Jn(f:Str->Nat->Mo)(n:Nat)(ks:List Str):Nat->List (Str × Tree) × List Cf
  | 0=>([],[])
  | j + 1 =>
    let a:=Jn f n ks j
    let q:=f (ks.getD j []) (n+a.2.length)
    (a.1++IV (ks.getD j []) q.1,a.2++q.2)
def Np(x:Tree)(key:Str):Option Tree:=Se x.keys x.items key
def Rg(x:Tree)(key id:Str):Option Tree:=if (X9 x key id).2=true then some (X9 x key id).1 else none
def Ux(path:List Str)(g n:Nat)(p q:List Tree):List Tree × List Cf :=
  if p.length=0 then (q,[]) else if q.length=0\/Al (.node 5 [] [] p) (.node 5 [] [] q)=true then (p,[])
  else ([Gu n],[⟨path++[VY g],5,⟨true,.node 5 [] [] []⟩,⟨true,.node 5 [] [] p⟩,⟨true,.node 5 [] [] q⟩⟩])
structure By where
  items:List Tree
  gap:Nat->List Int
  img:Nat->Int
def By.at(y:By)(i:Int):Option Tree:=if i<0 then none else y.items[i.toNat]?
def By.put(y:By)(g:Nat):List Tree:=(y.gap g).filterMap λi=>y.at i
def By.item(y:By)(k:Nat):Option Tree:=y.at (y.img k)
def PB(m:List (Int × Int)):List (Nat × Nat):=m.map λz=>(z.1.toNat,z.2.toNat)
def Jg(base v:List Tree):By :=
  let m:=PB (pth 0 0 (base.map Ar) (v.map Ar))
  ⟨v,Zl base.length v.length m 0 (λ_=>[]),M2 m (λ_=>-1)⟩
def Yl(f:List Str->Nat->Option Tree->Option Tree->Option Tree->Mo)(path:List Str)(n:Nat)(base:List Tree)(x y:By):Nat->List Tree × List Cf
  | 0=>([],[])
  | j + 1 =>
    let a:=Yl f path n base x y j
    let p:=Ux path j (n+a.2.length) (x.put j) (y.put j)
    let q:=f (path++[Lib.itoa j]) (n+(a.2++p.2).length) base[j]? (x.item j) (y.item j)
    (a.1++p.1++q.1.toList,a.2++p.2++q.2)
def XM(f:List Str->Nat->Option Tree->Option Tree->Option Tree->Mo)(path:List Str)(n:Nat)(base:List Tree)(x y:By):Mo :=
  let a:=Yl f path n base x y base.length
  let p:=Ux path base.length (n+a.2.length) (x.put base.length) (y.put base.length)
  (some (.node 5 [] [] (a.1++p.1)),a.2++p.2)
def KU(f:List Str->Nat->Option Tree->Option Tree->Option Tree->Mo)(path:List Str)(n:Nat)(b l r:Tree):Mo :=
  let ks:=Li [l.keys,r.keys]
  let a:=Jn (λk m=>f (path++[k]) m (Np b k) (Np l k) (Np r k)) n ks ks.length
  (some (.node 6 [] (a.1.map (·.1)) (a.1.map (·.2))),a.2)
def Uw(m:List (Str × Tree))(id:Str):Tree:=(Se (m.map (·.1)) (m.map (·.2)) id).getD Sf
def CP(f:List Str->Nat->Option Tree->Option Tree->Option Tree->Mo)(path:List Str)(n:Nat)(key:Str)(b l r:Tree):Mo :=
  let ids:=Li [Ch l key,Ch r key]
  let a:=Jn (λid m=>f (path++[HC id]) m (Rg b key id) (Rg l key id) (Rg r key id)) n ids ids.length
  match Rz (Ch b key) (Ch l key) (Ch r key) (a.1.map (·.1))with
  | some o=>(some (.node 5 [] [] (o.map (Uw a.1))),a.2)
  | none=>Zx path 6 n (some b) (some l) (some r)
def allK(key:Str)(b l r:Tree):Bool:=(TA b key).isSome&&((TA l key).isSome&&(TA r key).isSome)
def X2(rl:List Rl)(f:List Str->Nat->Option Tree->Option Tree->Option Tree->Mo)(path:List Str)(n:Nat)(b l r:Tree):Mo :=
  match FF rl path with
  | some key=>if allK key b l r=true then CP f path n key b l r else gapM
  | none=>gapM
where gapM:Mo:=if AW b.items=0/\AW l.items=0/\AW r.items=0 then XM f path n b.items (Jg b.items l.items) (Jg b.items r.items) else Zx path 1 n (some b) (some l) (some r)
def HD(rl:List Rl)(f:List Str->Nat->Option Tree->Option Tree->Option Tree->Mo)(path:List Str)(n:Nat):Option Tree->Option Tree->Option Tree->Mo
  | some x, some y, some z =>
    if x.kind=y.kind/\x.kind=z.kind then
      if x.kind=6 then KU f path n x y z else if x.kind=5 then X2 rl f path n x y z else Zx path 1 n (some x) (some y) (some z)
    else Zx path 2 n (some x) (some y) (some z)
  | b,l,r=>Zx path (ZZ b l r) n b l r
def Rp(rl:List Rl):Nat->List Str->Nat->Option Tree->Option Tree->Option Tree->Mo
  | 0,_,_,_,l,_=>(l,[])
  | F+1,path,n,b,l,r=>if Yk l r=true then (l,[]) else if Yk b l=true then (r,[]) else if Yk b r=true then (l,[]) else HD rl (Rp rl F) path n b l r
def H3(x:Rl):Bool:=Lib.validD x.key&&(decide (x.pat.length<=64)&&x.pat.all Lib.validD)
def Wv(rl:List Rl):Bool:=decide (rl.length<=32)&&rl.all H3
def HO(q:Mo):Tree × List Cf × Int:=if Zk (q.1.getD Sf)=true then (q.1.getD Sf,q.2,0) else (Sf,[],6)
def RS(rl:List Rl)(b l r:Tree):Prop:=Jd b=true/\Jd l=true/\Jd r=true/\Wv rl=true
instance (rl:List Rl) (b l r:Tree):Decidable (RS rl b l r):=inferInstanceAs (Decidable (_/\_/\_/\_))
def Ts(rl:List Rl)(b l r:Tree):Tree × List Cf × Int:=if RS rl b l r then HO (Rp rl 40 [] 0 (some b) (some l) (some r)) else (Sf,[],1)
def J2(s:Sd):Sd:=if s.has=true then ⟨true,Fx s.val⟩ else noS
def YW(c:Cf)(p:Int):Sd × Bool:=if p=0 then (J2 c.b,true) else if p=1 then (J2 c.l,true) else if p=2 then (J2 c.r,true) else (noS,false)
mutual
def DC:Tree->List Str
  | .node k t _ xs=>(if k=7 then [t] else [])++Lm xs
def Lm:List Tree->List Str
  | []=>[]
  | x::xs=>DC x++Lm xs
end
def QZ:Cf:=⟨[],0,noS,noS,noS⟩
def Qw(v:Tree):Int:=if v.kind≠7 then -1 else if (Dd v.text).2≠0 then -1 else (Tp (Dd v.text).1).1
def UW(l:List Cf)(pick:List Int)(i:Int):Sd:=(YW (l.getD i.toNat QZ) (pick.getD i.toNat 0)).1
def PV(l:List Cf)(k:Int)(key:Str)(h:Int)(s:Sd):List Str × List Tree :=
  if s.has=true then
    if k=6 then ([key],[s.val])
    else if 0<=h/\(l.getD h.toNat QZ).cls=5 then ([],s.val.items)
    else ([],[s.val])
  else ([],[])
mutual
def Ex(l:List Cf)(pick:List Int):Tree->Sd
  | .node k t ks xs =>
    if 0<=Qw (.node k t ks xs) then UW l pick (Qw (.node k t ks xs))
    else ⟨true,.node k t (CB l pick k ks xs).1 (CB l pick k ks xs).2⟩
def CB(l:List Cf)(pick:List Int)(k:Int):List Str->List Tree->List Str × List Tree
  | _,[]=>([],[])
  | ks, x :: xs =>
    let a:=PV l k (ks.headD []) (Qw x) (Ex l pick x)
    let b:=CB l pick k ks.tail xs
    (a.1++b.1,a.2++b.2)
end
def pre(p:List Str)(c:Cf):Cf:={ c with path:=p++c.path }
def Zm:Option Tree->Nat
  | some x=>Be x
  | none=>0
theorem K6{x y:Tree}{key:Str}(h:Np x key=some y):y∈x.items:=Qv h
theorem G2{x y:Tree}{key id:Str}(h:Rg x key id=some y):y∈x.items:=by
  unfold Rg at h;split at h
  ·rename_i h2
   obtain rfl:=lQ h;unfold X9 at h2 ⊢;split at h2
   ·rename_i hm
    rw[if_pos hm];have hne:Ch x key≠[]:=λe=>by rw[e]at hm;cases hm
    have h1:=(C8 hne).1;have h3:=List.idxOf_lt_length_iff.2 hm;simp only[List.getD,List.getElem?_eq_getElem (show (Ch x key).idxOf id<x.items.length by omega),Option.getD_some];exact eQ _
   cases h2
  cases h
theorem ZA{y:By}{i:Int}{x:Tree}(h:y.at i=some x):x∈y.items:=by
  unfold By.at at h;split at h
  ·cases h
  exact List.mem_of_getElem? h
theorem Qy{y:By}{g:Nat}{x:Tree}(h:x∈y.put g):x∈y.items:=by
  unfold By.put at h;obtain⟨i,_,hi⟩:=List.mem_filterMap.1 h;exact ZA hi
section
variable {f g:Str->Nat->Mo}{p q:List Str}{n m:Nat}{ks:List Str}
end
abbrev Fm:=List Str->Nat->Option Tree->Option Tree->Option Tree->Mo
end Go.Scarf
namespace Go.Scarf
section
variable {α:Type}(sz:α->Nat)(p:α->α->Nat)
inductive AliP:Nat->Nat->List α->List α->List (Nat × Nat)->Nat->Prop
  | nil {i j:Nat}:AliP i j [] [] [] 0
  | pair {i j:Nat} {x y:α} {xs ys:List α} {m:List (Nat × Nat)} {c:Nat}:AliP (i+1) (j+1) xs ys m c->AliP i j (x::xs) (y::ys) ((i,j)::m) (p x y+c)
  | drop {i j:Nat} {x:α} {xs ys:List α} {m:List (Nat × Nat)} {c:Nat}:AliP (i+1) j xs ys m c->AliP i j (x::xs) ys m (sz x+c)
  | add {i j:Nat} {y:α} {xs ys:List α} {m:List (Nat × Nat)} {c:Nat}:AliP i (j+1) xs ys m c->AliP i j xs (y::ys) m (sz y+c)
end
section
variable {α:Type}{sz:α->Nat}{p:α->α->Nat}
theorem RiseN.low{n size:Nat}{i j k l:Nat}{m:List (Nat × Nat)}(h:RiseN n size k l m)(h1:i<=k)(h2:j<=l):RiseN n size i j m:=by
  cases m with
  | nil=>have h:l<=size:=h;exact fQ h2 h
  | cons z m=>exact⟨fQ h1 h.1,h.2.1,fQ h2 h.2.2.1,h.2.2.2⟩
theorem AliP.rise{i j:Nat}{xs ys:List α}{m:List (Nat × Nat)}{c:Nat}(h:AliP sz p i j xs ys m c):RiseN (i+xs.length) (j+ys.length) i j m:=by
  induction h with
  | nil=>exact gQ _
  | @pair i j x y xs ys m c _ ih =>
    rw[kQ,kQ,show i+(xs.length+1)=i+1+xs.length by omega,show j+(ys.length+1)=j+1+ys.length by omega];exact⟨gQ _,by show i<_;omega,gQ _,by show j<_;omega,ih⟩
  | @drop i j x xs ys m c _ ih =>
    rw[kQ,show i+(xs.length+1)=i+1+xs.length by omega];exact ih.low (Nat.le_succ _) (gQ _)
  | @add i j y xs ys m c _ ih =>
    rw[kQ,show j+(ys.length+1)=j+1+ys.length by omega];exact ih.low (gQ _) (Nat.le_succ _)
theorem A8:∀(xs:List α)(i j:Nat),AliP sz p i j xs [] [] (al sz p xs [])
  | [],_,_=>.nil
  | x::xs,i,j=>by rw[FY];exact .drop (A8 xs (i+1) j)
theorem T3:∀(ys:List α)(i j:Nat),AliP sz p i j [] ys [] (al sz p [] ys)
  | [],_,_=>.nil
  | y::ys,i,j=>by rw[ZY];exact .add (T3 ys i (j+1))
end
theorem PQ(la lb:List TreeN):∀(k i j:Nat),(la.length-i)+(lb.length-j)<=k->∃mp,pth i j (la.drop i) (lb.drop j)=WD mp/\AliP Sz pN i j (la.drop i) (lb.drop j) mp (al Sz pN (la.drop i) (lb.drop j)):=by
  intro k
  induction k with
  | zero =>
    intro i j hk;rw[H5 U,List.drop_eq_nil_of_le (show la.length<=i by omega),List.drop_eq_nil_of_le (show lb.length<=j by omega)];exact⟨[],O,.nil⟩
  | succ k ih =>
    intro i j hk;by_cases h1:i<la.length
    ·by_cases h2 : j<lb.length
     ·have hc := DX (sz := Sz) (p := pN) la[i] lb[j] (la.drop (i + 1)) (lb.drop (j + 1))
      rw[ON h1 h2];by_cases c1:al Sz pN (la.drop i) (lb.drop j)=pN la[i] lb[j]+al Sz pN (la.drop (i+1)) (lb.drop (j+1))
      ·obtain⟨mp, e, h⟩ := ih (i + 1) (j + 1) U
       rw[if_pos c1,e,c1,List.drop_eq_getElem_cons h1,List.drop_eq_getElem_cons h2];exact⟨(i,j)::mp,O,.pair h⟩
      rw[if_neg c1];by_cases c2:al Sz pN (la.drop i) (lb.drop j)=Sz la[i]+al Sz pN (la.drop (i+1)) (lb.drop j)
      ·obtain⟨mp, e, h⟩ := ih (i + 1) j U
       rw[if_pos c2,e,c2];refine⟨mp,O,?_⟩;rw[List.drop_eq_getElem_cons h1];exact .drop h
      obtain⟨mp, e, h⟩ := ih i (j + 1) U;have c3:al Sz pN (la.drop i) (lb.drop j)=Sz lb[j]+al Sz pN (la.drop i) (lb.drop (j+1)):=by
        rw[<-List.drop_eq_getElem_cons h1,<-List.drop_eq_getElem_cons h2]at hc;omega
      rw[if_neg c2,e,c3];refine⟨mp,O,?_⟩;rw[List.drop_eq_getElem_cons h2];exact .add h
     rw[H5 U, List.drop_eq_nil_of_le (show lb.length <= j by omega)];exact⟨[],O,A8 _ _ _⟩
    rw[H5 U, List.drop_eq_nil_of_le (show la.length <= i by omega)];exact⟨[],O,T3 _ _ _⟩
theorem MI(a b:List Tree):∃mp,pth 0 0 (a.map Ar) (b.map Ar)=WD mp/\RiseN a.length b.length 0 0 mp:=by
  obtain⟨mp,e,h⟩:=PQ (a.map Ar) (b.map Ar) _ 0 0 (gQ _);rw[List.drop_zero,List.drop_zero]at e h;have hr:=h.rise;rw[Nat.zero_add,Nat.zero_add,rQ,rQ]at hr;exact⟨mp,e,hr⟩
end Go.Scarf
namespace Go.Scarf
open Go.RowKit
section
variable {f:Str->Nat->Mo}{n:Nat}{ks:List Str}
end
end Go.Scarf
namespace Go.Scarf
open Go.RowKit
def Zg:Option Tree->Nat
  | some x=>Ub x
  | none=>0
theorem J4:∀(ks:List Str)(xs:List Tree)(id:Str),ks.length=xs.length->Se ks xs id=if id∈ks then some (xs.getD (ks.idxOf id) Sf) else none
  | [],[],id,_=>by simp[Se]
  | k :: ks, x :: xs, id, h => by
    rw[Se];by_cases e:k=id
    ·subst e;simp
    rw[if_neg e, J4 ks xs id (by simpa using h)];have e1:(id∈k::ks)=(id∈ks):=by simp[Ne.symm e,eq_comm,λh:id=k=>e h.symm]
    rw[List.idxOf_cons];have e2:(k==id)=false:=by simpa using e
    simp[e1,e2]
  | [],_::_,_,h=>by cases h
  | _::_,[],_,h=>by cases h
theorem N_(x:Tree)(key id:Str):Rg x key id=Se (Ch x key) x.items id:=by
  by_cases hm:id∈Ch x key
  ·have hne : Ch x key ≠ [] := λe => by rw[e]at hm;cases hm
   rw[J4 _ _ _ (C8 hne).1,if_pos hm];unfold Rg X9;rw[if_pos hm];rfl
  have e1 : Rg x key id = none := by unfold Rg X9;rw[if_neg hm];rfl
  rw[e1];symm;cases h:Se (Ch x key) x.items id with
  | none=>rfl
  | some y=>exact absurd (AI h) hm
def Pk(g:Str->Option Tree)(ks:List Str):Nat:=(ks.map λk=>Zg (g k)).sum
theorem KD{g h:Str->Option Tree}{c:Str->Nat}:∀{ks:List Str},(∀k∈ks,Zg (g k)<=c k+Zg (h k))->Pk g ks<=(ks.map c).sum+Pk h ks
  | [],_=>by simp[Pk]
  | k :: ks, H => by
    have ih:=KD (g:=g) (h:=h) (c:=c) (ks:=ks) λk hk=>H k (by simp[hk]);have h1:=H k Ua;unfold Pk at ih ⊢;simp only[List.map_cons,List.sum_cons];omega
theorem Q8(k0:Str)(s:Nat):∀{ks:List Str},ks.Nodup->(ks.map λk=>if k0=k then s else 0).sum<=s
  | [],_=>by simp
  | k :: ks, h => by
    obtain⟨h1,h2⟩:=List.nodup_cons.1 h;have ih:=Q8 k0 s h2;simp only[List.map_cons,List.sum_cons];by_cases e:k0=k
    ·have:(ks.map λk=>if k0=k then s else 0).sum=0:=by
       have hz:∀l:List Str,k∉l->(l.map λk=>if k0=k then s else 0).sum=0:=by
         intro l hl
         induction l with
         | nil=>rfl
         | cons a l ih =>
           simp only[List.map_cons,List.sum_cons];rw[ih (λh=>hl (by simp[h])),if_neg (λh=>hl (by simp[<-h,e]))]
       exact hz ks h1
     rw[this,if_pos e];omega
    rw[if_neg e];omega
theorem Xu{qs:List Str}(hq:qs.Nodup):∀(ks:List Str)(xs:List Tree),Pk (Se ks xs) qs<=Ob xs
  | k :: ks, x :: xs => by
    have ih:=Xu hq ks xs;have h1:=KD (g:=Se (k::ks) (x::xs)) (h:=Se ks xs) (c:=λq=>if k=q then Ub x else 0) (ks:=qs) λq _=>by
      rw[Se];split
      ·simp only[Zg];omega
      omega
    have h2:=Q8 k (Ub x) hq;rw[Ob];omega
  | [], xs => by
    have:∀l:List Str,Pk (Se [] xs) l=0:=λl=>by
      induction l with
      | nil=>rfl
      | cons a l ih=>unfold Pk at ih ⊢;rw[List.map_cons,List.sum_cons,ih];simp[Se,Zg]
    rw[this];omega
  | k' :: ks', [] => by
    have:∀l:List Str,Pk (Se (k'::ks') []) l=0:=λl=>by
      induction l with
      | nil=>rfl
      | cons a l ih=>unfold Pk at ih ⊢;rw[List.map_cons,List.sum_cons,ih];simp[Se,Zg]
    rw[this];omega
theorem Fl(g:Str->Option Tree){ks:List Str}{j:Nat}(h:j<ks.length):Pk g (ks.take (j+1))=Pk g (ks.take j)+Zg (g (ks.getD j [])):=by
  unfold Pk;rw[iQ h,jQ,List.sum_append];simp[List.getD,h]
theorem Ou(g:Str->Option Tree)(ks:List Str)(j:Nat):Pk g (ks.take j)<=Pk g ks:=by
  conv=>rhs;rw[<-List.take_append_drop j ks]
  unfold Pk;rw[jQ,List.sum_append];omega
theorem Br{qs:List Str}(hq:qs.Nodup)(x:Tree):Pk (Np x) qs+1<=Ub x:=by
  cases x with|node k t ks xs=>exact (by have:=Xu hq ks xs;rw[Ub];show Pk (Se ks xs) qs+1<=_;omega)
theorem En{qs:List Str}(hq:qs.Nodup)(x:Tree)(key:Str):Pk (Rg x key) qs+1<=Ub x:=by
  have e:Rg x key=Se (Ch x key) x.items:=funext λid=>N_ x key id;rw[e];have:=Xu hq (Ch x key) x.items;cases x with|node k t ks xs=>rw[Ub];show Pk _ qs+1<=_;simp only[Tree.items]at *;omega
theorem X8(m:List (Nat × Nat)):PB (WD m)=m:=by
  unfold PB WD;rw[List.map_map];exact (List.map_congr_left λz _=>by simp).trans (List.map_id _)
theorem SB(v:List Tree)(gp:Nat->List Int)(im:Nat->Int):∀(d j:Nat),j+d<=v.length->(rng j (j+d)).filterMap (λi=>(By.mk v gp im).at i)=(v.drop j).take d
  | 0,j,_=>by simp[rng]
  | d + 1, j, h => by
    have e:rng j (j+(d+1))=(j:Int)::rng (j+1) (j+1+d):=by
      unfold rng;rw[show j+(d+1)-j=d+1 by omega,show j+1+d-(j+1)=d by omega,List.range'_succ,List.map_cons]
    rw[e,List.filterMap_cons];have e2:(By.mk v gp im).at (j:Int)=some v[j]:=by
      unfold By.at;rw[if_neg U];simp
    rw[e2,SB v gp im d (j+1) U,List.drop_eq_getElem_cons (show j<v.length by omega),List.take_succ_cons]
theorem EM(base v:List Tree):∃a:Nat->Nat,a 0=0/\a base.length<=v.length/\(Jg base v).put base.length=v.drop (a base.length) /\
    ∀k,k<base.length->(∃b,a k<=b/\b<v.length/\a (k+1)=b+1/\(Jg base v).item k=v[b]?/\(Jg base v).put k=(v.drop (a k)).take (b-a k))\/((Jg base v).item k=none/\(Jg base v).put k=[]/\a (k+1)=a k):=by
  obtain⟨mp,e,hr⟩:=MI base v;have em:Jg base v=⟨v,Zl base.length v.length mp 0 (λ_=>[]),M2 mp (λ_=>-1)⟩:=by
    unfold Jg;rw[e,X8]
  obtain⟨h1,h2,h3⟩:=P7 mp 0 0 (λ_=>[]) (λ_=>-1) hr (Nat.zero_le _) (λ_ _=>rfl) (λ_ _=>rfl);rw[em];have hb:∀k,Rv mp 0 k<=v.length:=λk=>MJ hr;refine⟨Rv mp 0,OD hr (gQ _),h3,?_,λk hk=>?_⟩
  ·unfold By.put
   rw[show (By.mk v (Zl base.length v.length mp 0 λ_=>[]) (M2 mp λ_=>-1)).gap base.length=rng (Rv mp 0 base.length) (Rv mp 0 base.length+(v.length-Rv mp 0 base.length)) by rw[Nat.add_sub_cancel' h3];exact h2];rw[SB _ _ _ _ _ U];exact List.take_of_length_le (by rw[List.length_drop];omega)
  rcases h1 k (Nat.zero_le _) hk with ⟨b, k1, k2, k3, k4⟩|⟨k1, k2, k3⟩
  ·have hb1 := hb (k + 1)
   refine .inl ⟨b,k4,by omega,k3,?_,?_⟩
   ·unfold By.item By.at
    simp only[k1];rw[if_neg U];simp
   unfold By.put;rw[show (By.mk v (Zl base.length v.length mp 0 λ_=>[]) (M2 mp λ_=>-1)).gap k=rng (Rv mp 0 k) (Rv mp 0 k+(b-Rv mp 0 k)) by rw[Nat.add_sub_cancel' k4];exact k2];exact SB _ _ _ _ _ U
  refine .inr ⟨?_, ?_, k3⟩
  ·unfold By.item By.at
   simp only[k1];rfl
  unfold By.put;simp only[k2];rfl
def wG(y:By):Nat->Nat
  | 0=>0
  | j+1=>wG y j+Ob (y.put j)+Zg (y.item j)
theorem Mn(base v:List Tree):∀j,j<=base.length->wG (Jg base v) j+(if j=base.length then Ob ((Jg base v).put j) else 0)<=Ob v:=by
  obtain⟨a,a0,an,hp,hk⟩:=EM base v;have key:∀j,j<=base.length->wG (Jg base v) j=Ob (v.take (a j)):=by
    intro j
    induction j with
    | zero=>intro _;rw[a0];rfl
    | succ j ih =>
      intro hj;rw[wG,ih U];rcases hk j U with ⟨b,h1,h2,h3,h4,h5⟩|⟨h1,h2,h3⟩
      ·rw[h4, h5, h3, List.getElem?_eq_getElem h2]
       have e1:v.take (b+1)=v.take (a j)++((v.drop (a j)).take (b-a j)++[v[b]]):=by
         rw[<-sQ,<-List.take_add,Nat.add_sub_cancel' h1,iQ h2]
       rw[e1,Ud,Ud];simp only[Zg,Ob];omega
      rw[h1,h2,h3];simp[Ob,Zg]
  intro j hj;rw[key j hj];by_cases e:j=base.length
  ·subst e
   rw[if_pos rfl,hp,<-Ud,List.take_append_drop];exact gQ _
  rw[if_neg e];have:Ob v=Ob (v.take (a j))+Ob (v.drop (a j)):=by rw[<-Ud,List.take_append_drop]
  omega
section
variable {f:Str->Nat->Mo}{n:Nat}{ks:List Str}{gl gr:Str->Option Tree}
theorem Zt(H:∀k n,(f k n).2.length<=Zg (gl k)+Zg (gr k)):∀j,j<=ks.length->(Jn f n ks j).2.length<=Pk gl (ks.take j)+Pk gr (ks.take j)
  | 0,_=>by simp[Jn]
  | j + 1, hj => by
    have ih:=Zt H j U;have h1:=H (ks.getD j []) (n+(Jn f n ks j).2.length);rw[Jn,dQ,Fl gl U,Fl gr U];omega
end
theorem Z0(p:List Str)(g n:Nat)(xs ys:List Tree):(Ux p g n xs ys).2.length<=Ob xs+Ob ys:=by
  unfold Ux;split
  ·simp
  rename_i h
  split
  ·simp
  have := Mj xs;simp only[kQ,List.length_nil];omega
theorem Mu{f:Fm}{p:List Str}{n:Nat}{base:List Tree}{x y:By}(H:∀s n k,(f (p++[s]) n base[k]? (x.item k) (y.item k)).2.length<=Zg (x.item k)+Zg (y.item k)):∀j,(Yl f p n base x y j).2.length<=wG x j+wG y j
  | 0=>by simp[Yl]
  | j + 1 => by
    have ih:=Mu (n:=n) H j;have h1:=Z0 p j (n+(Yl f p n base x y j).2.length) (x.put j) (y.put j);have h2:=H (Lib.itoa j) (n+((Yl f p n base x y j).2++(Ux p j (n+(Yl f p n base x y j).2.length) (x.put j) (y.put j)).2).length) j;have e:∀A B C:List Cf,(A++B++C).length=A.length+B.length+C.length:=λA B C=>by rw[dQ,dQ]
    rw[Yl,e,wG,wG];omega
theorem Wj{p:List Str}{cls:Int}{n:Nat}{b l r:Option Tree}(h:¬Yk l r=true):(Zx p cls n b l r).2.length<=Zg l+Zg r:=by
  have:1<=Zg l+Zg r:=by
    cases l with
    | some x=>have:=El x;simp only[Zg];omega
    | none =>
      cases r with
      | some x=>have:=El x;simp only[Zg];omega
      | none=>exact absurd rfl h
  simp only[Zx,kQ,List.length_nil];omega
theorem Jy{rl:List Rl}:∀(F:Nat)(p:List Str)(n:Nat)(b l r:Option Tree),(Rp rl F p n b l r).2.length<=Zg l+Zg r:=by
  intro F
  induction F with
  | zero=>intro p n b l r;simp[Rp]
  | succ F ih =>
    intro p n b l r;rw[Rp];split
    ·simp
    rename_i c1
    split
    ·simp
    split
    ·simp
    cases b with
    | none=>exact Wj c1
    | some x =>
      cases l with
      | none=>exact Wj c1
      | some y =>
        cases r with
        | none=>exact Wj c1
        | some z =>
          simp only[HD];split
          ·split
           ·have h1 := Zt (n := n) (λk n => ih (p ++ [k]) n (Np x k) (Np y k) (Np z k)) (Li [y.keys, z.keys]).length (gQ _)
            rw[List.take_length]at h1;have h2:=Br (Vf [y.keys,z.keys]) y;have h3:=Br (Vf [y.keys,z.keys]) z;unfold KU;simp only[Zg];omega
           split
           ·have hgap:(X2.gapM (Rp rl F) p n x y z).2.length<=Zg (some y)+Zg (some z):=by
              unfold X2.gapM;split
              ·unfold XM
               have h1:=Mu (n:=n) (base:=x.items) (x:=Jg x.items y.items) (y:=Jg x.items z.items) (λs n k=>ih (p++[s]) n _ _ _) x.items.length;have h2:=Z0 p x.items.length (n+(Yl (Rp rl F) p n x.items (Jg x.items y.items) (Jg x.items z.items) x.items.length).2.length) ((Jg x.items y.items).put x.items.length) ((Jg x.items z.items).put x.items.length);have h3:=Mn x.items y.items x.items.length (gQ _);have h4:=Mn x.items z.items x.items.length (gQ _);rw[if_pos rfl]at h3 h4;have h5:∀v:Tree,Ob v.items<=Ub v:=λv=>by cases v;rw[Ub];simp only[Tree.items];omega
               have h6:=h5 y;have h7:=h5 z;simp only[dQ,Zg];omega
              exact Wj c1
            rw[X2];cases FF rl p with
            | none=>exact hgap
            | some key =>
              simp only;split
              ·have h1 := Zt (n := n) (λk n => ih (p ++ [HC k]) n (Rg x key k) (Rg y key k) (Rg z key k)) (Li [Ch y key, Ch z key]).length (gQ _)
               rw[List.take_length]at h1;have h2:=En (Vf [Ch y key,Ch z key]) y key;have h3:=En (Vf [Ch y key,Ch z key]) z key;unfold CP;simp only;split
               ·simp only[Zg];omega
               exact Wj c1
              exact hgap
           exact Wj c1
          exact Wj c1
end Go.Scarf
