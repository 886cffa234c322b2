/- A part of the proof. -/
import Derived.Test.YthnkjgpjdbdchaaGreatDoorY1
import Derived.Test.YthnkjgpjdbdchaaGreatDoorA10
set_option linter.all false
set_option maxHeartbeats 8000000
set_option maxRecDepth 10000
namespace Go.Scarf
open Go.RowKit
structure Sd where
  has:Bool
  val:Tree
structure Cf where
  path:List Str
  cls:Int
  b:Sd
  l:Sd
  r:Sd
structure Rl where
  pat:List Str
  key:Str
def noS:Sd:=⟨false,zeroT⟩
def Sm:Option Tree->Sd
  | some x=>⟨true,x⟩
  | none=>noS
def Vh:Option Tree->Option Tree->Bool
  | some x,some y=>Gf x y
  | none,none=>true
  | _,_=>false
def Si(n:Nat):Str:=Io (TD n)
def Yn(n:Nat):Tree:=.node 7 (Si n) [] []
def X8(s:Str):Str:=61::s
def Is(g:Nat):Str:=43::Lib.itoa g
structure Mt where
  i:Nat
  k:Nat
  star:Option Nat
  taken:Nat
def ED:Str:=[42,42]
def oneS:Str:=[42]
def mtN(p q:List Str)(m:Mt):Option Mt :=
  if p[m.i]? = some ED then some ⟨m.i+1,m.k,some m.i,m.k⟩
  else if p[m.i]? = some oneS\/(p[m.i]?≠none/\p[m.i]? = q[m.k]?) then some ⟨m.i+1,m.k+1,m.star,m.taken⟩
  else match m.star with
    | some s=>some ⟨s+1,m.taken+1,some s,m.taken+1⟩
    | none=>none
def mtF(p q:List Str):Nat->Mt->Bool
  | 0,_=>false
  | f+1,m=>if m.k<q.length then (match mtN p q m with|some m'=>mtF p q f m'|none=>false) else (p.drop m.i).all λs=>decide (s=ED)
def mtM(p q:List Str)(m:Mt):Nat:=(p.length-(match m.star with|some s=>s|none=>0)+(if m.star=none then 1 else 0))*((q.length+1)*(q.length+1))+(q.length-m.taken)*(q.length+1)+(q.length-m.k)
def WO(p q:List Str):Bool:=decide (p.length<=200)&&(decide (q.length<=200)&&mtF p q 10000000 ⟨0,0,none,0⟩)
def Tr(rl:List Rl)(path:List Str):Option Str:=(rl.find? λx=>WO x.pat path).map (·.key)
def LT(l:List Str):Bool:=decide l.Nodup&&decide (l.length<=256)
def Ju(p:List Str)(x y:Str):Int:=if x∈p/\y∈p then Lib.compareInt (p.idxOf x) (p.idxOf y) else 0
def IY(b l r:List Str)(x y:Str):Option Int :=
  if Ju b x y≠0/\(Ju l x y = - Ju b x y\/Ju r x y = - Ju b x y) then some (- Ju b x y)
  else if Ju b x y≠0 then some (Ju b x y)
  else if Ju l x y*Ju r x y<0 then none
  else some (if Ju l x y≠0 then Ju l x y else Ju r x y)
def freeB(b l r:List Str)(rest:List Str)(s:Str):Bool:=rest.all λy=>decide (y=s) || decide (IY b l r y s≠some (-1))
def B7(b l r:List Str):Nat->List Str->Option (List Str)
  | 0,_=>some []
  | f + 1, rest => match rest.find? (freeB b l r rest)with
    | some s=>(B7 b l r f (rest.erase s)).map (s::·)
    | none=>none
def clashB(b l r names:List Str):Bool:=(List.range names.length).any λi=>(names.take i).any λy=>decide (IY b l r (names.getD i []) y=none)
def NB(b l r names:List Str):Option (List Str) :=
  if LT b=true/\LT l=true/\LT r=true/\LT names=true/\clashB b l r names=false then B7 b l r names.length (Yj names) else none
abbrev Mo:=Option Tree × List Cf
def Wq(path:List Str)(cls:Int)(n:Nat)(b l r:Option Tree):Mo:=(some (Yn n),[⟨path,cls,Sm b,Sm l,Sm r⟩])
def St:Option Tree->Option Tree->Option Tree->Int
  | none,_,_=>4
  | some x,some y,some z=>if x.kind=y.kind/\x.kind=z.kind then 1 else 2
  | _,_,_=>3
def DB(k:Str):Option Tree->List (Str × Tree)
  | some x=>[(k,x)]
  | none=>[]
def Tg(f:Str->Nat->Mo)(n:Nat)(ks:List Str):Nat->List (Str × Tree) × List Cf
  | 0=>([],[])
  | j + 1 =>
    let a:=Tg f n ks j
    let q:=f (ks.getD j []) (n+a.2.length)
    (a.1++DB (ks.getD j []) q.1,a.2++q.2)
def Rb(x:Tree)(key:Str):Option Tree:=Jd x.keys x.items key
def Lg(x:Tree)(key id:Str):Option Tree:=if (PJ x key id).2=true then some (PJ x key id).1 else none
def Ii(path:List Str)(g n:Nat)(p q:List Tree):List Tree × List Cf :=
  if p.length=0 then (q,[]) else if q.length=0\/Gf (.node 5 [] [] p) (.node 5 [] [] q)=true then (p,[])
  else ([Yn n],[⟨path++[Is g],5,⟨true,.node 5 [] [] []⟩,⟨true,.node 5 [] [] p⟩,⟨true,.node 5 [] [] q⟩⟩])
structure By where
  items:List Tree
  gap:Nat->List Int
  img:Nat->Int
def By.at(y:By)(i:Int):Option Tree:=if i<0 then none else y.items[i.toNat]?
def By.put(y:By)(g:Nat):List Tree:=(y.gap g).filterMap λi=>y.at i
def By.item(y:By)(k:Nat):Option Tree:=y.at (y.img k)
def HP(m:List (Int × Int)):List (Nat × Nat):=m.map λz=>(z.1.toNat,z.2.toNat)
def Fe(base v:List Tree):By :=
  let m:=HP (pth 0 0 (base.map Fj) (v.map Fj))
  ⟨v,Rj base.length v.length m 0 (λ_=>[]),Cu m (λ_=>-1)⟩
def If(f:List Str->Nat->Option Tree->Option Tree->Option Tree->Mo)(path:List Str)(n:Nat)(base:List Tree)(x y:By):Nat->List Tree × List Cf
  | 0=>([],[])
  | j + 1 =>
    let a:=If f path n base x y j
    let p:=Ii path j (n+a.2.length) (x.put j) (y.put j)
    let q:=f (path++[Lib.itoa j]) (n+(a.2++p.2).length) base[j]? (x.item j) (y.item j)
    (a.1++p.1++q.1.toList,a.2++p.2++q.2)
def Nw(f:List Str->Nat->Option Tree->Option Tree->Option Tree->Mo)(path:List Str)(n:Nat)(base:List Tree)(x y:By):Mo :=
  let a:=If f path n base x y base.length
  let p:=Ii path base.length (n+a.2.length) (x.put base.length) (y.put base.length)
  (some (.node 5 [] [] (a.1++p.1)),a.2++p.2)
def BB(f:List Str->Nat->Option Tree->Option Tree->Option Tree->Mo)(path:List Str)(n:Nat)(b l r:Tree):Mo :=
  let ks:=Te [l.keys,r.keys]
  let a:=Tg (λk m=>f (path++[k]) m (Rb b k) (Rb l k) (Rb r k)) n ks ks.length
  (some (.node 6 [] (a.1.map (·.1)) (a.1.map (·.2))),a.2)
def Yq(m:List (Str × Tree))(id:Str):Tree:=(Jd (m.map (·.1)) (m.map (·.2)) id).getD zeroT
def ZJ(f:List Str->Nat->Option Tree->Option Tree->Option Tree->Mo)(path:List Str)(n:Nat)(key:Str)(b l r:Tree):Mo :=
  let ids:=Te [Wi l key,Wi r key]
  let a:=Tg (λid m=>f (path++[X8 id]) m (Lg b key id) (Lg l key id) (Lg r key id)) n ids ids.length
  match NB (Wi b key) (Wi l key) (Wi r key) (a.1.map (·.1))with
  | some o=>(some (.node 5 [] [] (o.map (Yq a.1))),a.2)
  | none=>Wq path 6 n (some b) (some l) (some r)
def allK(key:Str)(b l r:Tree):Bool:=(CP b key).isSome&&((CP l key).isSome&&(CP r key).isSome)
def Ql(rl:List Rl)(f:List Str->Nat->Option Tree->Option Tree->Option Tree->Mo)(path:List Str)(n:Nat)(b l r:Tree):Mo :=
  match Tr rl path with
  | some key=>if allK key b l r=true then ZJ f path n key b l r else gapM
  | none=>gapM
where gapM:Mo:=if Li b.items=0/\Li l.items=0/\Li r.items=0 then Nw f path n b.items (Fe b.items l.items) (Fe b.items r.items) else Wq path 1 n (some b) (some l) (some r)
def Et(rl:List Rl)(f:List Str->Nat->Option Tree->Option Tree->Option Tree->Mo)(path:List Str)(n:Nat):Option Tree->Option Tree->Option Tree->Mo
  | some x, some y, some z =>
    if x.kind=y.kind/\x.kind=z.kind then
      if x.kind=6 then BB f path n x y z else if x.kind=5 then Ql rl f path n x y z else Wq path 1 n (some x) (some y) (some z)
    else Wq path 2 n (some x) (some y) (some z)
  | b,l,r=>Wq path (St b l r) n b l r
def Yg(rl:List Rl):Nat->List Str->Nat->Option Tree->Option Tree->Option Tree->Mo
  | 0,_,_,_,l,_=>(l,[])
  | F+1,path,n,b,l,r=>if Vh l r=true then (l,[]) else if Vh b l=true then (r,[]) else if Vh b r=true then (l,[]) else Et rl (Yg rl F) path n b l r
def GF(x:Rl):Bool:=Lib.validD x.key&&(decide (x.pat.length<=64)&&x.pat.all Lib.validD)
def G4(rl:List Rl):Bool:=decide (rl.length<=32)&&rl.all GF
def WG(q:Mo):Tree × List Cf × Int:=if Mf (q.1.getD zeroT)=true then (q.1.getD zeroT,q.2,0) else (zeroT,[],6)
def ON(rl:List Rl)(b l r:Tree):Prop:=Nc b=true/\Nc l=true/\Nc r=true/\G4 rl=true
instance (rl:List Rl) (b l r:Tree):Decidable (ON rl b l r):=inferInstanceAs (Decidable (_/\_/\_/\_))
def Zh(rl:List Rl)(b l r:Tree):Tree × List Cf × Int:=if ON rl b l r then WG (Yg rl 40 [] 0 (some b) (some l) (some r)) else (zeroT,[],1)
def Oq(s:Sd):Sd:=if s.has=true then ⟨true,L7 s.val⟩ else noS
def Ml(c:Cf)(p:Int):Sd × Bool:=if p=0 then (Oq c.b,true) else if p=1 then (Oq c.l,true) else if p=2 then (Oq c.r,true) else (noS,false)
mutual
def Eh:Tree->List Str
  | .node k t _ xs=>(if k=7 then [t] else [])++Hh xs
def Hh:List Tree->List Str
  | []=>[]
  | x::xs=>Eh x++Hh xs
end
def G5(s:Sd)(cls:Int):Bool:=!s.has || (Nc s.val&&(decide (cls≠5) || decide (s.val.kind=5)))
def BC(c:Cf):Bool:=G5 c.b c.cls&&(G5 c.l c.cls&&G5 c.r c.cls)
def noC:Cf:=⟨[],0,noS,noS,noS⟩
def Iu(v:Tree)(l:List Cf)(pick:List Int):Bool :=
  decide (l.length=pick.length)&&(decide ((Eh v).eraseDups.length=l.length) &&
    (List.range l.length).all λi=>decide ((Eh v).count (Si i)=1)&&(BC (l.getD i noC)&&(Ml (l.getD i noC) (pick.getD i 0)).2))
def Pi(v:Tree):Int:=if v.kind≠7 then -1 else if (Hf v.text).2≠0 then -1 else (KB (Hf v.text).1).1
def Ow(l:List Cf)(pick:List Int)(i:Int):Sd:=(Ml (l.getD i.toNat noC) (pick.getD i.toNat 0)).1
def Xt(l:List Cf)(k:Int)(key:Str)(h:Int)(s:Sd):List Str × List Tree :=
  if s.has=true then
    if k=6 then ([key],[s.val])
    else if 0<=h/\(l.getD h.toNat noC).cls=5 then ([],s.val.items)
    else ([],[s.val])
  else ([],[])
mutual
def We(l:List Cf)(pick:List Int):Tree->Sd
  | .node k t ks xs =>
    if 0<=Pi (.node k t ks xs) then Ow l pick (Pi (.node k t ks xs))
    else ⟨true,.node k t (Lj l pick k ks xs).1 (Lj l pick k ks xs).2⟩
def Lj(l:List Cf)(pick:List Int)(k:Int):List Str->List Tree->List Str × List Tree
  | _,[]=>([],[])
  | ks, x :: xs =>
    let a:=Xt l k (ks.headD []) (Pi x) (We l pick x)
    let b:=Lj l pick k ks.tail xs
    (a.1++b.1,a.2++b.2)
end
def Jt(v:Tree)(l:List Cf)(pick:List Int):Tree × Int :=
  if Mf v=true/\Iu v l pick=true then
    let s:=We l pick v
    if s.has=true then (if Nc s.val=true then (s.val,0) else (zeroT,1)) else (zeroT,8)
  else (zeroT,1)
mutual
def blankT:Tree->Tree
  | .node k t ks xs=>.node k (if k=7 then [] else t) ks (Ir xs)
def Ir:List Tree->List Tree
  | []=>[]
  | x::xs=>blankT x::Ir xs
end
theorem Sp:∀xs:List Tree,Ir xs=xs.map blankT
  | []=>rfl
  | x::xs=>by rw[Ir,Sp xs,List.map_cons]
def Hy(o:Option Tree):Option Tree:=o.map blankT
def pre(p:List Str)(c:Cf):Cf:={ c with path:=p++c.path }
theorem RT(p q:List Str)(R:List Cf):R.map (pre (p++q))=(R.map (pre q)).map (pre p):=by
  rw[List.map_map];refine List.map_congr_left λc _=>?_;simp[pre]
theorem N_(n m:Nat):blankT (Yn n)=blankT (Yn m):=by simp[Yn,blankT,Ir]
theorem LF{x:Tree}{k:Int}{t:Str}{ks:List Str}{xs:List Tree}(h:x∈xs):Uc x<Uc (.node k t ks xs):=by
  rw[Uc];have:∀{xs:List Tree},x∈xs->Uc x<=Dd xs:=fun {xs} h=>by
    induction xs with
    | nil=>cases h
    | cons y ys ih =>
      rw[Dd];rcases oQ.1 h with rfl|h
      ·omega
      have:=ih h;omega
  have:=this h;omega
def Vi:Option Tree->Nat
  | some x=>Uc x
  | none=>0
theorem G0(x:Tree):1<=Uc x:=by cases x;rw[Uc];omega
theorem Vp{x y:Tree}{key:Str}(h:Rb x key=some y):y∈x.items:=Sn h
theorem Lu{x y:Tree}{key id:Str}(h:Lg x key id=some y):y∈x.items:=by
  unfold Lg at h;split at h
  ·rename_i h2
   obtain rfl:=lQ h;unfold PJ at h2 ⊢;split at h2
   ·rename_i hm
    rw[if_pos hm];have hne:Wi x key≠[]:=λe=>by rw[e]at hm;cases hm
    have h1:=(PI hne).1;have h3:=List.idxOf_lt_length_iff.2 hm;simp only[List.getD,List.getElem?_eq_getElem (show (Wi x key).idxOf id<x.items.length by omega),Option.getD_some];exact eQ _
   cases h2
  cases h
theorem Bv{y:By}{i:Int}{x:Tree}(h:y.at i=some x):x∈y.items:=by
  unfold By.at at h;split at h
  ·cases h
  exact List.mem_of_getElem? h
theorem Om{y:By}{g:Nat}{x:Tree}(h:x∈y.put g):x∈y.items:=by
  unfold By.put at h;obtain⟨i,_,hi⟩:=List.mem_filterMap.1 h;exact Bv hi
theorem M1{x y:Tree}(h:y∈x.items):Uc y<Uc x:=by cases x;exact LF h
theorem Pp(x:Tree)(key:Str):Vi (Rb x key)<Uc x:=by
  cases h:Rb x key with
  | none=>exact G0 x
  | some y=>exact M1 (Vp h)
theorem EA(x:Tree)(key id:Str):Vi (Lg x key id)<Uc x:=by
  cases h:Lg x key id with
  | none=>exact G0 x
  | some y=>exact M1 (Lu h)
theorem PE{k:Int}{t:Str}{ks:List Str}{base:List Tree}(x:Tree)(g:Nat):Vi ((Fe base x.items).item g)<Uc x:=by
  cases h:(Fe base x.items).item g with
  | none=>exact G0 x
  | some y=>exact M1 (Bv h)
section
variable {f g:Str->Nat->Mo}{p q:List Str}{n m:Nat}{ks:List Str}
def Twin(p q:List Str)(a b:Mo):Prop:=∃R:List Cf,a.2=R.map (pre p)/\b.2=R.map (pre q)/\Hy a.1=Hy b.1
theorem Twin.up{s:List Str}{a b:Mo}(h:Twin (p++s) (q++s) a b):Twin p q a b:=by
  obtain⟨R,h1,h2,h3⟩:=h;exact⟨R.map (pre s),by rw[h1,RT],by rw[h2,RT],h3⟩
theorem J5(H:∀k n m,Twin p q (f k n) (g k m)):∀j,∃R:List Cf,(Tg f n ks j).2=R.map (pre p)/\(Tg g m ks j).2=R.map (pre q) /\
    (Tg f n ks j).1.map (λz=>(z.1,blankT z.2))=(Tg g m ks j).1.map (λz=>(z.1,blankT z.2))
  | 0=>⟨[],rfl,rfl,rfl⟩
  | j + 1 => by
    obtain⟨R,h1,h2,h3⟩:=J5 H j;obtain⟨R',k1,k2,k3⟩:=H (ks.getD j []) (n+(Tg f n ks j).2.length) (m+(Tg g m ks j).2.length);refine⟨R++R',by rw[Tg,jQ,<-h1,<-k1],by rw[Tg,jQ,<-h2,<-k2],?_⟩;rw[Tg,Tg,jQ,jQ,h3]
    congr 1
    generalize (f (ks.getD j []) (n+(Tg f n ks j).2.length)).1=o at k3 ⊢;generalize (g (ks.getD j []) (m+(Tg g m ks j).2.length)).1=o' at k3 ⊢;cases o <;> cases o' <;> simp[Hy,DB]at k3 ⊢;exact k3
end
theorem GD(p q:List Str)(g n m:Nat)(xs ys:List Tree):∃R:List Cf,(Ii p g n xs ys).2=R.map (pre p)/\(Ii q g m xs ys).2=R.map (pre q)/\(Ii p g n xs ys).1.map blankT=(Ii q g m xs ys).1.map blankT:=by
  unfold Ii;split
  ·exact⟨[],O,O,O⟩
  split
  ·exact⟨[],O,O,O⟩
  exact⟨[⟨[Is g],5,⟨true,.node 5 [] [] []⟩,⟨true,.node 5 [] [] xs⟩,⟨true,.node 5 [] [] ys⟩⟩],O,O,by simp[N_ n m]⟩
theorem Kp(p q:List Str)(cls:Int)(n m:Nat)(b l r:Option Tree):Twin p q (Wq p cls n b l r) (Wq q cls m b l r) :=
  ⟨[⟨[],cls,Sm b,Sm l,Sm r⟩],by simp[Wq,pre],by simp[Wq,pre],by simp[Wq,Hy,N_ n m]⟩
abbrev Fm:=List Str->Nat->Option Tree->Option Tree->Option Tree->Mo
theorem D3(o:Option Tree):o.toList.map blankT=(Hy o).toList:=by cases o <;> rfl
theorem LE{f g:Fm}{p q:List Str}{base:List Tree}{x y:By}(H:∀s n m k,Twin (p++[s]) (q++[s]) (f (p++[s]) n base[k]? (x.item k) (y.item k)) (g (q++[s]) m base[k]? (x.item k) (y.item k)))(n m:Nat) :
    ∀j,∃R:List Cf,(If f p n base x y j).2=R.map (pre p)/\(If g q m base x y j).2=R.map (pre q)/\(If f p n base x y j).1.map blankT=(If g q m base x y j).1.map blankT
  | 0=>⟨[],rfl,rfl,rfl⟩
  | j + 1 => by
    obtain⟨R,h1,h2,h3⟩:=LE H n m j;obtain⟨R',k1,k2,k3⟩:=GD p q j (n+(If f p n base x y j).2.length) (m+(If g q m base x y j).2.length) (x.put j) (y.put j);obtain⟨R'',l1,l2,l3⟩:=(H (Lib.itoa j) (n+((If f p n base x y j).2++(Ii p j (n+(If f p n base x y j).2.length) (x.put j) (y.put j)).2).length) (m+((If g q m base x y j).2++(Ii q j (m+(If g q m base x y j).2.length) (x.put j) (y.put j)).2).length) j).up;refine⟨R++R'++R'',?_,?_,?_⟩
    ·rw[If,jQ,jQ,<-h1,<-k1,<-l1]
    ·rw[If,jQ,jQ,<-h2,<-k2,<-l2]
    rw[If,If,jQ,jQ,jQ,jQ,h3,k3,D3,D3,l3]
theorem AO{f g:Fm}{p q:List Str}{base:List Tree}{x y:By}(H:∀s n m k,Twin (p++[s]) (q++[s]) (f (p++[s]) n base[k]? (x.item k) (y.item k)) (g (q++[s]) m base[k]? (x.item k) (y.item k)))(n m:Nat) :
    Twin p q (Nw f p n base x y) (Nw g q m base x y):=by
  obtain⟨R,h1,h2,h3⟩:=LE H n m base.length;obtain⟨R',k1,k2,k3⟩:=GD p q base.length (n+(If f p n base x y base.length).2.length) (m+(If g q m base x y base.length).2.length) (x.put base.length) (y.put base.length);refine⟨R++R',?_,?_,?_⟩
  ·rw[Nw,jQ,<-h1,<-k1]
  ·rw[Nw,jQ,<-h2,<-k2]
  simp only[Nw,Hy,Option.map_some,blankT,Sp,jQ,h3,k3]
theorem I6(key:Str):∀(a b:List (Str × Tree)),a.map (λz=>(z.1,blankT z.2))=b.map (λz=>(z.1,blankT z.2))->blankT (Yq a key)=blankT (Yq b key)
  | [],[],_=>rfl
  | [],_::_,h=>by cases h
  | _::_,[],h=>by cases h
  | x :: a, y :: b, h => by
    simp only[List.map_cons,List.cons.injEq,Prod.mk.injEq]at h;obtain⟨⟨h1,h2⟩,h3⟩:=h;have ih:=I6 key a b h3;unfold Yq at ih ⊢;simp only[List.map_cons,Jd];rw[h1];split
    ·simpa using h2
    exact ih
theorem XM{rl rl':List Rl}:∀(F F':Nat)(p q:List Str),(∀s,Tr rl (p++s)=Tr rl' (q++s))->∀(n m:Nat)(b l r:Option Tree),Vi l<F->Vi l<F'->Twin p q (Yg rl F p n b l r) (Yg rl' F' q m b l r):=by
  intro F
  induction F with
  | zero=>intro F' p q _ n m b l r h;omega
  | succ F ih =>
    intro F' p q hf n m b l r h h';obtain⟨F',rfl⟩:∃G,F'=G+1:=⟨F'-1,by omega⟩;have triv:∀o:Option Tree,Twin p q (o,[]) (o,[]):=λo=>⟨[],rfl,rfl,rfl⟩;rw[Yg,Yg];split
    ·exact triv l
    split
    ·exact triv r
    split
    ·exact triv l
    have sub:∀(s:Str)(n m:Nat)(b' l' r':Option Tree),Vi l'<F->Vi l'<F'->Twin (p++[s]) (q++[s]) (Yg rl F (p++[s]) n b' l' r') (Yg rl' F' (q++[s]) m b' l' r') :=
      λs n m b' l' r' h1 h2=>ih F' _ _ (λt=>by rw[sQ,sQ];exact hf _) n m b' l' r' h1 h2
    cases b with
    | none=>exact Kp ..
    | some x =>
      cases l with
      | none=>exact Kp ..
      | some y =>
        cases r with
        | none=>exact Kp ..
        | some z =>
          simp only[Vi]at h h';simp only[Et];split
          ·split
           ·obtain⟨R, h1, h2, h3⟩ := J5 (n := n) (m := m) (ks := Te [y.keys, z.keys]) (λk n m => (sub k n m (Rb x k) (Rb y k) (Rb z k) (by have := Pp y k;omega) (by have := Pp y k;omega)).up) (Te [y.keys, z.keys]).length
            refine⟨R,h1,h2,?_⟩;have e1:=congrArg (List.map (·.1)) h3;have e2:=congrArg (List.map (·.2)) h3;simp only[List.map_map,Function.comp_def]at e1 e2;simp only[BB,Hy,Option.map_some,blankT,Sp,List.map_map,Function.comp_def,e1,e2]
           split
           ·rw[Ql, Ql]
            have e0:=hf [];rw[qQ,qQ]at e0;rw[e0];have hgap:Twin p q (Ql.gapM (Yg rl F) p n x y z) (Ql.gapM (Yg rl' F') q m x y z):=by
              unfold Ql.gapM;split
              ·exact AO (λs n m k=>sub s n m _ _ _ (by have:=PE (k:=0) (t:=[]) (ks:=[]) (base:=x.items) y k;omega) (by have:=PE (k:=0) (t:=[]) (ks:=[]) (base:=x.items) y k;omega)) n m
              exact Kp ..
            cases Tr rl' q with
            | none=>exact hgap
            | some key =>
              simp only;split
              ·unfold ZJ
               obtain⟨R,h1,h2,h3⟩:=J5 (n:=n) (m:=m) (ks:=Te [Wi y key,Wi z key]) (λk n m=>(sub (X8 k) n m (Lg x key k) (Lg y key k) (Lg z key k) (by have:=EA y key k;omega) (by have:=EA y key k;omega)).up) (Te [Wi y key,Wi z key]).length;have e1:=congrArg (List.map (·.1)) h3;simp only[List.map_map,Function.comp_def]at e1;simp only[e1];split
               ·refine⟨R, h1, h2, ?_⟩
                simp only[Hy,Option.map_some,blankT,Sp,List.map_map,Option.some.injEq,Tree.node.injEq,true_and];exact List.map_congr_left λk _=>I6 k _ _ h3
               exact Kp ..
              exact hgap
           exact Kp ..
          exact Kp ..
end Go.Scarf
namespace Go.Scarf
section
variable {α:Type}(sz:α->Nat)(p:α->α->Nat)
inductive AliP:Nat->Nat->List α->List α->List (Nat × Nat)->Nat->Prop
  | nil {i j:Nat}:AliP i j [] [] [] 0
  | pair {i j:Nat} {x y:α} {xs ys:List α} {m:List (Nat × Nat)} {c:Nat}:AliP (i+1) (j+1) xs ys m c->AliP i j (x::xs) (y::ys) ((i,j)::m) (p x y+c)
  | drop {i j:Nat} {x:α} {xs ys:List α} {m:List (Nat × Nat)} {c:Nat}:AliP (i+1) j xs ys m c->AliP i j (x::xs) ys m (sz x+c)
  | add {i j:Nat} {y:α} {xs ys:List α} {m:List (Nat × Nat)} {c:Nat}:AliP i (j+1) xs ys m c->AliP i j xs (y::ys) m (sz y+c)
end
section
variable {α:Type}{sz:α->Nat}{p:α->α->Nat}
theorem RiseN.low{n size:Nat}{i j k l:Nat}{m:List (Nat × Nat)}(h:RiseN n size k l m)(h1:i<=k)(h2:j<=l):RiseN n size i j m:=by
  cases m with
  | nil=>have h:l<=size:=h;exact fQ h2 h
  | cons z m=>exact⟨fQ h1 h.1,h.2.1,fQ h2 h.2.2.1,h.2.2.2⟩
theorem AliP.rise{i j:Nat}{xs ys:List α}{m:List (Nat × Nat)}{c:Nat}(h:AliP sz p i j xs ys m c):RiseN (i+xs.length) (j+ys.length) i j m:=by
  induction h with
  | nil=>exact gQ _
  | @pair i j x y xs ys m c _ ih =>
    rw[kQ,kQ,show i+(xs.length+1)=i+1+xs.length by omega,show j+(ys.length+1)=j+1+ys.length by omega];exact⟨gQ _,by show i<_;omega,gQ _,by show j<_;omega,ih⟩
  | @drop i j x xs ys m c _ ih =>
    rw[kQ,show i+(xs.length+1)=i+1+xs.length by omega];exact ih.low (Nat.le_succ _) (gQ _)
  | @add i j y xs ys m c _ ih =>
    rw[kQ,show j+(ys.length+1)=j+1+ys.length by omega];exact ih.low (gQ _) (Nat.le_succ _)
theorem IL:∀(xs:List α)(i j:Nat),AliP sz p i j xs [] [] (al sz p xs [])
  | [],_,_=>.nil
  | x::xs,i,j=>by rw[UZ];exact .drop (IL xs (i+1) j)
theorem QD:∀(ys:List α)(i j:Nat),AliP sz p i j [] ys [] (al sz p [] ys)
  | [],_,_=>.nil
  | y::ys,i,j=>by rw[CT];exact .add (QD ys i (j+1))
end
theorem pth_ali(la lb:List TreeN):∀(k i j:Nat),(la.length-i)+(lb.length-j)<=k->∃mp,pth i j (la.drop i) (lb.drop j)=Qe mp/\AliP Sq pN i j (la.drop i) (lb.drop j) mp (al Sq pN (la.drop i) (lb.drop j)):=by
  intro k
  induction k with
  | zero =>
    intro i j hk;rw[U3 tX,List.drop_eq_nil_of_le (show la.length<=i by omega),List.drop_eq_nil_of_le (show lb.length<=j by omega)];exact⟨[],O,.nil⟩
  | succ k ih =>
    intro i j hk;by_cases h1:i<la.length
    ·by_cases h2 : j<lb.length
     ·have hc := AE (sz := Sq) (p := pN) la[i] lb[j] (la.drop (i + 1)) (lb.drop (j + 1))
      rw[G2 h1 h2];by_cases c1:al Sq pN (la.drop i) (lb.drop j)=pN la[i] lb[j]+al Sq pN (la.drop (i+1)) (lb.drop (j+1))
      ·obtain⟨mp, e, h⟩ := ih (i + 1) (j + 1) tX
       rw[if_pos c1,e,c1,List.drop_eq_getElem_cons h1,List.drop_eq_getElem_cons h2];exact⟨(i,j)::mp,O,.pair h⟩
      rw[if_neg c1];by_cases c2:al Sq pN (la.drop i) (lb.drop j)=Sq la[i]+al Sq pN (la.drop (i+1)) (lb.drop j)
      ·obtain⟨mp, e, h⟩ := ih (i + 1) j tX
       rw[if_pos c2,e,c2];refine⟨mp,O,?_⟩;rw[List.drop_eq_getElem_cons h1];exact .drop h
      obtain⟨mp, e, h⟩ := ih i (j + 1) tX;have c3:al Sq pN (la.drop i) (lb.drop j)=Sq lb[j]+al Sq pN (la.drop i) (lb.drop (j+1)):=by
        rw[<-List.drop_eq_getElem_cons h1,<-List.drop_eq_getElem_cons h2]at hc;omega
      rw[if_neg c2,e,c3];refine⟨mp,O,?_⟩;rw[List.drop_eq_getElem_cons h2];exact .add h
     rw[U3 tX, List.drop_eq_nil_of_le (show lb.length <= j by omega)];exact⟨[],O,IL _ _ _⟩
    rw[U3 tX, List.drop_eq_nil_of_le (show la.length <= i by omega)];exact⟨[],O,QD _ _ _⟩
theorem RA(a b:List Tree):∃mp,pth 0 0 (a.map Fj) (b.map Fj)=Qe mp/\RiseN a.length b.length 0 0 mp:=by
  obtain⟨mp,e,h⟩:=pth_ali (a.map Fj) (b.map Fj) _ 0 0 (gQ _);rw[List.drop_zero,List.drop_zero]at e h;have hr:=h.rise;rw[Nat.zero_add,Nat.zero_add,rQ,rQ]at hr;exact⟨mp,e,hr⟩
end Go.Scarf
namespace Go.Scarf
open Go.RowKit
theorem J_{k:Int}{t:Str}{ks:List Str}{xs:List Tree}(h:blankT (.node k t ks xs)=.node k t ks xs):∀x∈xs,blankT x=x:=by
  rw[blankT,Sp]at h;injection h with _ _ _ h4
  intro x hx;obtain⟨i,hi,rfl⟩:=List.mem_iff_getElem.1 hx;have h5:=congrArg (λl=>l[i]?) h4;simpa[hi]using h5
theorem Gq{x:Tree}(h:blankT x=x):∀y∈x.items,blankT y=y:=by cases x;exact J_ h
theorem KF{xs:List Tree}(h:∀x∈xs,blankT x=x):Ir xs=xs:=by
  rw[Sp];exact (List.map_congr_left h).trans (List.map_id _)
def Wt(o:Option Tree):Prop:=∀x,o=some x->blankT x=x
theorem T5{x:Tree}(h:blankT x=x)(key:Str):Wt (Rb x key):=λy hy=>Gq h y (Vp hy)
theorem Xz{x:Tree}(h:blankT x=x)(key id:Str):Wt (Lg x key id):=λy hy=>Gq h y (Lu hy)
theorem WI:∀x:Tree,Pd rnodeB x=true->blankT x=x:=λx=>Tree.ind (Q:=λx=>Pd rnodeB x=true->blankT x=x) (λk t ks xs ih h=>by
  obtain⟨h1,h2⟩:=De h;have hk:k≠7:=by
    have:decide (k≠7)=true:=(Bool.and_eq_true_iff.1 (show rnodeB (.node k t ks xs)=true from h1)).1;exact of_decide_eq_true this
  rw[blankT,if_neg hk,KF λx hx=>ih x hx (h2 x hx)]) x
theorem Xs{x:Tree}(h:Nc x=true):blankT x=x:=WI x (Bool.and_eq_true_iff.1 h).2
theorem R9:blankT zeroT=zeroT:=rfl
section
variable {f:Str->Nat->Mo}{n:Nat}{ks:List Str}
theorem M0(H:∀k n,(f k n).2=[]->Wt (f k n).1):∀j,(Tg f n ks j).2=[]->∀z∈(Tg f n ks j).1,blankT z.2=z.2
  | 0,_=>λz hz=>by cases hz
  | j + 1, h => by
    rw[Tg]at h ⊢;obtain⟨h1,h2⟩:=List.append_eq_nil_iff.1 h;intro z hz;rcases mQ.1 hz with hz|hz
    ·exact M0 H j h1 z hz
    have hc := H _ _ h2;generalize (f (ks.getD j []) (n+(Tg f n ks j).2.length)).1=o at hz hc;cases o with
    | none=>cases hz
    | some x=>rw[pQ.1 hz];exact hc x rfl
end
theorem CB{f:Fm}{p:List Str}{n:Nat}{base:List Tree}{x y:By}(hx:∀z∈x.items,blankT z=z)(hy:∀z∈y.items,blankT z=z)
    (H:∀s n k,(f (p++[s]) n base[k]? (x.item k) (y.item k)).2=[]->Wt (f (p++[s]) n base[k]? (x.item k) (y.item k)).1):∀j,(If f p n base x y j).2=[]->∀z∈(If f p n base x y j).1,blankT z=z
  | 0,_=>λz hz=>by cases hz
  | j + 1, h => by
    rw[If]at h ⊢;obtain⟨h12,h3⟩:=List.append_eq_nil_iff.1 h;obtain⟨h1,h2⟩:=List.append_eq_nil_iff.1 h12;intro z hz;rcases mQ.1 hz with hz|hz
    ·rcases mQ.1 hz with hz|hz
     ·exact CB hx hy H j h1 z hz
     unfold Ii at h2 hz;split at hz
     ·exact hy z (Om hz)
     split at hz
     ·exact hx z (Om hz)
     rename_i a b
     rw[if_neg a,if_neg b]at h2;cases h2
    have hc := H _ _ _ h3;generalize (f (p++[Lib.itoa j]) (n+((If f p n base x y j).2++(Ii p j (n+(If f p n base x y j).2.length) (x.put j) (y.put j)).2).length) base[j]? (x.item j) (y.item j)).1=o at hz hc;cases o with
    | none=>cases hz
    | some v=>rw[pQ.1 hz];exact hc v rfl
theorem VP{p:List Str}{g n:Nat}{xs ys:List Tree}(hx:∀z∈xs,blankT z=z)(hy:∀z∈ys,blankT z=z)(h:(Ii p g n xs ys).2=[]):∀z∈(Ii p g n xs ys).1,blankT z=z:=by
  unfold Ii at h ⊢;split
  ·exact hy
  split
  ·exact hx
  rename_i a b
  rw[if_neg a,if_neg b]at h;cases h
theorem CM{a:List (Str × Tree)}(h:∀z∈a,blankT z.2=z.2)(id:Str):blankT (Yq a id)=Yq a id:=by
  unfold Yq;cases hl:Jd (a.map (·.1)) (a.map (·.2)) id with
  | none=>exact R9
  | some y =>
    have:=Sn hl;obtain⟨z,hz,rfl⟩:=nQ.1 this;exact h z hz
theorem V4{k:Int}{t:Str}{ks:List Str}{xs:List Tree}(hk:k≠7)(h:∀x∈xs,blankT x=x):blankT (.node k t ks xs)=.node k t ks xs:=by rw[blankT,if_neg hk,KF h]
theorem Ep(p:List Str)(cls:Int)(n:Nat)(b l r:Option Tree):(Wq p cls n b l r).2≠[]:=by simp[Wq]
theorem Z5{rl:List Rl}:∀(F:Nat)(p:List Str)(n:Nat)(b l r:Option Tree),Wt b->Wt l->Wt r->(Yg rl F p n b l r).2=[]->Wt (Yg rl F p n b l r).1:=by
  intro F
  induction F with
  | zero=>intro p n b l r _ hl _ _;exact hl
  | succ F ih =>
    intro p n b l r hb hl hr h;rw[Yg]at h ⊢;split
    ·exact hl
    rename_i c1
    rw[if_neg c1]at h;split
    ·exact hr
    rename_i c2
    rw[if_neg c2]at h;split
    ·exact hl
    rename_i c3
    rw[if_neg c3]at h;cases b with
    | none=>exact absurd h (Ep _ _ _ _ _ _)
    | some x =>
      cases l with
      | none=>exact absurd h (Ep _ _ _ _ _ _)
      | some y =>
        cases r with
        | none=>exact absurd h (Ep _ _ _ _ _ _)
        | some z =>
          have hx:=hb x rfl;have hy:=hl y rfl;have hz:=hr z rfl;simp only[Et]at h ⊢;split
          ·rename_i c4
           rw[if_pos c4]at h;split
           ·rename_i c5
            rw[if_pos c5]at h;have:=M0 (λk n=>ih (p++[k]) n (Rb x k) (Rb y k) (Rb z k) (T5 hx k) (T5 hy k) (T5 hz k)) _ h;intro v hv;obtain rfl:=lQ hv;refine V4 Pa λu hu=>?_;obtain⟨q,hq,rfl⟩:=nQ.1 hu;exact this q hq
           rename_i c5
           rw[if_neg c5]at h;split
           ·rename_i c6
            rw[if_pos c6]at h;have hgap:(Ql.gapM (Yg rl F) p n x y z).2=[]->Wt (Ql.gapM (Yg rl F) p n x y z).1:=by
              unfold Ql.gapM;split
              ·intro h
               unfold Nw at h ⊢;obtain⟨h1,h2⟩:=List.append_eq_nil_iff.1 h;have kx:∀u∈(Fe x.items y.items).items,blankT u=u:=Gq hy;have ky:∀u∈(Fe x.items z.items).items,blankT u=u:=Gq hz;intro v hv;obtain rfl:=lQ hv;refine V4 Pa λu hu=>?_;rcases mQ.1 hu with hu|hu
               ·exact CB kx ky (λs n k=>ih (p++[s]) n _ _ _ (λw hw=>Gq hx w (List.mem_of_getElem? hw)) (λw hw=>kx w (Bv hw)) (λw hw=>ky w (Bv hw))) _ h1 u hu
               exact VP (λw hw=>kx w (Om hw)) (λw hw=>ky w (Om hw)) h2 u hu
              exact λh=>absurd h (Ep _ _ _ _ _ _)
            rw[Ql]at h ⊢;generalize Tr rl p=o at h ⊢;cases o with
            | none=>exact hgap h
            | some key =>
              simp only at h ⊢;split
              ·rename_i c7
               rw[if_pos c7]at h;unfold ZJ at h ⊢;simp only at h ⊢;split
               ·rename_i o ho
                rw[ho]at h;have:=M0 (λk n=>ih (p++[X8 k]) n (Lg x key k) (Lg y key k) (Lg z key k) (Xz hx key k) (Xz hy key k) (Xz hz key k)) _ h;intro v hv;obtain rfl:=lQ hv;refine V4 Pa λu hu=>?_;obtain⟨q,hq,rfl⟩:=nQ.1 hu;exact CM this q
               rename_i ho
               rw[ho]at h;exact absurd h (Ep _ _ _ _ _ _)
              rename_i c7
              rw[if_neg c7]at h;exact hgap h
           rename_i c6
           rw[if_neg c6]at h;exact absurd h (Ep _ _ _ _ _ _)
          rename_i c4
          rw[if_neg c4]at h;exact absurd h (Ep _ _ _ _ _ _)
end Go.Scarf
namespace Go.Scarf
open Go.RowKit
def Ni:Option Tree->Nat
  | some x=>Mb x
  | none=>0
theorem BE:∀(ks:List Str)(xs:List Tree)(id:Str),ks.length=xs.length->Jd ks xs id=if id∈ks then some (xs.getD (ks.idxOf id) zeroT) else none
  | [],[],id,_=>by simp[Jd]
  | k :: ks, x :: xs, id, h => by
    rw[Jd];by_cases e:k=id
    ·subst e;simp
    rw[if_neg e, BE ks xs id (by simpa using h)];have e1:(id∈k::ks)=(id∈ks):=by simp[Ne.symm e,eq_comm,λh:id=k=>e h.symm]
    rw[List.idxOf_cons];have e2:(k==id)=false:=by simpa using e
    simp[e1,e2]
  | [],_::_,_,h=>by cases h
  | _::_,[],_,h=>by cases h
theorem DR(x:Tree)(key id:Str):Lg x key id=Jd (Wi x key) x.items id:=by
  by_cases hm:id∈Wi x key
  ·have hne : Wi x key ≠ [] := λe => by rw[e]at hm;cases hm
   rw[BE _ _ _ (PI hne).1,if_pos hm];unfold Lg PJ;rw[if_pos hm];rfl
  have e1 : Lg x key id = none := by unfold Lg PJ;rw[if_neg hm];rfl
  rw[e1];symm;cases h:Jd (Wi x key) x.items id with
  | none=>rfl
  | some y=>exact absurd (Uy h) hm
def Np(g:Str->Option Tree)(ks:List Str):Nat:=(ks.map λk=>Ni (g k)).sum
theorem GU{g h:Str->Option Tree}{c:Str->Nat}:∀{ks:List Str},(∀k∈ks,Ni (g k)<=c k+Ni (h k))->Np g ks<=(ks.map c).sum+Np h ks
  | [],_=>by simp[Np]
  | k :: ks, H => by
    have ih:=GU (g:=g) (h:=h) (c:=c) (ks:=ks) λk hk=>H k (by simp[hk]);have h1:=H k Da;unfold Np at ih ⊢;simp only[List.map_cons,List.sum_cons];omega
theorem ZL(k0:Str)(s:Nat):∀{ks:List Str},ks.Nodup->(ks.map λk=>if k0=k then s else 0).sum<=s
  | [],_=>by simp
  | k :: ks, h => by
    obtain⟨h1,h2⟩:=List.nodup_cons.1 h;have ih:=ZL k0 s h2;simp only[List.map_cons,List.sum_cons];by_cases e:k0=k
    ·have:(ks.map λk=>if k0=k then s else 0).sum=0:=by
       have hz:∀l:List Str,k∉l->(l.map λk=>if k0=k then s else 0).sum=0:=by
         intro l hl
         induction l with
         | nil=>rfl
         | cons a l ih =>
           simp only[List.map_cons,List.sum_cons];rw[ih (λh=>hl (by simp[h])),if_neg (λh=>hl (by simp[<-h,e]))]
       exact hz ks h1
     rw[this,if_pos e];omega
    rw[if_neg e];omega
theorem Y5{qs:List Str}(hq:qs.Nodup):∀(ks:List Str)(xs:List Tree),Np (Jd ks xs) qs<=Kb xs
  | k :: ks, x :: xs => by
    have ih:=Y5 hq ks xs;have h1:=GU (g:=Jd (k::ks) (x::xs)) (h:=Jd ks xs) (c:=λq=>if k=q then Mb x else 0) (ks:=qs) λq _=>by
      rw[Jd];split
      ·simp only[Ni];omega
      omega
    have h2:=ZL k (Mb x) hq;rw[Kb];omega
  | [], xs => by
    have:∀l:List Str,Np (Jd [] xs) l=0:=λl=>by
      induction l with
      | nil=>rfl
      | cons a l ih=>unfold Np at ih ⊢;rw[List.map_cons,List.sum_cons,ih];simp[Jd,Ni]
    rw[this];omega
  | k' :: ks', [] => by
    have:∀l:List Str,Np (Jd (k'::ks') []) l=0:=λl=>by
      induction l with
      | nil=>rfl
      | cons a l ih=>unfold Np at ih ⊢;rw[List.map_cons,List.sum_cons,ih];simp[Jd,Ni]
    rw[this];omega
theorem Bl(g:Str->Option Tree){ks:List Str}{j:Nat}(h:j<ks.length):Np g (ks.take (j+1))=Np g (ks.take j)+Ni (g (ks.getD j [])):=by
  unfold Np;rw[iQ h,jQ,List.sum_append];simp[List.getD,h]
theorem Mm(g:Str->Option Tree)(ks:List Str)(j:Nat):Np g (ks.take j)<=Np g ks:=by
  conv=>rhs;rw[<-List.take_append_drop j ks]
  unfold Np;rw[jQ,List.sum_append];omega
theorem Bq{qs:List Str}(hq:qs.Nodup)(x:Tree):Np (Rb x) qs+1<=Mb x:=by
  cases x with|node k t ks xs=>exact (by have:=Y5 hq ks xs;rw[Mb];show Np (Jd ks xs) qs+1<=_;omega)
theorem Pq{qs:List Str}(hq:qs.Nodup)(x:Tree)(key:Str):Np (Lg x key) qs+1<=Mb x:=by
  have e:Lg x key=Jd (Wi x key) x.items:=funext λid=>DR x key id;rw[e];have:=Y5 hq (Wi x key) x.items;cases x with|node k t ks xs=>rw[Mb];show Np _ qs+1<=_;simp only[Tree.items]at *;omega
theorem Vx(m:List (Nat × Nat)):HP (Qe m)=m:=by
  unfold HP Qe;rw[List.map_map];exact (List.map_congr_left λz _=>by simp).trans (List.map_id _)
theorem SN(v:List Tree)(gp:Nat->List Int)(im:Nat->Int):∀(d j:Nat),j+d<=v.length->(rng j (j+d)).filterMap (λi=>(By.mk v gp im).at i)=(v.drop j).take d
  | 0,j,_=>by simp[rng]
  | d + 1, j, h => by
    have e:rng j (j+(d+1))=(j:Int)::rng (j+1) (j+1+d):=by
      unfold rng;rw[show j+(d+1)-j=d+1 by omega,show j+1+d-(j+1)=d by omega,List.range'_succ,List.map_cons]
    rw[e,List.filterMap_cons];have e2:(By.mk v gp im).at (j:Int)=some v[j]:=by
      unfold By.at;rw[if_neg tX];simp
    rw[e2,SN v gp im d (j+1) tX,List.drop_eq_getElem_cons (show j<v.length by omega),List.take_succ_cons]
theorem laid_law(base v:List Tree):∃a:Nat->Nat,a 0=0/\a base.length<=v.length/\(Fe base v).put base.length=v.drop (a base.length) /\
    ∀k,k<base.length->(∃b,a k<=b/\b<v.length/\a (k+1)=b+1/\(Fe base v).item k=v[b]?/\(Fe base v).put k=(v.drop (a k)).take (b-a k))\/((Fe base v).item k=none/\(Fe base v).put k=[]/\a (k+1)=a k):=by
  obtain⟨mp,e,hr⟩:=RA base v;have em:Fe base v=⟨v,Rj base.length v.length mp 0 (λ_=>[]),Cu mp (λ_=>-1)⟩:=by
    unfold Fe;rw[e,Vx]
  obtain⟨h1,h2,h3⟩:=TA mp 0 0 (λ_=>[]) (λ_=>-1) hr (Nat.zero_le _) (λ_ _=>rfl) (λ_ _=>rfl);rw[em];have hb:∀k,B4 mp 0 k<=v.length:=λk=>JQ hr;refine⟨B4 mp 0,FT hr (gQ _),h3,?_,λk hk=>?_⟩
  ·unfold By.put
   rw[show (By.mk v (Rj base.length v.length mp 0 λ_=>[]) (Cu mp λ_=>-1)).gap base.length=rng (B4 mp 0 base.length) (B4 mp 0 base.length+(v.length-B4 mp 0 base.length)) by rw[Nat.add_sub_cancel' h3];exact h2];rw[SN _ _ _ _ _ tX];exact List.take_of_length_le (by rw[List.length_drop];omega)
  rcases h1 k (Nat.zero_le _) hk with ⟨b, k1, k2, k3, k4⟩|⟨k1, k2, k3⟩
  ·have hb1 := hb (k + 1)
   refine .inl ⟨b,k4,by omega,k3,?_,?_⟩
   ·unfold By.item By.at
    simp only[k1];rw[if_neg tX];simp
   unfold By.put;rw[show (By.mk v (Rj base.length v.length mp 0 λ_=>[]) (Cu mp λ_=>-1)).gap k=rng (B4 mp 0 k) (B4 mp 0 k+(b-B4 mp 0 k)) by rw[Nat.add_sub_cancel' k4];exact k2];exact SN _ _ _ _ _ tX
  refine .inr ⟨?_, ?_, k3⟩
  ·unfold By.item By.at
   simp only[k1];rfl
  unfold By.put;simp only[k2];rfl
def wG(y:By):Nat->Nat
  | 0=>0
  | j+1=>wG y j+Kb (y.put j)+Ni (y.item j)
theorem Vk(base v:List Tree):∀j,j<=base.length->wG (Fe base v) j+(if j=base.length then Kb ((Fe base v).put j) else 0)<=Kb v:=by
  obtain⟨a,a0,an,hp,hk⟩:=laid_law base v;have key:∀j,j<=base.length->wG (Fe base v) j=Kb (v.take (a j)):=by
    intro j
    induction j with
    | zero=>intro _;rw[a0];rfl
    | succ j ih =>
      intro hj;rw[wG,ih tX];rcases hk j tX with ⟨b,h1,h2,h3,h4,h5⟩|⟨h1,h2,h3⟩
      ·rw[h4, h5, h3, List.getElem?_eq_getElem h2]
       have e1:v.take (b+1)=v.take (a j)++((v.drop (a j)).take (b-a j)++[v[b]]):=by
         rw[<-sQ,<-List.take_add,Nat.add_sub_cancel' h1,iQ h2]
       rw[e1,Ee,Ee];simp only[Ni,Kb];omega
      rw[h1,h2,h3];simp[Kb,Ni]
  intro j hj;rw[key j hj];by_cases e:j=base.length
  ·subst e
   rw[if_pos rfl,hp,<-Ee,List.take_append_drop];exact gQ _
  rw[if_neg e];have:Kb v=Kb (v.take (a j))+Kb (v.drop (a j)):=by rw[<-Ee,List.take_append_drop]
  omega
theorem T4(base v:List Tree)(j:Nat)(hj:j<base.length):wG (Fe base v) j+Kb ((Fe base v).put j)+Ni ((Fe base v).item j)<=Kb v:=by
  have:=Vk base v (j+1) hj;rw[wG]at this;omega
section
variable {f:Str->Nat->Mo}{n:Nat}{ks:List Str}{gl gr:Str->Option Tree}
theorem Ku(H:∀k n,(f k n).2.length<=Ni (gl k)+Ni (gr k)):∀j,j<=ks.length->(Tg f n ks j).2.length<=Np gl (ks.take j)+Np gr (ks.take j)
  | 0,_=>by simp[Tg]
  | j + 1, hj => by
    have ih:=Ku H j tX;have h1:=H (ks.getD j []) (n+(Tg f n ks j).2.length);rw[Tg,dQ,Bl gl tX,Bl gr tX];omega
end
theorem Hx(p:List Str)(g n:Nat)(xs ys:List Tree):(Ii p g n xs ys).2.length<=Kb xs+Kb ys:=by
  unfold Ii;split
  ·simp
  rename_i h
  split
  ·simp
  have := Uh xs;simp only[kQ,List.length_nil];omega
theorem Xr{f:Fm}{p:List Str}{n:Nat}{base:List Tree}{x y:By}(H:∀s n k,(f (p++[s]) n base[k]? (x.item k) (y.item k)).2.length<=Ni (x.item k)+Ni (y.item k)):∀j,(If f p n base x y j).2.length<=wG x j+wG y j
  | 0=>by simp[If]
  | j + 1 => by
    have ih:=Xr (n:=n) H j;have h1:=Hx p j (n+(If f p n base x y j).2.length) (x.put j) (y.put j);have h2:=H (Lib.itoa j) (n+((If f p n base x y j).2++(Ii p j (n+(If f p n base x y j).2.length) (x.put j) (y.put j)).2).length) j;have e:∀A B C:List Cf,(A++B++C).length=A.length+B.length+C.length:=λA B C=>by rw[dQ,dQ]
    rw[If,e,wG,wG];omega
theorem Iq{p:List Str}{cls:Int}{n:Nat}{b l r:Option Tree}(h:¬Vh l r=true):(Wq p cls n b l r).2.length<=Ni l+Ni r:=by
  have:1<=Ni l+Ni r:=by
    cases l with
    | some x=>have:=Rr x;simp only[Ni];omega
    | none =>
      cases r with
      | some x=>have:=Rr x;simp only[Ni];omega
      | none=>exact absurd rfl h
  simp only[Wq,kQ,List.length_nil];omega
theorem Zp{rl:List Rl}:∀(F:Nat)(p:List Str)(n:Nat)(b l r:Option Tree),(Yg rl F p n b l r).2.length<=Ni l+Ni r:=by
  intro F
  induction F with
  | zero=>intro p n b l r;simp[Yg]
  | succ F ih =>
    intro p n b l r;rw[Yg];split
    ·simp
    rename_i c1
    split
    ·simp
    split
    ·simp
    cases b with
    | none=>exact Iq c1
    | some x =>
      cases l with
      | none=>exact Iq c1
      | some y =>
        cases r with
        | none=>exact Iq c1
        | some z =>
          simp only[Et];split
          ·split
           ·have h1 := Ku (n := n) (λk n => ih (p ++ [k]) n (Rb x k) (Rb y k) (Rb z k)) (Te [y.keys, z.keys]).length (gQ _)
            rw[List.take_length]at h1;have h2:=Bq (Ig [y.keys,z.keys]) y;have h3:=Bq (Ig [y.keys,z.keys]) z;unfold BB;simp only[Ni];omega
           split
           ·have hgap:(Ql.gapM (Yg rl F) p n x y z).2.length<=Ni (some y)+Ni (some z):=by
              unfold Ql.gapM;split
              ·unfold Nw
               have h1:=Xr (n:=n) (base:=x.items) (x:=Fe x.items y.items) (y:=Fe x.items z.items) (λs n k=>ih (p++[s]) n _ _ _) x.items.length;have h2:=Hx p x.items.length (n+(If (Yg rl F) p n x.items (Fe x.items y.items) (Fe x.items z.items) x.items.length).2.length) ((Fe x.items y.items).put x.items.length) ((Fe x.items z.items).put x.items.length);have h3:=Vk x.items y.items x.items.length (gQ _);have h4:=Vk x.items z.items x.items.length (gQ _);rw[if_pos rfl]at h3 h4;have h5:∀v:Tree,Kb v.items<=Mb v:=λv=>by cases v;rw[Mb];simp only[Tree.items];omega
               have h6:=h5 y;have h7:=h5 z;simp only[dQ,Ni];omega
              exact Iq c1
            rw[Ql];cases Tr rl p with
            | none=>exact hgap
            | some key =>
              simp only;split
              ·have h1 := Ku (n := n) (λk n => ih (p ++ [X8 k]) n (Lg x key k) (Lg y key k) (Lg z key k)) (Te [Wi y key, Wi z key]).length (gQ _)
               rw[List.take_length]at h1;have h2:=Pq (Ig [Wi y key,Wi z key]) y key;have h3:=Pq (Ig [Wi y key,Wi z key]) z key;unfold ZJ;simp only;split
               ·simp only[Ni];omega
               exact Iq c1
              exact hgap
           exact Iq c1
          exact Iq c1
end Go.Scarf
