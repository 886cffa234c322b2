/- A part of the proof. -/
import Derived.Test.YtbhneplafiapdaaGreatDoorRow
import Derived.Carry
import Derived.Laws.MakeOwn
set_option linter.all false
set_option maxHeartbeats 8000000
set_option maxRecDepth 10000
namespace Go.Scarf
open Go.RowKit
section
variable {S:Nat->Prop}{w:World}
theorem Rep.slice_is{ds:List D}{v:Value}(h:Rep S w (.slice ds) [v]):∃A c,v=.slice A ds.length c:=by
  rw[Rep]at h;obtain⟨A,c,he,-⟩:=h;exact⟨A,c,(List.cons.inj he).1⟩
theorem Rep.elem1{ds:List D}{A:Option Addr}{len c:Nat}(h:Rep S w (.slice ds) [.slice A len c])(hs:∀d∈ds,Jc d=1){i:Nat}(hi:i<ds.length) :
    ∃ad v,A=some ad/\w.cell? (ad.add (i*1))=some v/\Rep S w ds[i] [v]:=by
  obtain⟨ad,cs,hA,hl,hc,hr⟩:=Rep.elem (sz:=1) h hs hi
  match cs,hl with
  | [v], _ =>
    have:=hc 0 Pa;simp only[Yq,List.getElem_cons_zero]at this;exact⟨ad,v,hA,this,hr⟩
theorem Rep.int_elem{ns:List Int}{A:Option Addr}{len c:Nat}(h:Rep S w (.slice (ns.map Lc)) [.slice A len c]){i:Nat}(hi:i<ns.length) :
    ∃ad,A=some ad/\w.cell? (ad.add (i*1))=some (J ns[i])/\(-9223372036854775808<=ns[i]/\ns[i]<=9223372036854775807):=by
  obtain⟨ad,v,hA,hc,hr⟩:=Rep.elem1 h (λd hd=>by obtain⟨k,_,rfl⟩:=nQ.1 hd;rfl) (i:=i) (by simpa using hi);rw[List.getElem_map,Lc,Rep]at hr;obtain⟨he,hk⟩:=hr;obtain rfl:=(List.cons.inj he).1;exact⟨ad,hA,hc,hk⟩
end
section
variable {S:Nat->Prop}{w:World}
def ZI(x:List Str × List Int):D:=.agg [Xe x.1,.slice (x.2.map Lc)]
end
open Go.RowKit Go.Proofs Go.Proofs.Tryz
set_option maxRecDepth 100000
section
variable {H:Type}{enc:TypeId × Value->H}{W:World}{base:Nat}{sp:Nat->Bool}{held:Bool}
open Go.ChangeShapes Go.WideShapes Go.ChangeAt Go.Lib Go.Shelf
theorem FH{t e:TypeId}{m:Nat}{α:Type}[Inhabited α]{g:α->D}{r:Reach}{b0:Nat}{v:Value}{d:DataW H}{q:List MemPlace}(ht:prog.underlying t=some (.slice e))(hC:prog.cellsOf e=m)
    (hel:∀n cs x,DataW.trod enc prog W base sp held n e cs=some x->∃a:α,Rep (λ_=>True) W (g a) cs) (hv:Value.okWide prog W r b0 t v) (h:DataW.Trod enc prog W base sp held t v d q) :
    ∃(l:List α)(A:Option Addr)(c:Nat),v=.slice A l.length c/\Rep (λ_=>True) W (.slice (l.map g)) [.slice A l.length c]:=by
  obtain⟨A,n,c,rfl⟩:=okWide_slice ht hv;obtain⟨fuel,hf⟩:=h;obtain⟨l,hl⟩:=Hp ht hC (λn _ cs x h=>hel n cs x h) hf;have hl2:Rep (λ_=>True) W (.slice (l.map g)) [.slice A n c]:=hl;obtain⟨A2,c2,he⟩:=Rep.slice_is hl2;rw[rQ]at he;obtain⟨rfl,rfl,rfl⟩:=Value.slice.inj he;exact⟨l,A,c,O,hl2⟩
end
section
variable {H:Type}{enc:TypeId × Value->H}{W:World}{base:Nat}{sp:Nat->Bool}{held:Bool}
end
section
variable {H:Type}{enc:TypeId × Value->H}{W:World}{base:Nat}{sp:Nat->Bool}{held:Bool}
end
def Lm(N:Nat)(f:Nat->Int):Array Value:=((List.range N).map λk=>Value.int .i64 (f k)).toArray
theorem Lx{N k:Nat}{f:Nat->Int}(h:k<N):(Lm N f)[k]? = some (J (f k)):=by simp[Lm,h]
def Ps(f:Nat->Int)(k:Nat)(v:Int):Nat->Int:=λx=>if x=k then v else f x
theorem Z8(f:Nat->Int)(k:Nat)(v:Int):Ps f k v k=v:=if_pos rfl
theorem Gq{f:Nat->Int}{k x:Nat}{v:Int}(h:x≠k):Ps f k v x=f x:=if_neg h
section
variable {w0 w w':World}{Ds:List Nat}{bs:List (Nat × Obj)}
structure Grid2 (w:World) (pb n m:Nat) (T1 T2:TypeId) (rb:Nat->Nat) (p:Nat->Nat->Int):Prop where
  top:w.heap[pb]? = some (.cells ((List.range n).map λi=>Value.slice (some ⟨rb i,0,none⟩) m m).toArray T1)
  row:∀i,i<n->w.heap[rb i]? = some (.cells (Lm m (p i)) T2)
  inj:∀i j,i<n->j<n->rb i=rb j->i=j
  ne:∀i,i<n->rb i≠pb
variable {pb n m:Nat}{T1 T2:TypeId}{rb:Nat->Nat}{p:Nat->Nat->Int}
theorem Grid2.cell(h:Grid2 w pb n m T1 T2 rb p){i j:Nat}(hi:i<n)(hj:j<m):w.cell? ⟨rb i,j,none⟩=some (J (p i j)):=by
  rw[Wb (h.row i hi),Lx hj]
theorem Grid2.keep(h:Grid2 w pb n m T1 T2 rb p){E:List Nat}(hs:Same E w w')(h1:pb∉E)(h2:∀i,i<n->rb i∉E):Grid2 w' pb n m T1 T2 rb p :=
  ⟨(hs.block _ (Qa h.top) h1).trans h.top,λi hi=>(hs.block _ (Qa (h.row i hi)) (h2 i hi)).trans (h.row i hi),h.inj,h.ne⟩
theorem Grid2.ext(h:Grid2 w pb n m T1 T2 rb p)(hs:Same [] w w'):Grid2 w' pb n m T1 T2 rb p:=h.keep hs Pa Pa
def Br(p:Nat->Nat->Int)(i j:Nat)(v:Int):Nat->Nat->Int:=λa=>if a=i then Ps (p i) j v else p a
theorem V8(p:Nat->Nat->Int)(i j:Nat)(v:Int):Br p i j v i j=v:=by simp[Br,Ps]
theorem Oz{p:Nat->Nat->Int}{i j a b:Nat}{v:Int}(h:¬(a=i/\b=j)):Br p i j v a b=p a b:=by
  unfold Br;by_cases e:a=i
  ·subst e;rw[if_pos rfl,Gq λq=>h ⟨rfl,q⟩]
  rw[if_neg e]
theorem Grid2.put(h:Grid2 w pb n m T1 T2 rb p){i j:Nat}{v:Int}(hi:i<n)(hs:Same [rb i] w w')(hn:w'.heap[rb i]? = some (.cells (Lm m (Ps (p i) j v)) T2)):Grid2 w' pb n m T1 T2 rb (Br p i j v):=by
  refine⟨(hs.block _ (Qa h.top) (by simpa using λe=>h.ne i hi e.symm)).trans h.top,λa ha=>?_,h.inj,h.ne⟩;by_cases e:a=i
  ·subst e;rw[hn];simp[Br]
  have : w'.heap[rb a]? = w.heap[rb a]? := hs.block _ (Qa (h.row a ha)) (by simpa using λq => e (h.inj a i ha hi q));rw[this,h.row a ha,Br,if_neg e]
end
section
variable {P:Program}{R:Exit->Act->World->Prop}{n:Nat}{k:Kt}{s:Nat->Value}{w:World}{ops rest:List Oper}
variable {ty:TypeId}{pos:String}{aft:Array Edge}{g:Option (Nat × Bool)}{w0:World}{Ds:List Nat}{bs:List (Nat × Obj)}
end
section
variable {P:Program}{w:World}{ρ:Operand->Value}{dst:Option Nat}{ty:TypeId}{pos:String}{aft:Array Edge}{g:Option (Nat × Bool)}
end
section
variable {α:Type}(sz:α->Nat)(p:α->α->Nat)
def NJ(x:α)(rec:List α->Nat):List α->Nat
  | []=>sz x+rec []
  | y::ys=>min (p x y+rec ys) (min (sz x+rec (y::ys)) (sz y+NJ x rec ys))
def DK:List α->Nat
  | []=>0
  | y::ys=>sz y+DK ys
def al:List α->List α->Nat
  | []=>DK sz
  | x::xs=>NJ sz p x (al xs)
inductive Ali:List α->List α->Nat->Prop
  | nil:Ali [] [] 0
  | pair {x y:α} {xs ys:List α} {c:Nat}:Ali xs ys c->Ali (x::xs) (y::ys) (p x y+c)
  | drop {x:α} {xs ys:List α} {c:Nat}:Ali xs ys c->Ali (x::xs) ys (sz x+c)
  | add {y:α} {xs ys:List α} {c:Nat}:Ali xs ys c->Ali xs (y::ys) (sz y+c)
end
section
variable {α:Type}{sz:α->Nat}{p:α->α->Nat}
theorem IQ(y:α)(ys:List α):al sz p [] (y::ys)=sz y+al sz p [] ys:=rfl
theorem FQ(x:α)(xs:List α):al sz p (x::xs) []=sz x+al sz p xs []:=rfl
theorem JO(x y:α)(xs ys:List α):al sz p (x::xs) (y::ys)=min (p x y+al sz p xs ys) (min (sz x+al sz p xs (y::ys)) (sz y+al sz p (x::xs) ys)):=rfl
theorem Ali.append{xs ys xs' ys':List α}{c c':Nat}(h:Ali sz p xs ys c)(h':Ali sz p xs' ys' c'):Ali sz p (xs++xs') (ys++ys') (c+c'):=by
  induction h with
  | nil=>simpa using h'
  | pair _ ih=>rw[Nat.add_assoc];exact .pair ih
  | drop _ ih=>rw[Nat.add_assoc];exact .drop ih
  | add _ ih=>rw[Nat.add_assoc];exact .add ih
theorem Ali.zero(hz:∀x,1<=sz x){xs ys:List α}{c:Nat}(h:Ali sz p xs ys c)(hc:c=0):xs.length=ys.length/\∀i (h1:i<xs.length) (h2:i<ys.length),p xs[i] ys[i]=0:=by
  induction h with
  | nil=>exact⟨rfl,λi h1=>absurd h1 Pa⟩
  | @pair x y xs ys c _ ih =>
    obtain⟨h1,h2⟩:=ih Ca;refine⟨by simpa using h1,λi hi hj=>?_⟩
    match i,hi,hj with
    | 0,_,_=>show p x y=0;omega
    | i+1,hi,hj=>exact h2 i (by simpa using hi) (by simpa using hj)
  | @drop x _ _ _ _ _=>have:=hz x;omega
  | @add y _ _ _ _ _=>have:=hz y;omega
end
end Go.Scarf
