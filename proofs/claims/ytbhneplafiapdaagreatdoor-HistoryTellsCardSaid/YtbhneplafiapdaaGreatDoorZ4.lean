/- A part of the proof. -/
import Derived.Test.YtbhneplafiapdaaGreatDoorMapI
import Derived.Sort.OwnSortedInts
import Derived.Test.YtbhneplafiapdaaGreatDoorShelf3
set_option linter.all false
set_option maxHeartbeats 8000000
set_option maxRecDepth 10000
namespace Go.Scarf
open Go.RowKit Go.Proofs Go.Proofs.Tryz
def DT(A B:Nodes)(u v p q:Nat):Int:=((fd A B u (u+p) v (v+q):Nat):Int)
theorem SC(A B:Nodes)(u v p:Nat):DT A B u v p 0=(p:Int):=by unfold DT;rw[VK U];omega
theorem FD(A B:Nodes)(u v q:Nat):DT A B u v 0 q=(q:Int):=by unfold DT;rw[IP U];omega
theorem ZB{f:Nat->Int}{m p q p0 q0:Nat}{b:Int}(hq:q<=m)(h0:q0<=m)(h:¬(p=p0/\q=q0)):Vx f (gi m p0 q0) b (gi m p q)=f (gi m p q):=Ju λe=>h (TT hq h0 e)
theorem JO{f:Nat->Int}{m n y:Nat}(hy:y+1<=m)(h:∀p',p'<=n->f (gi m p' 0)=(p':Int)){b:Int}{x:Nat}:∀p',p'<=n->Vx f (gi m x (y+1)) b (gi m p' 0)=(p':Int):=λp' hp=>by
  rw[ZB U U U];exact h p' hp
def Rt(fa fb:List Int)(u n v m i j:Nat):Prop:=u<=i/\i<u+n/\v<=j/\j<v+m/\XN fa i=u/\XN fb j=v
def Fok(A B:Nodes)(fa fb:List Int)(u n v m x y:Nat)(P0 P:Nat->Nat->Int):Prop :=
  (∀i j,Rt fa fb u n v m i j->(i<u+x\/(i=u+x/\j<v+y))->P i j=((td A B i j:Nat):Int))/\(∀i j,¬Rt fa fb u n v m i j->P i j=P0 i j)
section
variable {A B:Nodes}{fa fb:List Int}{u n v m x y:Nat}{P0 P:Nat->Nat->Int}
theorem Fok.start:Fok A B fa fb u n v m 0 0 P0 P0:=⟨λi j h h2=>by have:=h.1;have:=h.2.2.1;omega,λ_ _ _=>rfl⟩
theorem Fok.next(h:Fok A B fa fb u n v m x m P0 P):Fok A B fa fb u n v m (x+1) 0 P0 P:=⟨λi j hr h2=>h.1 i j hr (by have:=hr.2.2.2.1;have:=hr.2.2.1;omega),h.2⟩
theorem Fok.skip(h:Fok A B fa fb u n v m x y P0 P)(hn:¬(XN fa (u+x)=u/\XN fb (v+y)=v)):Fok A B fa fb u n v m x (y+1) P0 P:=⟨λi j hr h2=>by
  by_cases e:i=u+x/\j=v+y
  ·obtain⟨rfl,rfl⟩:=e;exact absurd hr.2.2.2.2 hn
  exact h.1 i j hr U,h.2⟩
theorem Fok.put(h:Fok A B fa fb u n v m x y P0 P)(hr:Rt fa fb u n v m (u+x) (v+y)){b:Int}(hb:b=((td A B (u+x) (v+y):Nat):Int)):Fok A B fa fb u n v m x (y+1) P0 (Ew P (u+x) (v+y) b):=by
  refine⟨λi j hri h2=>?_,λi j hri=>?_⟩
  ·by_cases e : i = u + x /\ j = v + y
   ·obtain⟨rfl,rfl⟩:=e;rw[UE];exact hb
   rw[U4 e];exact h.1 i j hri U
  rw[U4 (λe=>by obtain⟨rfl,rfl⟩:=e;exact hri hr)];exact h.2 i j hri
def Gok(A B:Nodes)(u n v m x y:Nat)(f:Nat->Int):Prop :=
  (∀p',p'<=n->f (gi m p' 0)=(p':Int))/\(∀p' q',p'<=x->q'<=m->f (gi m p' q')=DT A B u v p' q')/\(∀q',q'<=y->f (gi m (x+1) q')=DT A B u v (x+1) q')
theorem Gok.start{f:Nat->Int}(hc:∀p',p'<=n->f (gi m p' 0)=(p':Int))(hr:∀q',q'<=m->f (gi m 0 q')=(q':Int))(hn:0<n):Gok A B u n v m 0 0 f:=by
  refine⟨hc,λp' q' hp hq=>?_,λq' hq=>?_⟩
  ·obtain rfl : p' = 0 := by omega
   rw[hr q' hq,FD]
  obtain rfl : q' = 0 := by omega
  rw[hc _ U,SC]
theorem Gok.put{f:Nat->Int}(h:Gok A B u n v m x y f)(hy:y+1<=m){b:Int}(hb:b=DT A B u v (x+1) (y+1)):Gok A B u n v m x (y+1) (Vx f (gi m (x+1) (y+1)) b):=by
  refine⟨JO hy h.1,λp' q' hp hq=>?_,λq' hq=>?_⟩
  ·rw[ZB hq hy U];exact h.2.1 p' q' hp hq
  by_cases e : q' = y + 1
  ·subst e;rw[IE];exact hb
  rw[ZB U hy U];exact h.2.2 q' U
theorem Gok.next{f:Nat->Int}(h:Gok A B u n v m x m f)(hx:x+1<n):Gok A B u n v m (x+1) 0 f:=by
  refine⟨h.1,λp' q' hp hq=>?_,λq' hq=>?_⟩
  ·by_cases e : p' = x + 1
   ·subst e;exact h.2.2 q' hq
   exact h.2.1 p' q' U hq
  obtain rfl : q' = 0 := by omega
  rw[h.1 _ U,SC]
def Gdone(A B:Nodes)(u n v m x:Nat)(f:Nat->Int):Prop:=(∀p',p'<=n->f (gi m p' 0)=(p':Int))/\(∀p' q',p'<=x->q'<=m->f (gi m p' q')=DT A B u v p' q')
theorem Gdone.start{f:Nat->Int}(hc:∀p',p'<=n->f (gi m p' 0)=(p':Int))(hr:∀q',q'<=m->f (gi m 0 q')=(q':Int)):Gdone A B u n v m 0 f:=by
  refine⟨hc,λp' q' hp hq=>?_⟩;obtain rfl:p'=0:=by omega
  rw[hr q' hq,FD]
theorem Gok.close{f:Nat->Int}(h:Gok A B u n v m x m f):Gdone A B u n v m (x+1) f:=⟨h.1,λp' q' hp hq=>by
  by_cases e:p'=x+1
  ·subst e;exact h.2.2 q' hq
  exact h.2.1 p' q' U hq⟩
end
def Rows(q:Nat->Nat)(n:Nat):List Nat:=(List.range n).map q
theorem Xn{S:Nat->Prop}{wx:World}:∀{q:List Int},(∀s∈q,-9223372036854775808<=s/\s<=9223372036854775807)->RepL S wx (q.map We) (q.map λs=>Value.int .i64 s)
  | [],_=>RepL.nil_mk
  | s::q,h=>RepL.cons_mk (Rep.lit_mk (v:=J s) (h s Ua)) (Xn λx hx=>h x (by simp[hx]))
theorem NP{w0 w:World}{pre post sb:List (Nat × Obj)}{A:Option Addr}{n c:Nat}{zs:List Int}(hn0:n=zs.length)(hS:SlB 3 1 A n c (zs.map (Value.int .i64)) sb)(hF:FR w0 [] (pre++(sb++post)) w)(hl:n<=1000000) :
    Calls prog 57 #[.slice A n c] w (Vd λv w'=>v=.tuple #[]/\∃sb',SlB 3 1 A n c ((zs.mergeSort λx y=>decide (x<=y)).map (Value.int .i64)) sb'/\FR w0 [] (pre++(sb'++post)) w'):=by
  subst hn0;rcases hS.2 with ⟨hn,hc,rfl⟩|⟨g,cur,rfl,rfl,h1,h2,h3,h4⟩
  ·obtain rfl : zs = [] := List.eq_nil_of_length_eq_zero hn
   refine (Go.Proofs.Tryz.slices_Sort_int_none A c w).mono ?_;rintro e w' ⟨rfl,rfl⟩;exact⟨_,O,O,[],by simpa using hS,hF⟩
  have hb := hF.memHeap (p := (g, .cells cur 3)) Ua;rw[Nat.mul_one]at h4;refine (Go.Proofs.Tryz.slices_Sort_int g 0 c zs w (holds_of_blockI hb h4) (Wa hb) U).mono ?_;rintro e w' ⟨rfl,n,os,rfl⟩;have hlm:(zs.mergeSort λx y=>decide (x<=y)).length=zs.length:=List.length_mergeSort _;have hnew:=heap_sortedI (n:=n) (os:=os) (zs.mergeSort λx y=>decide (x<=y)).toArray hb;have hg:=grownBy_sortedI (w:=w) (g:=g) (n:=n) (os:=os) (zs.mergeSort λx y=>decide (x<=y)).toArray;have hs:Same [g] w (Go.Sort.grow (Go.Sort.putRow (Value.int .i64) (Go.Sort.ahead w n) g 0 (zs.mergeSort λx y=>decide (x<=y)).toArray) os):=⟨hg.os,hg.tape,hg.output,hg.size,λb hb hn=>hg.block b hb (λe=>hn (by simp at e;simp[e]))⟩;refine⟨_,O,O,_,?_,hF.changeMid hs hnew⟩;refine⟨by simp[hlm],.inr ⟨g,_,O,O,h1,h2,by simp[Go.Sort.putCells,h3],?_⟩⟩;rw[Nat.mul_one,<-hlm];exact take_putCellsI cur _ (by rw[hlm];omega)
def JH(q:Nat->Nat)(i b:Nat):Nat->Nat:=λk=>if k=i then b else q k
structure RowsOk (w0 w:World) (i m:Nat) (q:Nat->Nat) (ids:List Nat):Prop where
  row:∀k,k<i->w.heap[q k]? = some (.cells (Sp m λ_=>0) 3)
  inj:∀k l,k<i->l<i->q k=q l->k=l
  new:∀k,k<i->w0.heap.size<=q k/\q k∉ids
theorem RowsOk.step{w0 w w':World}{i m:Nat}{q:Nat->Nat}{ids E:List Nat}(h:RowsOk w0 w i m q ids)(hs:Same E w w')(he:∀b∈E,b∈ids):RowsOk w0 w' i m q ids :=
  ⟨λk hk=>(hs.block _ (Wa (h.row k hk)) (λhm=>(h.new k hk).2 (he _ hm))).trans (h.row k hk),h.inj,h.new⟩
theorem RowsOk.put{w0 w:World}{i m b:Nat}{q:Nat->Nat}{ids:List Nat}(h:RowsOk w0 w i m q ids)(hb:w.heap[b]? = some (.cells (Sp m λ_=>0) 3))(h1:w0.heap.size<=b)(h2:b∉ids)(h3:∀k,k<i->q k≠b):RowsOk w0 w (i+1) m (JH q i b) ids:=by
  have e:∀k,JH q i b k=if k=i then b else q k:=λ_=>rfl
  refine⟨λk hk=>?_,λk l hk hl he=>?_,λk hk=>?_⟩
  ·rw[e];split
   ·exact hb
   exact h.row k U
  ·rw[e, e]at he
   split at he <;> split at he
   ·omega
   ·exact absurd he.symm (h3 l U)
   ·exact absurd he (h3 k U)
   exact h.inj k l U U he
  rw[e];split
  ·exact⟨h1,h2⟩
  exact h.new k U
def QR(x:Tree):List Str:=NN (Ny x)
def JZ(x:Tree):List Int:=VU (Ny x) 0
theorem Tb.rows{w0 w:World}{B:Nat}{A:Option Addr}{e c:Nat}{ds:List D}{xs:List Value}{sb:List (Nat × Obj)}(hS:SlB e 1 A ds.length c xs sb)(hq:∀q∈sb,w.heap[q.1]? = some q.2/\B<=q.1)(hB:w0.heap.size<=B)(hr:RepL (Btw w0 w) w ds xs):Rep (Btw w0 w) w (.slice ds) [.slice A ds.length c]:=by
  refine hS.repOf (λq h=>⟨(hq q h).1,?_,Wa (hq q h).1,?_⟩) hr O
  ·have:=(hq q h).2;omega
  obtain⟨cur, he⟩ := hS.typ.2 q h;exact⟨cur,e,by rw[(hq q h).1,he]⟩
abbrev TreeN:=List Str × List Int
structure GridC (w:World) (pb n m:Nat) (T1 T2:TypeId) (rb:Nat->Nat) (p:Nat->Nat->Int):Prop where
  top:∃cur,w.heap[pb]? = some (.cells cur T1)/\∀i,i<n->cur[i]? = some (.slice (some ⟨rb i,0,none⟩) m m)
  row:∀i,i<n->w.heap[rb i]? = some (.cells (Sp m (p i)) T2)
  inj:∀i j,i<n->j<n->rb i=rb j->i=j
  ne:∀i,i<n->rb i≠pb
section
variable {w w':World}{pb n m:Nat}{T1 T2:TypeId}{rb:Nat->Nat}{p:Nat->Nat->Int}
theorem GridC.cell(h:GridC w pb n m T1 T2 rb p){i j:Nat}(hi:i<n)(hj:j<m):w.cell? ⟨rb i,j,none⟩=some (J (p i j)):=by
  rw[Vc (h.row i hi),B4 hj]
theorem GridC.keep(h:GridC w pb n m T1 T2 rb p){E:List Nat}(hs:Same E w w')(h1:pb∉E)(h2:∀i,i<n->rb i∉E):GridC w' pb n m T1 T2 rb p:=by
  obtain⟨cur,h3,h4⟩:=h.top;exact⟨⟨cur,(hs.block _ (Wa h3) h1).trans h3,h4⟩,λi hi=>(hs.block _ (Wa (h.row i hi)) (h2 i hi)).trans (h.row i hi),h.inj,h.ne⟩
theorem GridC.put(h:GridC w pb n m T1 T2 rb p){i j:Nat}{v:Int}(hi:i<n)(hs:Same [rb i] w w')(hn:w'.heap[rb i]? = some (.cells (Sp m (Vx (p i) j v)) T2)):GridC w' pb n m T1 T2 rb (Ew p i j v):=by
  obtain⟨cur,h3,h4⟩:=h.top;refine⟨⟨cur,(hs.block _ (Wa h3) (by simpa using λe=>h.ne i hi e.symm)).trans h3,h4⟩,λa ha=>?_,h.inj,h.ne⟩;by_cases e:a=i
  ·subst e;rw[hn];simp[Ew]
  have : w'.heap[rb a]? = w.heap[rb a]? := hs.block _ (Wa (h.row a ha)) (by simpa using λq => e (h.inj a i ha hi q));rw[this,h.row a ha,Ew,if_neg e]
end
structure Ck (w:World) (N0 cb pb rb:Nat) (la lb:List TreeN) (Aa Ab:Option Addr) (k1 k2 k3 k4:Nat) (q r:Nat->Nat) (P R:Nat->Nat->Int):Prop where
  cell:w.heap[cb]? = some (.cells #[.slice Aa la.length k1,.slice Ab lb.length k2,W pb (la.length+1) k3,W rb (la.length+1) k4] 252)
  La:Rep (λb=>b<N0) w (.slice (la.map RR)) [.slice Aa la.length k1]
  Lb:Rep (λb=>b<N0) w (.slice (lb.map RR)) [.slice Ab lb.length k2]
  pair:GridC w pb (la.length+1) (lb.length+1) 23 3 q P
  rest:GridC w rb (la.length+1) (lb.length+1) 23 3 r R
  lo:N0<=cb/\N0<=pb/\N0<=rb/\(∀i,i<la.length+1->N0<=q i)/\∀i,i<la.length+1->N0<=r i
  nq:∀i,i<la.length+1->q i≠cb/\q i≠pb/\q i≠rb
  nr:∀i,i<la.length+1->r i≠cb/\r i≠pb/\r i≠rb
  ne:∀i j,i<la.length+1->j<la.length+1->q i≠r j
section
variable {w w':World}{N0 cb pb rb:Nat}{la lb:List TreeN}{Aa Ab:Option Addr}{k1 k2 k3 k4:Nat}{q r:Nat->Nat}{P R:Nat->Nat->Int}
theorem Ck.keep(h:Ck w N0 cb pb rb la lb Aa Ab k1 k2 k3 k4 q r P R){E:List Nat}(hs:Same E w w')(he:∀b∈E,N0<=b)(h1:cb∉E)(h2:pb∉E)(h3:rb∉E)(h4:∀i,i<la.length+1->q i∉E)(h5:∀i,i<la.length+1->r i∉E):Ck w' N0 cb pb rb la lb Aa Ab k1 k2 k3 k4 q r P R :=
  have ns:∀b∈E,¬b<N0:=λb hb=>Nat.not_lt.2 (he b hb)
  ⟨(hs.block _ (Wa h.cell) h1).trans h.cell,h.La.same hs ns,h.Lb.same hs ns,h.pair.keep hs h2 h4,h.rest.keep hs h3 h5,h.lo,h.nq,h.nr,h.ne⟩
theorem Ck.ext(h:Ck w N0 cb pb rb la lb Aa Ab k1 k2 k3 k4 q r P R)(hs:Same [] w w'):Ck w' N0 cb pb rb la lb Aa Ab k1 k2 k3 k4 q r P R:=h.keep hs Ua Ua Ua Ua Ua Ua
theorem Ck.c0(h:Ck w N0 cb pb rb la lb Aa Ab k1 k2 k3 k4 q r P R):w.cell? ⟨cb,0,none⟩=some (.slice Aa la.length k1):=by rw[Vc h.cell];rfl
theorem Ck.c1(h:Ck w N0 cb pb rb la lb Aa Ab k1 k2 k3 k4 q r P R):w.cell? ⟨cb,1,none⟩=some (.slice Ab lb.length k2):=by rw[Vc h.cell];rfl
theorem Ck.c2(h:Ck w N0 cb pb rb la lb Aa Ab k1 k2 k3 k4 q r P R):w.cell? ⟨cb,2,none⟩=some (W pb (la.length+1) k3):=by rw[Vc h.cell];rfl
theorem Ck.c3(h:Ck w N0 cb pb rb la lb Aa Ab k1 k2 k3 k4 q r P R):w.cell? ⟨cb,3,none⟩=some (W rb (la.length+1) k4):=by rw[Vc h.cell];rfl
end
section
variable {Pg:Program}{R:Exit->Act->World->Prop}{n:Nat}{k:Kt}{s:Nat->Value}{w:World}{ops:List Oper}{zs:List Nat}{C:World->Prop}{order:Ord}{i:Nat}
variable {ty:TypeId}{pos:String}{aft:Array Edge}{g:Option (Nat × Bool)}{w0:World}{Ds:List Nat}{bs:List (Nat × Obj)}
end
abbrev Sz(x:TreeN):Nat:=x.1.length
abbrev pN(x y:TreeN):Nat:=HY x.1 x.2 y.1 y.2
def totL(l:List Tree):Nat:=(l.map λx=>(QR x).length).sum
def Ar(x:Tree):TreeN:=(QR x,JZ x)
def AW(l:List Tree):Int:=if l.all Jd=true then (if 64<l.length then 6 else if 512<totL l then 6 else 0) else 1
end Go.Scarf
