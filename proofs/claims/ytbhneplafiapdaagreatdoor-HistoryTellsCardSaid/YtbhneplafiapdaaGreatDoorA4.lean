/- A part of the proof. -/
import Derived.Test.YtbhneplafiapdaaGreatDoorZ4
set_option linter.all false
set_option maxHeartbeats 8000000
set_option maxRecDepth 10000
namespace Go.Scarf
open Go.RowKit Go.Proofs
theorem RowsOk.grow{w0 w w':World}{i m:Nat}{q:Nat->Nat}{ids ids' E:List Nat}(h:RowsOk w0 w i m q ids)(hs:Same E w w')(he:∀b∈E,b∈ids)(hi:∀b∈ids',b∈ids\/w.heap.size<=b):RowsOk w0 w' i m q ids' :=
  ⟨(h.step hs he).row,h.inj,λk hk=>⟨(h.new k hk).1,λhm=>(hi _ hm).elim (h.new k hk).2 λh2=>by have:=Wa (h.row k hk);omega⟩⟩
structure R0 (w0 w:World) (x M:Nat) (q r:Nat->Nat) (ids:List Nat):Prop where
  rq:RowsOk w0 w x M q ids
  rr:RowsOk w0 w x M r ids
  ne:∀i j,i<x->j<x->q i≠r j
section
variable {w0 w w':World}{x M:Nat}{q r:Nat->Nat}{ids ids' E:List Nat}
theorem R0.step(h:R0 w0 w x M q r ids)(hs:Same E w w')(he:∀b∈E,b∈ids):R0 w0 w' x M q r ids:=⟨h.rq.step hs he,h.rr.step hs he,h.ne⟩
theorem R0.grow(h:R0 w0 w x M q r ids)(hs:Same E w w')(he:∀b∈E,b∈ids)(hi:∀b∈ids',b∈ids\/w.heap.size<=b):R0 w0 w' x M q r ids':=⟨h.rq.grow hs he hi,h.rr.grow hs he hi,h.ne⟩
theorem R0.put{bp br:Nat}(h:R0 w0 w x M q r ids)(hp:w.heap[bp]? = some (.cells (Sp M λ_=>0) 3))(hr:w.heap[br]? = some (.cells (Sp M λ_=>0) 3))(h1:w0.heap.size<=bp)(h2:w0.heap.size<=br)(h3:bp∉ids)(h4:br∉ids)(h5:bp≠br)
    (h6:∀k,k<x->q k≠bp/\r k≠bp) (h7:∀k,k<x->q k≠br/\r k≠br):R0 w0 w (x+1) M (JH q x bp) (JH r x br) ids:=by
  refine⟨h.rq.put hp h1 h3 (λk hk=>(h6 k hk).1),h.rr.put hr h2 h4 (λk hk=>(h7 k hk).2),λi j hi hj=>?_⟩;have e1:∀k,JH q x bp k=if k=x then bp else q k:=λ_=>rfl
  have e2:∀k,JH r x br k=if k=x then br else r k:=λ_=>rfl
  rw[e1,e2];split <;> split
  ·exact h5
  ·exact λe=>(h6 j U).2 e.symm
  ·exact (h7 i U).1
  exact h.ne i j U U
theorem FR.apart{Ds:List Nat}{pre rest:List (Nat × Obj)}(hF:FR w0 Ds (pre++rest) w){i b:Nat}{o:Obj}(hi:pre[i]? = some (b,o)):b∉rest.map (·.1):=λh=>by
  obtain⟨z,hz,e⟩:=nQ.1 h;exact (List.pairwise_append.1 hF.desc).2.2 (b,o) (List.mem_of_getElem? hi) z hz e
theorem SlB.one{e n c:Nat}{A:Option Addr}{xs:List Value}{sb:List (Nat × Obj)}(h:SlB e 1 A n c xs sb)(hn:0<n):∃g cur,A=some ⟨g,0,none⟩/\sb=[(g,.cells cur e)]/\∀i (hi:i<xs.length),cur[i]? = some xs[i]:=by
  obtain⟨hl,h⟩:=h;rcases h with ⟨h0,-,-⟩|⟨g,cur,hA,hsb,-,-,hsz,ht⟩
  ·omega
  refine⟨g, cur, hA, hsb, λi hi => ?_⟩;subst ht;rw[List.getElem_take];simp only[List.length_take]at hi;rw[Array.getElem_toList,Array.getElem?_eq_getElem]
end
section
variable {la lb:List TreeN}{P P' R:Nat->Nat->Int}{i j:Nat}
def RD(la lb:List TreeN)(R:Nat->Nat->Int)(i j:Nat):Prop:=∀a b,a<=la.length->b<=lb.length->(la.length-a<i\/(la.length-a=i/\lb.length-b<j))->R a b=((al Sz pN (la.drop a) (lb.drop b):Nat):Int)
def PD(la lb:List TreeN)(P:Nat->Nat->Int)(i j:Nat):Prop:=∀a b (h1:a<la.length) (h2:b<lb.length),(la.length-a<i\/(la.length-a=i/\lb.length-b<j))->P a b=((pN la[a] lb[b]:Nat):Int)
theorem RD.step(h:RD la lb R i j)(hi:i<=la.length)(hj:j<=lb.length):RD la lb (Ew R (la.length-i) (lb.length-j) ((al Sz pN (la.drop (la.length-i)) (lb.drop (lb.length-j)):Nat):Int)) i (j+1):=λa b ha hb hc=>by
  by_cases e:a=la.length-i/\b=lb.length-j
  ·obtain⟨rfl,rfl⟩:=e;exact UE _ _ _ _
  rw[U4 e];exact h a b ha hb U
theorem RD.row(h:RD la lb R i (lb.length+1)):RD la lb R (i+1) 0:=λa b ha hb hc=>h a b ha hb U
theorem PD.step(h:PD la lb P i j)(hn:∀(h1:la.length-i<la.length) (h2:lb.length-j<lb.length),P' (la.length-i) (lb.length-j)=((pN la[la.length-i] lb[lb.length-j]:Nat):Int))(ho:∀a b,¬(a=la.length-i/\b=lb.length-j)->P' a b=P a b):PD la lb P' i (j+1):=λa b ha hb hc=>by
  by_cases e:a=la.length-i/\b=lb.length-j
  ·obtain⟨rfl,rfl⟩:=e;exact hn ha hb
  rw[ho a b e];exact h a b ha hb U
theorem PD.row(h:PD la lb P i (lb.length+1)):PD la lb P (i+1) 0:=λa b ha hb hc=>h a b ha hb U
end
def O5:Nat->Nat->Nat->List TreeN->List TreeN->List (Int × Int)
  | 0,_,_,_,_=>[]
  | f + 1, i, j, x :: xs, y :: ys =>
    if al Sz pN (x::xs) (y::ys)=pN x y+al Sz pN xs ys then ((i:Int),(j:Int))::O5 f (i+1) (j+1) xs ys
    else if al Sz pN (x::xs) (y::ys)=Sz x+al Sz pN xs (y::ys) then O5 f (i+1) j xs (y::ys)
    else O5 f i (j+1) (x::xs) ys
  | _+1,_,_,_,_=>[]
theorem Kl:∀(f g:Nat)(i j:Nat)(xs ys:List TreeN),xs.length+ys.length<=f->xs.length+ys.length<=g->O5 f i j xs ys=O5 g i j xs ys
  | 0, g, i, j, xs, ys, h, _ => by
    obtain rfl:xs=[]:=List.eq_nil_of_length_eq_zero U;cases g <;> rfl
  | f + 1, 0, i, j, xs, ys, _, h => by
    obtain rfl:xs=[]:=List.eq_nil_of_length_eq_zero U;rfl
  | f+1,g+1,i,j,[],ys,_,_=>rfl
  | f+1,g+1,i,j,x::xs,[],_,_=>rfl
  | f + 1, g + 1, i, j, x :: xs, y :: ys, h1, h2 => by
    simp only[kQ]at h1 h2;rw[O5,O5,Kl f g (i+1) (j+1) xs ys U U,Kl f g (i+1) j xs (y::ys) (by simp only[kQ];omega) (by simp only[kQ];omega),Kl f g i (j+1) (x::xs) ys (by simp only[kQ];omega) (by simp only[kQ];omega)]
def pth(i j:Nat)(xs ys:List TreeN):List (Int × Int):=O5 (xs.length+ys.length) i j xs ys
section
variable {la lb:List TreeN}{i j:Nat}
theorem ON(h1:i<la.length)(h2:j<lb.length):pth i j (la.drop i) (lb.drop j) =
    if al Sz pN (la.drop i) (lb.drop j)=pN la[i] lb[j]+al Sz pN (la.drop (i+1)) (lb.drop (j+1)) then ((i:Int),(j:Int))::pth (i+1) (j+1) (la.drop (i+1)) (lb.drop (j+1))
    else if al Sz pN (la.drop i) (lb.drop j)=Sz la[i]+al Sz pN (la.drop (i+1)) (lb.drop j) then pth (i+1) j (la.drop (i+1)) (lb.drop j)
    else pth i (j+1) (la.drop i) (lb.drop (j+1)):=by
  unfold pth;rw[List.drop_eq_getElem_cons h1,List.drop_eq_getElem_cons h2];rw[show (la[i]::la.drop (i+1)).length+(lb[j]::lb.drop (j+1)).length=((la.drop (i+1)).length+(lb.drop (j+1)).length+1)+1 by simp only[kQ];omega,O5];rw[Kl _ ((la.drop (i+1)).length+(lb.drop (j+1)).length) (i+1) (j+1) _ _ U U,
    Kl _ ((la.drop (i+1)).length+(lb[j]::lb.drop (j+1)).length) (i+1) j _ _ (by simp only[kQ];omega) U,
    Kl _ ((la[i]::la.drop (i+1)).length+(lb.drop (j+1)).length) i (j+1) _ _ (by simp only[kQ];omega) U]
theorem H5(h:¬(i<la.length/\j<lb.length)):pth i j (la.drop i) (lb.drop j)=[]:=by
  unfold pth;by_cases h1:la.length<=i
  ·rw[List.drop_eq_nil_of_le h1]
   generalize ([]:List TreeN).length+(lb.drop j).length=f;cases f <;> rfl
  rw[List.drop_eq_nil_of_le (show lb.length <= j by omega)];generalize (la.drop i).length+([]:List TreeN).length=f;cases f
  ·rfl
  cases la.drop i <;> rfl
end
def GZ(N1 cb pb rb n:Nat)(q r:Nat->Nat):Prop:=cb<N1/\pb<N1/\rb<N1/\∀i,i<n+1->q i<N1/\r i<N1
section
variable {w w':World}{N0 N1 cb pb rb:Nat}{la lb:List TreeN}{Aa Ab:Option Addr}{k1 k2 k3 k4:Nat}{q r:Nat->Nat}{P R:Nat->Nat->Int}
theorem Ck.lt(h:Ck w N0 cb pb rb la lb Aa Ab k1 k2 k3 k4 q r P R):GZ w.heap.size cb pb rb la.length q r:=by
  obtain⟨_,h1,_⟩:=h.pair.top;obtain⟨_,h2,_⟩:=h.rest.top;exact⟨Wa h.cell,Wa h1,Wa h2,λi hi=>⟨Wa (h.pair.row i hi),Wa (h.rest.row i hi)⟩⟩
theorem Ck.apart(h:Ck w N0 cb pb rb la lb Aa Ab k1 k2 k3 k4 q r P R)(hl:GZ N1 cb pb rb la.length q r){E:List Nat}(hs:Same E w w')(he:∀b∈E,N1<=b):Ck w' N0 cb pb rb la lb Aa Ab k1 k2 k3 k4 q r P R:=by
  have hlo:=h.lo;have nl:∀x,x<N1->x∉E:=λx hx hm=>by have:=he x hm;omega
  exact h.keep hs (λb hb=>by have:=he b hb;have:=hl.1;omega) (nl _ hl.1) (nl _ hl.2.1) (nl _ hl.2.2.1) (λi hi=>nl _ (hl.2.2.2 i hi).1) (λi hi=>nl _ (hl.2.2.2 i hi).2)
end
def MD(N:Nat)(f:Nat->Value):Array Value:=((List.range N).map f).toArray
theorem WH{N k:Nat}{f:Nat->Value}(h:k<N):(MD N f)[k]? = some (f k):=by simp[MD,h]
def BO(f:Nat->Value)(k:Nat)(v:Value):Nat->Value:=λx=>if x=k then v else f x
theorem FO(f:Nat->Value)(k:Nat)(v:Value):BO f k v k=v:=if_pos rfl
theorem RP{f:Nat->Value}{k x:Nat}{v:Value}(h:x≠k):BO f k v x=f x:=if_neg h
def rng(j k:Nat):List Int:=(List.range' j (k-j)).map λi:Nat=>(i:Int)
def WD(m:List (Nat × Nat)):List (Int × Int):=m.map λz=>((z.1:Int),(z.2:Int))
def P_{β:Type}(f:Nat->β)(k:Nat)(v:β):Nat->β:=λx=>if x=k then v else f x
theorem Xo{β:Type}(f:Nat->β)(k:Nat)(v:β):P_ f k v k=v:=if_pos rfl
theorem Ri{β:Type}{f:Nat->β}{k x:Nat}{v:β}(h:x≠k):P_ f k v x=f x:=if_neg h
def Zl(n size:Nat):List (Nat × Nat)->Nat->(Nat->List Int)->Nat->List Int
  | [],j,gp=>P_ gp n (gp n++rng j size)
  | z::m,j,gp=>Zl n size m (z.2+1) (P_ gp z.1 (gp z.1++rng j z.2))
structure Gp (w0 w:World) (N ob jb vb:Nat) (hd:Nat->Value) (gp:Nat->List Int) (sg:Nat->List (Nat × Obj)) (j:Nat):Prop where
  top:w.heap[ob]? = some (.cells (MD N hd) 23)
  cj:w.heap[jb]? = some (.cells #[J (j:Nat)] 3)
  cv:w.heap[vb]? = some (.cells #[W ob N N] 156)
  row:∀g,g<N->∃A c,hd g=.slice A (gp g).length c/\SlB 3 1 A (gp g).length c (UZ (gp g)) (sg g)
  mem:∀g,g<N->∀z∈sg g,w.heap[z.1]? = some z.2/\w0.heap.size<=z.1/\z.1≠ob/\z.1≠jb/\z.1≠vb
  apart:∀g g',g<N->g'<N->g≠g'->∀z∈sg g,∀y∈sg g',z.1≠y.1
  new:w0.heap.size<=ob/\w0.heap.size<=jb/\w0.heap.size<=vb
  ne:jb≠ob/\vb≠ob/\vb≠jb
section
variable {w0 w w':World}{N ob jb vb j:Nat}{hd:Nat->Value}{gp:Nat->List Int}{sg:Nat->List (Nat × Obj)}
theorem Gp.keep(h:Gp w0 w N ob jb vb hd gp sg j){E:List Nat}(hs:Same E w w')(h1:ob∉E)(h2:jb∉E)(h3:vb∉E)(h4:∀g,g<N->∀z∈sg g,z.1∉E):Gp w0 w' N ob jb vb hd gp sg j :=
  ⟨(hs.block _ (Wa h.top) h1).trans h.top,(hs.block _ (Wa h.cj) h2).trans h.cj,(hs.block _ (Wa h.cv) h3).trans h.cv,h.row,
    λg hg z hz=>⟨(hs.block _ (Wa (h.mem g hg z hz).1) (h4 g hg z hz)).trans (h.mem g hg z hz).1,(h.mem g hg z hz).2⟩,h.apart,h.new,h.ne⟩
theorem Gp.ext(h:Gp w0 w N ob jb vb hd gp sg j)(hs:Same [] w w'):Gp w0 w' N ob jb vb hd gp sg j:=h.keep hs Ua Ua Ua (λ_ _ _ _=>by simp)
theorem Gp.fill(h:Gp w0 w N ob jb vb hd gp sg j){g k j':Nat}(hg:g<N){A':Option Addr}{c':Nat}{sg':List (Nat × Obj)}(h1:w'.heap[ob]? = some (.cells (MD N (BO hd g (.slice A' (gp g++rng j k).length c'))) 23))(h2:w'.heap[jb]? = some (.cells #[J (j':Nat)] 3))
    (h3:w'.heap[vb]? = some (.cells #[W ob N N] 156)) (h4:SlB 3 1 A' (gp g++rng j k).length c' (UZ (gp g++rng j k)) sg') (h5:∀z∈sg',w'.heap[z.1]? = some z.2/\z.1≠ob/\z.1≠jb/\z.1≠vb/\(z.1∈(sg g).map (·.1)\/w.heap.size<=z.1))
    (hs:Same ([ob,jb,vb]++(sg g).map (·.1)) w w') (hw:w0.heap.size<=w.heap.size):Gp w0 w' N ob jb vb (BO hd g (.slice A' (gp g++rng j k).length c')) (P_ gp g (gp g++rng j k)) (P_ sg g sg') j':=by
  have hnew:∀z∈sg',w0.heap.size<=z.1:=λz hz=>(h5 z hz).2.2.2.2.elim (λhm=>by obtain⟨y,hy,e⟩:=nQ.1 hm;rw[<-e];exact (h.mem g hg y hy).2.1) (λhl=>fQ hw hl);have hoff:∀g',g'<N->g'≠g->∀y∈sg g',∀z∈sg',y.1≠z.1:=λg' hg' hne y hy z hz e=>(h5 z hz).2.2.2.2.elim (λhm=>by obtain⟨x,hx,e2⟩:=nQ.1 hm;exact h.apart g' g hg' hg hne y hy x hx (e.trans e2.symm)) (λhl=>by have:=Wa (h.mem g' hg' y hy).1;omega);refine⟨h1,h2,h3,λg' hg'=>?_,λg' hg' z hz=>?_,λa b ha hb hab z hz y hy=>?_,h.new,h.ne⟩
  ·by_cases e : g' = g
   ·subst e;rw[FO,Xo,Xo];exact⟨A',c',rfl,h4⟩
   rw[RP e,Ri e,Ri e];exact h.row g' hg'
  ·by_cases e : g' = g
   ·subst e;rw[Xo]at hz;exact⟨(h5 z hz).1,hnew z hz,(h5 z hz).2.1,(h5 z hz).2.2.1,(h5 z hz).2.2.2.1⟩
   rw[Ri e]at hz;have hm:=h.mem g' hg' z hz;refine⟨(hs.block _ (Wa hm.1) λhx=>?_).trans hm.1,hm.2⟩;rcases mQ.1 hx with hx|hx
   ·simp only[oQ, List.not_mem_nil, or_false]at hx
    rcases hx with hx|hx|hx
    ·exact hm.2.2.1 hx
    ·exact hm.2.2.2.1 hx
    exact hm.2.2.2.2 hx
   obtain⟨y, hy, e2⟩ := nQ.1 hx;exact h.apart g' g hg' hg e z hz y hy e2.symm
  by_cases ea : a = g
  ·subst ea
   rw[Xo]at hz;rw[Ri (λq=>hab q.symm)]at hy;exact λe=>hoff b hb (λq=>hab q.symm) y hy z hz e.symm
  rw[Ri ea]at hz;by_cases eb:b=g
  ·subst eb;rw[Xo]at hy;exact hoff a ha ea z hz y hy
  rw[Ri eb]at hy;exact h.apart a b ha hb hab z hz y hy
def DZ(N:Nat)(gp:Nat->List Int):D:=.slice ((List.range N).map λg=>.slice ((gp g).map We))
theorem Tz{S:Nat->Prop}:∀(N:Nat)(d:Nat->D)(f:Nat->Value),(∀g,g<N->Rep S w (d g) [f g])->RepL S w ((List.range N).map d) ((List.range N).map f)
  | 0,d,f,_=>RepL.nil_mk
  | N + 1, d, f, h => by
    rw[List.range_succ,jQ,jQ];exact RepL.append (Tz N d f λg hg=>h g U) (by rw[List.map_cons,List.map_nil,List.map_cons,List.map_nil,RepL];exact⟨[f N],[],O,h N U,RepL.nil_mk⟩)
theorem Gp.rep(h:Gp w0 w N ob jb vb hd gp sg j)(hN:N<=1000)(hb:∀g,g<N->∀z∈gp g,-9223372036854775808<=z/\z<=9223372036854775807):Rep (Btw w0 w) w (DZ N gp) [W ob N N]:=by
  refine Rep.slice_mk Ua (gQ _) U λ_=>⟨_,O,(List.range N).map hd,λi hi=>⟨?_,h.new.1,Wa h.top,_,_,h.top⟩,Tz N _ _ λg hg=>?_⟩
  ·have hi' : i<N := by simpa using hi
   rw[Fq,Nat.zero_add,Vc h.top,WH hi'];simp
  obtain⟨A, c, e, hS⟩ := h.row g hg;rw[e];refine hS.repOf (λz hz=>?_) (Xn (hb g hg)) Ua;have hm:=h.mem g hg z hz;obtain⟨cur,he⟩:=hS.typ.2 z hz;exact⟨hm.1,hm.2.1,Wa hm.1,cur,3,by rw[hm.1,he]⟩
end
section
variable {P:Program}{R:Exit->Act->World->Prop}{n:Nat}{k:Kt}{s:Nat->Value}{w:World}{ops rest:List Oper}
variable {ty:TypeId}{pos:String}{aft:Array Edge}{g:Option (Nat × Bool)}{w0:World}{Ds:List Nat}{bs:List (Nat × Obj)}
end
def M2:List (Nat × Nat)->(Nat->Int)->Nat->Int
  | [],f=>f
  | z::m,f=>M2 m (Vx f z.1 (z.2:Int))
def RiseN(n size:Nat):Nat->Nat->List (Nat × Nat)->Prop
  | _,j,[]=>j<=size
  | k,j,z::m=>k<=z.1/\z.1<n/\j<=z.2/\z.2<size/\RiseN n size (z.1+1) (z.2+1) m
def Rv:List (Nat × Nat)->Nat->Nat->Nat
  | [],j,_=>j
  | z::m,j,k=>if k<=z.1 then j else Rv m (z.2+1) k
theorem OD{n size:Nat}:∀{m:List (Nat × Nat)}{k0 j k:Nat},RiseN n size k0 j m->k<=k0->Rv m j k=j
  | [],_,_,_,_,_=>rfl
  | z::m,k0,j,k,h,hk=>by rw[Rv,if_pos (by have:=h.1;omega)]
theorem MJ{n size:Nat}:∀{m:List (Nat × Nat)}{k0 j k:Nat},RiseN n size k0 j m->Rv m j k<=size
  | [],_,_,_,h=>h
  | z :: m, k0, j, k, h => by
    obtain⟨h1,h2,h3,h4,h5⟩:=h;rw[Rv];split
    ·omega
    exact MJ h5
theorem Ty{n size:Nat}:∀{m:List (Nat × Nat)}{k0 j k:Nat}{f:Nat->Int},RiseN n size k0 j m->k<k0->M2 m f k=f k
  | [],_,_,_,_,_,_=>rfl
  | z :: m, k0, j, k, f, h, hk => by
    have h1:=h.1;rw[M2,Ty h.2.2.2.2 U,Ju U]
theorem Yu{n size:Nat}:∀{m:List (Nat × Nat)}{k0 j k:Nat}{gp:Nat->List Int},RiseN n size k0 j m->k<k0->k≠n->Zl n size m j gp k=gp k
  | [],_,_,_,_,_,_,hn=>by rw[Zl,Ri hn]
  | z :: m, k0, j, k, gp, h, hk, hn => by
    have h1:=h.1;rw[Zl,Yu h.2.2.2.2 U hn,Ri U]
theorem P7{n size:Nat}:∀(m:List (Nat × Nat))(k0 j:Nat)(gp:Nat->List Int)(f:Nat->Int),RiseN n size k0 j m->k0<=n->(∀k,k0<=k->gp k=[])->(∀k,k0<=k->f k = -1) ->
    (∀k,k0<=k->k<n->((∃b:Nat,M2 m f k=(b:Int)/\Zl n size m j gp k=rng (Rv m j k) b/\Rv m j (k+1)=b+1/\Rv m j k<=b)\/(M2 m f k = -1/\Zl n size m j gp k=[]/\Rv m j (k+1)=Rv m j k))) /\
    Zl n size m j gp n=rng (Rv m j n) size/\Rv m j n<=size
  | [], k0, j, gp, f, h, hk0, hg, hf => by
    refine⟨λk hk hkn=>.inr ⟨hf k hk,by rw[Zl,Ri U];exact hg k hk,O⟩,?_,h⟩;rw[Zl,Xo,hg n hk0];rfl
  | z :: m, k0, j, gp, f, h, hk0, hg, hf => by
    obtain⟨h1,h2,h3,h4,h5⟩:=h;have hg':∀k,z.1+1<=k->P_ gp z.1 (gp z.1++rng j z.2) k=[]:=λk hk=>by rw[Ri U];exact hg k U
    have hf':∀k,z.1+1<=k->Vx f z.1 (z.2:Int) k = -1:=λk hk=>by rw[Ju U];exact hf k U
    obtain⟨i1,i2,i3⟩:=P7 m (z.1+1) (z.2+1) _ _ h5 U hg' hf';have ha:∀k,z.1<k->Rv (z::m) j k=Rv m (z.2+1) k:=λk hk=>by rw[Rv,if_neg U]
    refine⟨λk hk hkn=>?_,by rw[Zl,i2,ha n h2],by rw[ha n h2];exact i3⟩;rw[M2,Zl];rcases Nat.lt_trichotomy k z.1 with hlt|heq|hgt
    ·refine .inr ⟨?_, ?_, ?_⟩
     ·rw[Ty h5 U,Ju U];exact hf k hk
     ·rw[Yu h5 U U,Ri U];exact hg k hk
     rw[Rv,Rv,if_pos U,if_pos U]
    ·subst heq
     refine .inl ⟨z.2,?_,?_,?_,?_⟩
     ·rw[Ty h5 U,IE]
     ·rw[Yu h5 U U,Xo,hg _ hk,Rv,if_pos U];rfl
     ·rw[ha _ U,OD h5 (gQ _)]
     rw[Rv,if_pos U];exact h3
    rw[ha k hgt, ha (k + 1) U];exact i1 k U hkn
theorem RiseN.all{n size:Nat}:∀{m:List (Nat × Nat)}{k j:Nat},RiseN n size k j m->∀z∈m,z.1<n/\z.2<size
  | [],_,_,_,z,hz=>by cases hz
  | y :: m, _, _, h, z, hz => by
    rcases oQ.1 hz with rfl|hz
    ·exact⟨h.2.1,h.2.2.2.1⟩
    exact RiseN.all h.2.2.2.2 z hz
end Go.Scarf
