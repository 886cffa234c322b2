/- A part of the proof. -/
import Derived.Test.YteedfdfinodcaaaGreatDoorZ11
set_option linter.all false
set_option maxHeartbeats 8000000
set_option maxRecDepth 10000
set_option synthInstance.maxHeartbeats 0
set_option synthInstance.maxSize 9999
namespace Go.Scarf
open List renaming length->aL
open Go.RowKit Go.Proofs Go.Proofs.Tryz
variable {α β:Type}{E:List Nat}{b:Nat}{S:Nat->Prop}{l r:Sd}{x y z:Sv}
def Id(m:List (Nat × Nat)):List (Int × Int):=m.map λz=>((z.1:Int),(z.2:Int))
def GF(m:List (Nat × Nat)):aL (Id m)=aL m:=by simp[Id]
def Yw{m:List (Nat × Nat)}{i:Nat}(h:i<aL (Id m))(h2:i<aL m):(Id m)[i]=((m[i].1:Int),(m[i].2:Int)):=by simp[Id]
def PT{β:Type}(f:Nat->β)(k:Nat)(v:β):Nat->β:=λx=>if x=k then v else f x
def Dn(f:Nat->β)(k:Nat)(v:β):PT f k v k=v:=uQ rfl
def Ri{f:Nat->β}{k x:Nat}{v:β}(h:x≠k):PT f k v x=f x:=tQ h
def Eh(n size:Nat):List (Nat × Nat)->Nat->(Nat->List Int)->Nat->List Int
  | [],j,gp=>PT gp n (gp n++rng j size)
  | z::m,j,gp=>Eh n size m (z.2+1) (PT gp z.1 (gp z.1++rng j z.2))
structure Gp (w0 w:World) (N ob jb vb:Nat) (hd:Nat->Value) (gp:Nat->List Int) (sg:Nat->List (Nat × Obj)) (j:Nat):Prop where
  top:w.heap[ob]? = some (.cells (Zl N hd) 42)
  cj:w.heap[jb]? = some (.cells #[J (j:Nat)] 3)
  cv:w.heap[vb]? = some (.cells #[W ob N N] 110)
  row:∀g,g<N->∃A c,hd g=.slice A (aL (gp g)) c/\SlB 3 1 A (aL (gp g)) c (IVs (gp g)) (sg g)
  mem:∀g,g<N->∀z∈sg g,w.heap[z.1]? = some z.2/\w0.heap.size<=z.1/\z.1≠ob/\z.1≠jb/\z.1≠vb
  apart:∀g g',g<N->g'<N->g≠g'->∀z∈sg g,∀y∈sg g',z.1≠y.1
  new:w0.heap.size<=ob/\w0.heap.size<=jb/\w0.heap.size<=vb
  ne:jb≠ob/\vb≠ob/\vb≠jb
section
variable {w0 w w':World}{N ob jb vb j:Nat}{hd:Nat->Value}{gp:Nat->List Int}{sg:Nat->List (Nat × Obj)}
def Gp.keep(h:Gp w0 w N ob jb vb hd gp sg j)(hs:Same E w w')(h1:ob∉E)(h2:jb∉E)(h3:vb∉E)(h4:∀g,g<N->∀z∈sg g,z.1∉E):Gp w0 w' N ob jb vb hd gp sg j :=
  ⟨(hs.block _ (Ia h.top) h1).trans h.top,(hs.block _ (Ia h.cj) h2).trans h.cj,(hs.block _ (Ia h.cv) h3).trans h.cv,h.row,
    λg hg z hz=>⟨(hs.block _ (Ia (h.mem g hg z hz).1)<|h4 g hg z hz).trans (h.mem g hg z hz).1,(h.mem g hg z hz).2⟩,h.apart,h.new,h.ne⟩
def Gp.ext(h:Gp w0 w N ob jb vb hd gp sg j)(hs:Same [] w w'):Gp w0 w' N ob jb vb hd gp sg j:=h.keep hs Da Da Da (λ_ _ _ _=>by simp)
def Gp.setj(h:Gp w0 w N ob jb vb hd gp sg j){k:Nat}(hs:Same [jb] w w')(hn:w'.heap[jb]? = some (.cells #[J (k:Nat)] 3)):Gp w0 w' N ob jb vb hd gp sg k :=
  ⟨(hs.block _ (Ia h.top) (by simpa using λe=>h.ne.1 e.symm)).trans h.top,hn,(hs.block _ (Ia h.cv) (aS h.ne.2.2)).trans h.cv,h.row,
    λg hg z hz=>⟨(hs.block _ (Ia (h.mem g hg z hz).1) (by simpa using (h.mem g hg z hz).2.2.2.1)).trans (h.mem g hg z hz).1,(h.mem g hg z hz).2⟩,h.apart,h.new,h.ne⟩
def Gp.fill(h:Gp w0 w N ob jb vb hd gp sg j){g k j':Nat}(hg:g<N){A':Option Addr}{c':Nat}{sg':List (Nat × Obj)}(h1:w'.heap[ob]? = some (.cells (Zl N (Ny hd g (.slice A' (aL (gp g++rng j k)) c'))) 42))(h2:w'.heap[jb]? = some (.cells #[J (j':Nat)] 3))
    (h3:w'.heap[vb]? = some (.cells #[W ob N N] 110)) (h4:SlB 3 1 A' (aL (gp g++rng j k)) c' (IVs (gp g++rng j k)) sg') (h5:∀z∈sg',w'.heap[z.1]? = some z.2/\z.1≠ob/\z.1≠jb/\z.1≠vb/\(z.1∈(sg g).map (·.1)\/w.heap.size<=z.1))
    (hs:Same ([ob,jb,vb]++(sg g).map (·.1)) w w') (hw:w0.heap.size<=w.heap.size):Gp w0 w' N ob jb vb (Ny hd g (.slice A' (aL (gp g++rng j k)) c')) (PT gp g (gp g++rng j k)) (PT sg g sg') j':=by
  have hnew:∀z∈sg',w0.heap.size<=z.1:=λz hz=>(h5 z hz).2.2.2.2.elim (λhm=>by obtain⟨y,hy,e⟩:=nQ.1 hm;rw[<-e];exact (h.mem g hg y hy).2.1) (λhl=>fQ hw hl);have hoff:∀g',g'<N->g'≠g->∀y∈sg g',∀z∈sg',y.1≠z.1:=λg' hg' hne y hy z hz e=>(h5 z hz).2.2.2.2.elim (λhm=>by obtain⟨x,hx,e2⟩:=nQ.1 hm;exact h.apart g' g hg' hg hne y hy x hx<|e.trans e2.symm) (λhl=>by have:=Ia (h.mem g' hg' y hy).1;omega);refine⟨h1,h2,h3,λg' hg'=>?_,λg' hg' z hz=>?_,λa b ha hb hab z hz y hy=>?_,h.new,h.ne⟩
  ·by_cases e : g' = g
   ·subst e
    rw[NW,Dn,Dn];exact⟨A',c',O,h4⟩
   rw[setV_ne e, Ri e, Ri e];exact h.row g' hg'
  ·by_cases e : g' = g
   ·subst e
    rw[Dn]at hz;exact⟨(h5 z hz).1,hnew z hz,(h5 z hz).2.1,(h5 z hz).2.2.1,(h5 z hz).2.2.2.1⟩
   rw[Ri e]at hz;have hm:=h.mem g' hg' z hz;refine⟨(hs.block _ (Ia hm.1) λhx=>?_).trans hm.1,hm.2⟩;rcases mQ.1 hx with hx|hx
   ·simp only[oQ, List.not_mem_nil, or_false]at hx
    rcases hx with hx|hx|hx
    ·exact hm.2.2.1 hx
    ·exact hm.2.2.2.1 hx
    exact hm.2.2.2.2 hx
   obtain⟨y, hy, e2⟩ := nQ.1 hx;exact h.apart g' g hg' hg e z hz y hy e2.symm
  by_cases ea : a = g
  ·subst ea
   rw[Dn]at hz;rw[Ri λq=>hab q.symm]at hy;exact λe=>hoff b hb (λq=>hab q.symm) y hy z hz e.symm
  rw[Ri ea]at hz;by_cases eb:b=g
  ·subst eb
   rw[Dn]at hy;exact hoff a ha ea z hz y hy
  rw[Ri eb]at hy;exact h.apart a b ha hb hab z hz y hy
def R6(N:Nat)(gp:Nat->List Int):D:=.slice ((List.range N).map λg=>.slice ((gp g).map Oe))
theorem X8{S:Nat->Prop}:∀(N:Nat)(d:Nat->D)(f:Nat->Value),(∀g,g<N->Rep S w (d g) [f g])->RepL S w ((List.range N).map d) ((List.range N).map f)
  | 0,d,f,_=>RepL.nil_mk
  | N + 1, d, f, h => by
    rw[List.range_succ,jQ,jQ];exact RepL.append (X8 N d f λg hg=>h g kX) (by rw[jZ,List.map_nil,jZ,List.map_nil,RepL];exact⟨[f N],[],O,h N kX,RepL.nil_mk⟩)
theorem Gp.rep(h:Gp w0 w N ob jb vb hd gp sg j)(hN:N<=1000)(hb:∀g,g<N->∀z∈gp g,-9223372036854775808<=z/\z<=9223372036854775807):Rep (Btw w0 w) w (R6 N gp) [W ob N N]:=by
  refine Rep.slice_mk Da (gQ _) kX λ_=>⟨_,O,(List.range N).map hd,λi hi=>⟨?_,h.new.1,Ia h.top,_,_,h.top⟩,X8 N _ _ λg hg=>?_⟩
  ·have hi' : i<N := by grind
   rw[If,Nat.zero_add,Ua h.top,ZE hi'];simp
  obtain⟨A, c, e, hS⟩ := h.row g hg;rw[e];refine hS.repOf (λz hz=>?_) (Is<|hb g hg) Da;have hm:=h.mem g hg z hz;obtain⟨cur,he⟩:=hS.typ.2 z hz;exact⟨hm.1,hm.2.1,Ia hm.1,cur,3,by rw[hm.1,he]⟩
end
theorem RK{n size B:Nat}(hs:size<=B):∀(m:List (Nat × Nat))(j:Nat)(gp:Nat->List Int),(∀z∈m,z.2<=B)->(∀g,∀z∈gp g,(0:Int)<=z/\z<(B:Int))->∀g,∀z∈Eh n size m j gp g,(0:Int)<=z/\z<(B:Int)
  | [], j, gp, _, h, g, z, hz => by
    rw[Eh]at hz;by_cases e:g=n
    ·subst e
     rw[Dn]at hz;rcases mQ.1 hz with hz|hz
     ·exact h g z hz
     have:=rng_in z hz;omega
    rw[Ri e]at hz;exact h g z hz
  | y :: m, j, gp, hm, h, g, z, hz => by
    rw[Eh]at hz;refine RK hs m _ _ (λx hx=>hm x jV) (λg' x hx=>?_) g z hz;have hy:=hm y Da;by_cases e:g'=y.1
    ·subst e
     rw[Dn]at hx;rcases mQ.1 hx with hx|hx
     ·exact h _ x hx
     have:=rng_in x hx;omega
    rw[Ri e]at hx;exact h g' x hx
section
variable {P:Program}{R:Exit->Act->World->Prop}{n:Nat}{k:Kt}{s:Nat->Value}{w:World}{ops rest:List Oper}
variable {ty:TypeId}{pos:String}{aft:Array Edge}{g:Option (Nat × Bool)}{w0:World}{Ds:List Nat}{bs:List (Nat × Obj)}
theorem o_storeO{t T:TypeId}{x y:Operand}{off:Nat}{l l':List Value}{u:Value}(v:Value)(hF:FR w0 Ds bs w)(hs:∀w,(sizeOf t).run P w=.ok 1 w)(hx:ev n s x=.pointer (some ⟨b,off,none⟩))(hy:ev n s y=v)(hh:w.heap[b]? = some (.cells l.toArray T))(hc:AtI off l u v l')(hD:b∈Ds\/w0.heap.size<=b)(hn:∀p∈bs,p.1≠b)
    (h:∀w',FR w0 Ds bs w'->Same [b] w w'->w'.heap[b]? = some (.cells l'.toArray T)->Og P R n ops k rest s w') (hv:v.cells=#[v]:=by rfl) (ho:one v=true:=by rfl)
    (hw:Oa ops n s ⟨none,.store t x y,ty,pos,aft,g⟩=true:=by rfl):Og P R n ops k (⟨none,.store t x y,ty,pos,aft,g⟩::rest) s w:=by
  have hsp:=Ah b off (fz:=(0,0)) [v] 0 w l.toArray hh;rw[Nat.add_zero,Rv,hc.set]at hsp;refine Mw (Ix (l:=[v]) hs hx hy hv (aS ho) λi hi=>?_) (h (putCells w ⟨b,off,none⟩ 0 [v]) (hF.touch hsp.2 λb' hb=>?_) hsp.2 hsp.1) hw
  ·obtain rfl : i = 0 := by simp at hi;omega
   rw[Wo,Ua hh];exact⟨⟨u,by simpa using hc.get⟩,Nh hh⟩
  grind
end
def Js:List (Nat × Nat)->(Nat->Int)->Nat->Int
  | [],f=>f
  | z::m,f=>Js m (Rh f z.1 (z.2:Int))
theorem ZW{B:Int}:∀(m:List (Nat × Nat))(f:Nat->Int),(∀z∈m,(z.2:Int)<B)->(∀k,-1<=f k/\f k<B)->∀k,-1<=Js m f k/\Js m f k<B
  | [],f,_,h,k=>h k
  | z :: m, f, hm, h, k => ZW m _ (λy hy => hm y zV) (λk' => by
    have hz:=hm z Da;by_cases e:k'=z.1
    ·subst e;rw[Fx];omega
    rw[Ys e];exact h k') k
theorem NU{w0 w:World}{n:Nat}{f:Nat->Int}(h:w.heap[b]? = some (.cells (Dd n f) 3))(hb:w0.heap.size<=b)(hn:n<=1000000)(hf:∀k,k<n->-9223372036854775808<=f k/\f k<=9223372036854775807):Rep (Btw w0 w) w (.slice (((List.range n).map f).map Oe)) [W b n n]:=by
  refine Rep.slice_mk Da (gQ _) kX λ_=>⟨_,O,((List.range n).map f).map λs=>Value.int .i64 s,λi hi=>⟨?_,hb,Ia h,_,_,h⟩,Is λs hs=>?_⟩
  ·have hi' : i<n := by grind
   rw[If,Nat.zero_add,Ua h,Pm hi'];simp
  grind
def gaps_yes(S:Nat->Prop)(w0:World)(n:Nat)(mp:List (Nat × Nat))(A:Option Addr)(c:Nat)(hX:Rep S w0 (R5 (Id mp)) [.slice A (aL (Id mp)) c])(hr:Ay n (Id mp)=true)(hn:n<=64)(hm:aL mp<=100)(size:Nat)(hsz:size<=64)(hmp:∀z∈mp,z.1<n/\z.2<size):Calls prog 109 #[J ((n:Nat):Int),.slice A (aL (Id mp)) c,J ((size:Nat):Int)] w0 (Qb λv w'=>∃ob:Nat,v=.tuple #[W ob (n+1) (n+1),.bool true]/\Rep (Btw w0 w') w' (R6 (n+1) (Eh n size mp 0 λ_=>[])) [W ob (n+1) (n+1)]/\Same [] w0 w'):=by
 have hcl:=GF mp;have hXl:=hX.pairs_len;refine Ga func109 ntmps109 ?_;intro hF;refine rn 8<|Sc (λσ w=>AllEq σ [(0,J<|(n:Nat)),(1,.slice (A) (aL (Id mp)) c),(2,J<|(size:Nat)),(40,.bool false)]/\FR w0 [] [] w) ?_ ?_;refine rn 3<|Sa (Mk (v':=.bool true) (XK _ _ (n:Int) (Id mp) A c<|hF.rep hX) (by rw[hr])) ?_;rintro w hF -;refine rn 3<|Ca (v:=.bool false) (Ed (CO O O) kX) ?_;refine rn 3<|Ca (v:=.bool false) (Ed TB kX) ?_;refine rn 7 ⟨λhg0=>?_,λhg0=>?_⟩;refine rn 3<|Kc (W5<|((aL (Id mp)-1:Nat):Int)) ?_;obtain⟨ad1,hA1,hk1,hx1⟩:=hX.pair_elem (i:=(aL (Id mp)-1)) kX;refine Ca (v:=.pointer<|some<|ad1.add<|(aL (Id mp)-1)*2) (Ea (i:=((aL (Id mp)-1:Nat):Int)) H9 hA1)<|Ca (v:=.pointer<|some<|(ad1.add<|(aL (Id mp)-1)*2).add 1) (Oc (a:=ad1.add<|(aL (Id mp)-1)*2) Z_)<|Ca (v:=J<|((Id mp)[aL (Id mp)-1]).2) (Ma pZ<|hF.cell0<|hk1 1 Up) ?_;refine rn 1 ?_;refine Ca (v:=.bool false) (Ed (MK O O) zS) ?_;refine rn 3 ?_;exact Ja ⟨Ib,hF⟩;refine rn 12 ?_;exact Ja ⟨Ib,hF⟩;rintro σ w ⟨hzz,hF⟩;refine Kq hzz 7<|Kc (Ce<|((n+1:Nat):Int)) ?_;refine Cl (v:=λb=>W b (n+1)<|n+1) (o:=.cells (List.replicate (n+1) aQ).toArray 42) hF (LJ (z:=aQ) OU Gb O O O kX Ra) ?_;rintro b1 w hb1 hF -;refine rn 1 ?_;rintro b2 w hb2 hF -;refine rn 5 ?_;rintro b3 w hb3 hF -;refine rn 4<|Ca (v:=.func (.func 146) #[] #[V b3,V b2]) Mj ?_;refine rn 5 ?_;rw[valsA_nil<|n+1]at hF;have hG_:Gp w0 w (n+1) b1 b3 b2 (λ_=>aQ) (λ_=>[]) (λ_=>[]) 0:=⟨hF.heap (i:=2) rfl,hF.heap (i:=0) rfl,hF.heap (i:=1) rfl,λg _=>⟨none,0,rfl,SlB.nil _ _⟩,λg _ z hz=>(by cases hz),λ_ _ _ _ _ z hz=>(by cases hz),⟨hF.ge (i:=2) rfl,hF.ge (i:=0) rfl,hF.ge (i:=1) rfl⟩,⟨Xt hF.desc (i:=0) (j:=2) rfl rfl Ra,Xt hF.desc (i:=1) (j:=2) rfl rfl Ra,Xt hF.desc (i:=1) (j:=0) rfl rfl Ra⟩⟩
 have hF:=hF.clear;refine rn 7<|Wa (λμ σ w=>∃(t:Nat),∃(hd:Nat->Value),∃(gp:Nat->List Int),∃(sg:Nat->List (Nat × Obj)),∃(j:Nat),μ=aL mp-t/\(t<=aL mp)/\(Gp w0 w (n+1) b1 b3 b2 hd gp sg j)/\(Eh n size (mp.drop t) j gp=Eh n size mp 0 λ_=>[])/\(∀g,g<n+1->aL (gp g)<=64*t)/\(j<=64)/\AllEq σ [(0,J<|(n:Nat)),(2,J<|(size:Nat)),(8,V b2),(9,V b3),(10,.func (.func 146) #[] #[V b3,V b2]),(45,.slice (A) (aL (Id mp)) c),(46,J<|(aL (Id mp):Nat)),(47,J<|(t:Int))]/\FR w0 [] [] w) _ ⟨0,_,_,_,0,O,cZ _,hG_,O,λg _=>by simp,kX,Ib,hF⟩ ?_;rintro μ σ w ⟨t,hd,gp,sg,j,rfl,ht,hG_,hrun,hlen,hj,hzz,hF⟩;refine Tf hzz 7 ⟨λhc1=>?_,λhc1=>?_⟩;refine rn 5 ?_;obtain⟨a,b,hmt⟩:∃a b:Nat,mp[t]=(a,b):=⟨_,_,rfl⟩;have hab:(Id mp)[t]=((a:Int),(b:Int)):=by rw[Yw kX kX,hmt]
 have hab1:=hmp _<|List.getElem_mem (l:=mp) (n:=t) kX;rw[hmt]at hab1;refine rn 1 ?_;obtain⟨ad2,hA2,hk2,hx2⟩:=hX.pair_elem (i:=t) kX;rw[hab]at hk2 hx2;refine Ca (v:=.pointer<|some<|ad2.add<|t*2) (Ea (i:=(t:Int)) H9 hA2)<|Ca (v:=.agg #[J<|(((a:Int),(b:Int))).1,J<|(((a:Int),(b:Int))).2]) (Pa (l:=L0 ((a:Int),(b:Int))) isAgg191 sizeOf191 O O<|hF.cells0 hk2) ?_;refine rn 1 ?_;intro b4 w hb4 hF hE;have hn_:b1≠b4/\b3≠b4/\b2≠b4/\∀z∈sg a,z.1≠b4:=by have e1:=Ia hG_.top;have e2:=Ia hG_.cj;have e3:=Ia hG_.cv;exact⟨by_Om,by_Om,by_Om,λz hz=>by have:=Ia (hG_.mem a kX z hz).1;omega⟩
 replace hG_:=hG_.ext hE;refine rn 9 ?_;obtain⟨Ax,cx,hrow⟩:=hG_.row (a) kX;have hF0:=hF.same.size;refine Qd (fill_c _ (n+1) (a) b1 b3 b2 (b) j hd (gp a) Ax cx (sg a) kX kX kX kX (by have:=hlen (a) kX;omega) hG_.top hG_.cj hG_.cv hrow.1 hrow.2 (λz hz=>by have h:=hG_.mem (a) kX z hz;exact⟨h.1,h.2.2⟩) hG_.ne) (Kp O en_146 O O O) ?_;rintro _ w ⟨A2,c2,sg2,rfl,h1,h2,h3,h4,h5,hE⟩;have hG2:=hG_.fill (g:=a) kX h1 h2 h3 h4 h5 hE hF0;have hF:=hF.touch hE (λy hy=>by rcases mQ.1 hy with hy|hy;(simp only[oQ,List.not_mem_nil,or_false]at hy;have hnw:=hG_.new;refine⟨λh=>absurd h (by rcases hy with rfl|rfl|rfl <;> omega),?_⟩;intro z hz;obtain rfl:=pQ.1 hz;rcases hy with rfl|rfl|rfl;(exact λe=>hn_.1 e.symm);(exact λe=>hn_.2.1 e.symm);(exact λe=>hn_.2.2.1 e.symm));(obtain⟨x,hx,rfl⟩:=nQ.1 hy;have hmx:=hG_.mem (a) kX x hx;refine⟨λh=>absurd h kX,?_⟩;intro z hz;obtain rfl:=pQ.1 hz;exact λe=>hn_.2.2.2 x hx e.symm));clear hG_ h1 h2 h3 h4 h5 hE hrow hF0;have hG_:=hG2;clear hG2;refine rn 5<|Kc (Ce<|((b+1:Nat):Int)) ?_;refine o_storeO (.int _ _) hF uZ O O hG_.cj sI0 (.inr hG_.new.2.1) (by simpa using λe=>hn_.2.1 e.symm) ?_;intro w hF hE hnew;replace hG_:=hG_.setj hE hnew;refine rn 4<|Kc (Ce<|((t+1:Nat):Int)) ?_;refine rn 2 ?_;refine Ja ⟨_,?_,t+1,_,_,_,b+1,rfl,kX,hG_,(by rw[<-hrun,List.drop_eq_getElem_cons (show t<aL mp by omega),Eh,hmt]),(λg hg=>by by_cases e:g=a;(subst e;rw[Dn,dQ,J8];have:=hlen g hg;omega);(rw[Ri e];have:=hlen g hg;omega)),kX,Ib,hF.su⟩;omega;refine rn 7 ?_;obtain⟨Ax,cx,hrow⟩:=hG_.row (n) kX;have hF0:=hF.same.size;refine Qd (fill_c _ (n+1) (n) b1 b3 b2 (size) j hd (gp n) Ax cx (sg n) kX kX kX kX (by have:=hlen (n) kX;omega) hG_.top hG_.cj hG_.cv hrow.1 hrow.2 (λz hz=>by have h:=hG_.mem (n) kX z hz;exact⟨h.1,h.2.2⟩) hG_.ne) (Kp O en_146 O O O) ?_
 rintro _ w ⟨A2,c2,sg2,rfl,h1,h2,h3,h4,h5,hE⟩;have hG2:=hG_.fill (g:=n) kX h1 h2 h3 h4 h5 hE hF0;have hF:=hF.touch hE (λy hy=>by rcases mQ.1 hy with hy|hy;(simp only[oQ,List.not_mem_nil,or_false]at hy;have hnw:=hG_.new;refine⟨λh=>absurd h (by rcases hy with rfl|rfl|rfl <;> omega),?_⟩;simp);(obtain⟨x,hx,rfl⟩:=nQ.1 hy;have hmx:=hG_.mem (n) kX x hx;refine⟨λh=>absurd h kX,?_⟩;simp));clear hG_ h1 h2 h3 h4 h5 hE hrow hF0;have hG_:=hG2;clear hG2;refine rn 4 ?_;refine Ca (v:=W b1 (n+1)<|n+1) (Ma mZ (hx:=O) (by rw[Ua hG_.cv];rfl)) ?_;refine rn 5 ?_;obtain rfl:t=aL mp:=by_Om
 rw[List.drop_length,Eh]at hrun;rw[hrun]at hG_;exact⟨b1,O,hG_.rep kX (λg _ z hz=>by have:=RK (B:=64) hsz mp 0 (λ_=>[]) (λy hy=>by have:=hmp y hy;omega) (λ_ z hz=>by cases hz) g z hz;omega),hF.same⟩
def image_yes(S:Nat->Prop)(w0:World)(n:Nat)(mp:List (Nat × Nat))(A:Option Addr)(c:Nat)(hX:Rep S w0 (R5 (Id mp)) [.slice A (aL (Id mp)) c])(hr:Ay n (Id mp)=true)(hn:n<=64)(hm:aL mp<=100)(hmp:∀z∈mp,z.1<n/\(z.2:Int)<9223372036854775807):Calls prog 110 #[J ((n:Nat):Int),.slice A (aL (Id mp)) c] w0 (Qb λv w'=>∃ob:Nat,v=.tuple #[W ob n n,.bool true]/\Rep (Btw w0 w') w' (.slice (((List.range n).map (Js mp λ_=>-1)).map Oe)) [W ob n n]/\Same [] w0 w'):=by
 have hcl:=GF mp;have hXl:=hX.pairs_len;refine Ga func110 ntmps110 ?_;intro hF;refine rn 8<|Sc (λσ w=>AllEq σ [(0,J<|(n:Nat)),(1,.slice (A) (aL (Id mp)) c),(28,.bool false)]/\FR w0 [] [] w) ?_ ?_;refine rn 3<|Sa (Mk (v':=.bool true) (XK _ _ (n:Int) (Id mp) A c<|hF.rep hX) (by rw[hr])) ?_;rintro w hF -;refine rn 7 ⟨λhg0=>?_,λhg0=>?_⟩;refine rn 3<|Kc (W5<|((aL (Id mp)-1:Nat):Int)) ?_;obtain⟨ad1,hA1,hk1,hx1⟩:=hX.pair_elem (i:=(aL (Id mp)-1)) kX;refine Ca (v:=.pointer<|some<|ad1.add<|(aL (Id mp)-1)*2) (Ea (i:=((aL (Id mp)-1:Nat):Int)) H9 hA1)<|Ca (v:=.pointer<|some<|(ad1.add<|(aL (Id mp)-1)*2).add 1) (Oc (a:=ad1.add<|(aL (Id mp)-1)*2) Z_)<|Ca (v:=J<|((Id mp)[aL (Id mp)-1]).2) (Ma pZ<|hF.cell0<|hk1 1 Up) ?_;refine Ca (v:=.bool false) (Ed Xn zS) ?_;refine rn 3 ?_;exact Ja ⟨Ib,hF⟩;refine rn 11 ?_;exact Ja ⟨Ib,hF⟩;rintro σ w ⟨hzz,hF⟩;refine Kq hzz 7<|rn 1 ⟨by_Om,?_⟩;rintro b1 w hb1 hF -;refine rn 12<|Wa (λμ σ w=>∃(i:Nat),∃(f:Nat->Int),μ=n-i/\(i<=n)/\(∀k,k<i->f k = -1)/\AllEq σ [(1,.slice (A) (aL (Id mp)) c),(6,W b1 n n),(32,J<|(n:Nat)),(33,J<|(i:Int))]/\FR w0 [] [(b1,.cells (Dd (n) f) 3)] w) _ ⟨0,λ_=>0,O,cZ _,λk hk=>by omega,Ib,hF⟩ ?_;rintro μ σ w ⟨i,f,rfl,hi,hf,hzz,hF⟩;refine Tf hzz 7 ⟨λhc1=>?_,λhc1=>?_⟩;refine rn 13<|Ca (v:=.pointer<|some ⟨b1,i,none⟩) (Va (i:=(i:Int)) (i) Se O O kX kX kX) ?_;refine Td 0 (l:=[J<|(-1)]) (cs':=Dd (n)<|Rh (f) (i)<|(-1)) hF uZ O (v:=J<|(-1)) O O Io O qD (Gg _) ?_
 rintro w hF -;refine rn 4<|Kc (Ce<|((i+1:Nat):Int)) ?_;refine rn 2 ?_;refine Ja ⟨_,?_,i+1,Rh (f) (i)<|(-1),rfl,kX,(λk hk=>by by_cases e:k=i;(subst e;exact Fx _ _ _);(rw[Ys e];exact hf k kX)),Ib,hF⟩;omega;refine rn 4 ?_;rw[QO (N:=n) (f:=f) (g:=λ_=>-1) λk hk=>hf k kX]at hF;refine rn 7<|Wa (λμ σ w=>∃(t:Nat),∃(f:Nat->Int),μ=aL mp-t/\(t<=aL mp)/\(Js (mp.drop t) f=Js mp λ_=>-1)/\AllEq σ [(6,W b1 n n),(40,.slice (A) (aL (Id mp)) c),(41,J<|(aL (Id mp):Nat)),(42,J<|(t:Int))]/\FR w0 [] [(b1,.cells (Dd (n) f) 3)] w) _ ⟨0,λ_=>-1,O,cZ _,O,Ib,hF⟩ ?_;rintro μ σ w ⟨t,f,rfl,ht,hrun,hzz,hF⟩;refine Tf hzz 7 ⟨λhc2=>?_,λhc2=>?_⟩;refine rn 5 ?_;obtain⟨a,b,hmt⟩:∃a b:Nat,mp[t]=(a,b):=⟨_,_,rfl⟩;have hab:(Id mp)[t]=((a:Int),(b:Int)):=by rw[Yw kX kX,hmt]
 have hab1:=hmp _<|List.getElem_mem (l:=mp) (n:=t) kX;rw[hmt]at hab1;refine rn 1 ?_;obtain⟨ad2,hA2,hk2,hx2⟩:=hX.pair_elem (i:=t) kX;rw[hab]at hk2 hx2;refine Ca (v:=.pointer<|some<|ad2.add<|t*2) (Ea (i:=(t:Int)) H9 hA2)<|Ca (v:=.agg #[J<|(((a:Int),(b:Int))).1,J<|(((a:Int),(b:Int))).2]) (Pa (l:=L0 ((a:Int),(b:Int))) isAgg191 sizeOf191 O O<|hF.cells0 hk2) ?_;refine rn 1 ?_;rintro b2 w hb2 hF -;refine rn 8<|Ca (v:=.pointer<|some ⟨b1,a,none⟩) (Va (i:=(((a:Int),(b:Int))).1) (a) Se O O kX kX kX) ?_;refine Td 1 (l:=[J<|(((a:Int),(b:Int))).2]) (cs':=Dd (n)<|Rh (f) (a)<|(((a:Int),(b:Int))).2) hF uZ O (v:=J<|(((a:Int),(b:Int))).2) O O Io O qD (Gg _) ?_;rintro w hF -;refine rn 4<|Kc (Ce<|((t+1:Nat):Int)) ?_;refine rn 2<|Ja ⟨_,?_,t+1,Rh (f) (a)<|(((a:Int),(b:Int))).2,O,kX,(by rw[<-hrun,List.drop_eq_getElem_cons (show t<aL mp by omega),Js,hmt]),Ib,hF.su⟩;omega;refine rn 10 ?_;obtain rfl:t=aL mp:=by_Om
 rw[List.drop_length,Js]at hrun;rw[hrun]at hF;exact⟨b1,O,NU (hF.heap (i:=0) O) (hF.ge (i:=0) O) kX (λk _=>by have:=ZW (B:=9223372036854775807) mp (λ_=>-1) (λz hz=>(hmp z hz).2) (λ_=>by omega) k;omega),hF.same⟩
open Go.RowKit
def Ih:Option Tree->Option Tree->Bool
  | some x,some y=>We x y
  | none,none=>true
  | _,_=>false
def Wi(s:Str):Str:=61::s
def Ws(g:Nat):Str:=43::Lib.itoa g
structure Mt where
  i:Nat
  k:Nat
  star:Option Nat
  taken:Nat
def AE:Str:=[42,42]
def oneS:Str:=[42]
def mtN(p q:List Str)(m:Mt):Option Mt :=
  if p[m.i]? = some AE then some ⟨m.i+1,m.k,some m.i,m.k⟩
  else if p[m.i]? = some oneS\/(p[m.i]?≠none/\p[m.i]? = q[m.k]?) then some ⟨m.i+1,m.k+1,m.star,m.taken⟩
  else match m.star with
    | some s=>some ⟨s+1,m.taken+1,some s,m.taken+1⟩
    | none=>none
def mtF(p q:List Str):Nat->Mt->Bool
  | 0,_=>false
  | f+1,m=>if m.k<aL q then (match mtN p q m with|some m'=>mtF p q f m'|none=>false) else (p.drop m.i).all λs=>decide (s=AE)
def mtM(p q:List Str)(m:Mt):Nat:=(aL p-(match m.star with|some s=>s|none=>0)+(if m.star=none then 1 else 0))*((aL q+1)*(aL q+1))+(aL q-m.taken)*(aL q+1)+(aL q-m.k)
def Jp(p q:List Str):Bool:=decide (aL p<=200)&&(decide (aL q<=200)&&mtF p q 10000000 ⟨0,0,none,0⟩)
def Lh(rl:List Rl)(path:List Str):Option Str:=(rl.find? λx=>Jp x.pat path).map (·.key)
def Xe(l:List Str):Bool:=decide l.Nodup&&decide (aL l<=256)
def Cc(p:List Str)(x y:Str):Int:=if x∈p/\y∈p then Lib.compareInt (p.idxOf x) (p.idxOf y) else 0
def Dc(b l r:List Str)(x y:Str):Option Int :=
  if Cc b x y≠0/\(Cc l x y = - Cc b x y\/Cc r x y = - Cc b x y) then some (- Cc b x y)
  else if Cc b x y≠0 then some (Cc b x y)
  else if Cc l x y*Cc r x y<0 then none
  else some (if Cc l x y≠0 then Cc l x y else Cc r x y)
def Lu(b l r:List Str)(rest:List Str)(s:Str):Bool:=rest.all λy=>decide (y=s) || decide (Dc b l r y s≠some (-1))
def Hh(b l r:List Str):Nat->List Str->Option (List Str)
  | 0,_=>some []
  | f + 1, rest => match rest.find? (Lu b l r rest)with
    | some s=>(Hh b l r f (rest.erase s)).map (s::·)
    | none=>none
def Uj(b l r names:List Str):Bool:=(List.range (aL names)).any λi=>(names.take i).any λy=>decide (Dc b l r (names.getD i []) y=none)
def Pf(b l r names:List Str):Option (List Str) :=
  if Xe b=true/\Xe l=true/\Xe r=true/\Xe names=true/\Uj b l r names=false then Hh b l r (aL names) (Me names) else none
abbrev Mo:=Option Tree × List Cf
def Fj(path:List Str)(cls:Int)(n:Nat)(b l r:Option Tree):Mo:=(some (Lj n),[⟨path,cls,Ni b,Ni l,Ni r⟩])
def Wj:Option Tree->Option Tree->Option Tree->Int
  | none,_,_=>4
  | some x,some y,some z=>if x.kind=y.kind/\x.kind=z.kind then 1 else 2
  | _,_,_=>3
def ID(k:Str):Option Tree->List (Str × Tree)
  | some x=>[(k,x)]
  | none=>[]
def Cd(f:Str->Nat->Mo)(n:Nat)(ks:List Str):Nat->List (Str × Tree) × List Cf
  | 0=>([],[])
  | j + 1 =>
    let a:=Cd f n ks j
    let q:=f (ks.getD j []) (n+aL a.2)
    (a.1++ID (ks.getD j []) q.1,a.2++q.2)
def Hd(x:Tree)(key:Str):Option Tree:=Wb x.keys x.items key
def Pb(x:Tree)(key id:Str):Option Tree:=if (Iq x key id).2=true then some (Iq x key id).1 else none
def He(path:List Str)(g n:Nat)(p q:List Tree):List Tree × List Cf :=
  if aL p=0 then (q,[]) else if aL q=0\/We (.node 5 [] [] p) (.node 5 [] [] q)=true then (p,[])
  else ([Lj n],[⟨path++[Ws g],5,⟨true,.node 5 [] [] []⟩,⟨true,.node 5 [] [] p⟩,⟨true,.node 5 [] [] q⟩⟩])
structure By where
  items:List Tree
  gap:Nat->List Int
  img:Nat->Int
def By.at(y:By)(i:Int):Option Tree:=if i<0 then none else y.items[i.toNat]?
def By.put(y:By)(g:Nat):List Tree:=(y.gap g).filterMap λi=>y.at i
def By.item(y:By)(k:Nat):Option Tree:=y.at (y.img k)
def MU(m:List (Int × Int)):List (Nat × Nat):=m.map λz=>(z.1.toNat,z.2.toNat)
def Fc(base v:List Tree):By :=
  let m:=MU (pth 0 0 (base.map Jg) (v.map Jg))
  ⟨v,Eh (aL base) (aL v) m 0 (λ_=>[]),Js m (λ_=>-1)⟩
def Jd(f:List Str->Nat->Option Tree->Option Tree->Option Tree->Mo)(path:List Str)(n:Nat)(base:List Tree)(x y:By):Nat->List Tree × List Cf
  | 0=>([],[])
  | j + 1 =>
    let a:=Jd f path n base x y j
    let p:=He path j (n+aL a.2) (x.put j) (y.put j)
    let q:=f (path++[Lib.itoa j]) (n+aL (a.2++p.2)) base[j]? (x.item j) (y.item j)
    (a.1++p.1++q.1.toList,a.2++p.2++q.2)
def Rq(f:List Str->Nat->Option Tree->Option Tree->Option Tree->Mo)(path:List Str)(n:Nat)(base:List Tree)(x y:By):Mo :=
  let a:=Jd f path n base x y (aL base)
  let p:=He path (aL base) (n+aL a.2) (x.put (aL base)) (y.put (aL base))
  (some (.node 5 [] [] (a.1++p.1)),a.2++p.2)
def L9(f:List Str->Nat->Option Tree->Option Tree->Option Tree->Mo)(path:List Str)(n:Nat)(b l r:Tree):Mo :=
  let ks:=Ec [l.keys,r.keys]
  let a:=Cd (λk m=>f (path++[k]) m (Hd b k) (Hd l k) (Hd r k)) n ks (aL ks)
  (some (.node 6 [] (a.1.map (·.1)) (a.1.map (·.2))),a.2)
def Qi(m:List (Str × Tree))(id:Str):Tree:=(Wb (m.map (·.1)) (m.map (·.2)) id).getD zeroT
def Av(f:List Str->Nat->Option Tree->Option Tree->Option Tree->Mo)(path:List Str)(n:Nat)(key:Str)(b l r:Tree):Mo :=
  let ids:=Ec [Jb l key,Jb r key]
  let a:=Cd (λid m=>f (path++[Wi id]) m (Pb b key id) (Pb l key id) (Pb r key id)) n ids (aL ids)
  match Pf (Jb b key) (Jb l key) (Jb r key) (a.1.map (·.1))with
  | some o=>(some (.node 5 [] [] (o.map (Qi a.1))),a.2)
  | none=>Fj path 6 n (some b) (some l) (some r)
def LI(key:Str)(b l r:Tree):Bool:=(Fl b key).isSome&&((Fl l key).isSome&&(Fl r key).isSome)
def Sf(rl:List Rl)(f:List Str->Nat->Option Tree->Option Tree->Option Tree->Mo)(path:List Str)(n:Nat)(b l r:Tree):Mo :=
  match Lh rl path with
  | some key=>if LI key b l r=true then Av f path n key b l r else gapM
  | none=>gapM
where gapM:Mo:=if Pe b.items=0/\Pe l.items=0/\Pe r.items=0 then Rq f path n b.items (Fc b.items l.items) (Fc b.items r.items) else Fj path 1 n (some b) (some l) (some r)
def Lo(rl:List Rl)(f:List Str->Nat->Option Tree->Option Tree->Option Tree->Mo)(path:List Str)(n:Nat):Option Tree->Option Tree->Option Tree->Mo
  | some x, some y, some z =>
    if x.kind=y.kind/\x.kind=z.kind then
      if x.kind=6 then L9 f path n x y z else if x.kind=5 then Sf rl f path n x y z else Fj path 1 n (some x) (some y) (some z)
    else Fj path 2 n (some x) (some y) (some z)
  | b,l,r=>Fj path (Wj b l r) n b l r
def Je(rl:List Rl):Nat->List Str->Nat->Option Tree->Option Tree->Option Tree->Mo
  | 0,_,_,_,l,_=>(l,[])
  | F+1,path,n,b,l,r=>if Ih l r=true then (l,[]) else if Ih b l=true then (r,[]) else if Ih b r=true then (l,[]) else Lo rl (Je rl F) path n b l r
def PG(x:Rl):Bool:=Lib.validD x.key&&(decide (aL x.pat<=64)&&x.pat.all Lib.validD)
def O3(rl:List Rl):Bool:=decide (rl.length<=32)&&rl.all PG
def UR(q:Mo):Tree × List Cf × Int:=if Fd (q.1.getD zeroT)=true then (q.1.getD zeroT,q.2,0) else (zeroT,[],6)
def okM(rl:List Rl)(b l r:Tree):Prop:=Ob b=true/\Ob l=true/\Ob r=true/\O3 rl=true
instance (rl:List Rl) (b l r:Tree):Decidable (okM rl b l r):=inferInstanceAs (Decidable (_/\_/\_/\_))
def Qe(rl:List Rl)(b l r:Tree):Tree × List Cf × Int:=if okM rl b l r then UR (Je rl 40 [] 0 (some b) (some l) (some r)) else (zeroT,[],1)
def Jo(x:Tv){w0:World}:Calls prog 24 #[.agg (x.cells).toArray] w0 (Qb λv w'=>v=.agg #[.bool true,J (x.k),I (x.t),.slice x.A x.n x.c,.slice x.B x.m x.e]/\Same [] w0 w'):=by
 refine Ga func24 ntmps24 ?_;intro hF;refine rn 3 ?_;rintro b1 w hb1 hF -;refine rn 1 ?_;rintro b2 w hb2 hF -;refine rn 5<|Ca (w':=w) (v:=.agg #[.bool true,J x.k,I x.t,.slice x.A x.n x.c,.slice x.B x.m x.e]) Gb ?_;refine rn 1 ?_;rintro w hF -;refine rn 3 ?_;exact⟨O,hF.same⟩
structure SdOk (s:Sd):Prop where
  sz:Ka s.val<=1000000000
  ok:Sz s.val
def noS_ok:SdOk noS:=⟨by simp[noS,zeroT,Ka,Qa],by simp[noS,zeroT,Sz,BL]⟩
def DF(a b:Sd):Bool:=(a.has==b.has)&&(!a.has || Zn a.val b.val)
theorem V8(a b:Sd)(x y:Sv)(S S':Nat->Prop)(w0:World)(hX:Rep S w0 (Xc a) x.cells)(hY:Rep S' w0 (Xc b) y.cells)(ha:SdOk a)(hb:SdOk b)(hG:Gl w0):Calls prog 42 #[.agg (x.cells).toArray,.agg (y.cells).toArray] w0 (Qb λv w'=>v=.bool (DF a b)/\Same [] w0 w'):=by
 have hx:=Nc hX;have hy:=Nc hY;refine Ga func42 ntmps42 ?_;intro hF;refine rn 3 ?_;rintro b1 w hb1 hF -;refine rn 1 ?_;rintro b2 w hb2 hF -;refine rn 9<|Ca (v:=.bool<|(x.h)==(y.h)) (NS underlying4 O O) ?_;refine rn 2 ⟨λhg0=>?_,λhg0=>?_⟩;refine rn 5 ⟨λhg1=>?_,λhg1=>?_⟩;refine rn 11 ⟨?_,hF.same⟩;rw[DF,<-hx.1,<-hy.1]
 first|(cases h1:x.h <;> cases h2:y.h <;> simp_all)|(simp_all)
 refine rn 4<|Sa (MH a.val b.val ha.sz hb.sz _ _ _ x.v.cells y.v.cells (hF.rep hx.2.2.2.2) (hF.rep hy.2.2.2.2) ha.ok hb.ok<|hG.ext hF.same) ?_;rintro w hF -;refine rn 6 ⟨?_,hF.same⟩;rw[DF,<-hx.1,<-hy.1]
 first|(cases h1:x.h <;> cases h2:y.h <;> simp_all)|(simp_all)
 refine rn 15 ⟨?_,hF.same⟩;rw[DF,<-hx.1,<-hy.1]
 first|(cases h1:x.h <;> cases h2:y.h <;> simp_all)|(simp_all)
theorem Tl(s:Sd)(x:Sv)(S:Nat->Prop){w0:World}(hX:Rep S w0 (Xc s) x.cells)(hs:SdOk s)(hG:Gl w0):Calls prog 43 #[.agg x.cells.toArray] w0 (Qb λv w'=>∃y:Sv,v=.agg y.cells.toArray/\Rep (Btw w0 w') w' (Xc (Ro s)) y.cells/\Same [] w0 w'):=by
 have hx:=Nc hX;refine Ga func43 ntmps43 ?_;intro hF;refine rn 3 ?_;rintro b1 w hb1 hF -;refine rn 1 ?_;rintro b2 w hb2 hF -;refine rn 11 ⟨λhc0=>?_,λhc0=>?_⟩;have h0:s.has=false:=by rw[<-hx.1];simpa using hc0
 refine rn 2<|Ca (w':=w) (v:=.agg #[.bool false,J 0,I [],aQ,aQ]) Gb ?_;refine rn 1 ?_;rintro w hF -;refine rn 3 ?_;have e:Ro s=noS:=by rw[Ro,tQ (by rw[h0];decide)]
 rw[e];exact⟨⟨false,YY⟩,O,L8,hF.same⟩;have h0:s.has=true:=by rw[<-hx.1];simpa using hc0
 refine rn 6<|Gc (DI s.val hs.sz _ _ x.v.cells (hF.rep hx.2.2.2.2) hs.ok<|hG.ext hF.same) ?_;rintro _ w ⟨ct,rfl,hRt,hE⟩;obtain⟨q,rfl,-⟩:=Hk hRt;have hYX:=RX.made (ids:=[b2,b1]) hF.same.size (λx hx=>hF.lt_ids qK) hRt;have hF:=hF.ext hE;clear hE hRt;refine Sa (Jo q) ?_;intro w hF hE;have hYX:=hYX.ext hE;refine rn 1 ?_;intro w hF hE;have hYX:=hYX.store hE qK;refine rn 3 ?_;have e:Ro s=⟨true,I6 s.val⟩:=by rw[Ro,uQ h0]
 rw[e]
 ·exact⟨⟨true,q⟩,O,Sj (s:=⟨true,I6 s.val⟩) hYX.done,hF.same⟩
def W7(b l r:Sd):Int:=if b.has=false then 4 else if l.has=false\/r.has=false then 3 else if b.val.kind=l.val.kind/\b.val.kind=r.val.kind then 1 else 2
theorem Uk{w:World}{b:Sd}(h:Rep S w (Ur b l r) (th x y z)):Rep S w (Xc b) x.cells/\Rep S w (Xc l) y.cells/\Rep S w (Xc r) z.cells:=by
  unfold Ur at h;rw[Rep]at h;obtain⟨c1,d1,e1,h1,h⟩:=RepL.cons_inv h;obtain⟨c2,d2,rfl,h2,h⟩:=RepL.cons_inv h;obtain⟨c3,d3,rfl,h3,h⟩:=RepL.cons_inv h;obtain rfl:=RepL.nil_inv h;have l1:=h1.length.trans<|Pp b;have l2:=h2.length.trans<|Pp l;have l3:=h3.length.trans<|Pp r
  match c1,l1,c2,l2,c3,l3 with
  | [a0,a1,a2,a3,a4],_,[b0,b1,b2,b3,b4],_,[u0,u1,u2,u3,u4],_=>grind
def Yn{w:World}{b:Sd}(h1:Rep S w (Xc b) x.cells)(h2:Rep S w (Xc l) y.cells)(h3:Rep S w (Xc r) z.cells):Rep S w (Ur b l r) (th x y z):=by
  unfold Ur;rw[Rep];exact RepL.cons_mk h1<|RepL.cons_mk h2<|RepL.cons_mk h3 RepL.nil_mk
theorem class_c(b l r:Sd)(x y z:Sv)(S:Nat->Prop)(w0:World)(hX:Rep S w0 (Xc b) x.cells)(hY:Rep S w0 (Xc l) y.cells)(hZ:Rep S w0 (Xc r) z.cells):Calls prog 44 #[.agg (th x y z).toArray] w0 (Qb λv w'=>v=J (W7 b l r)/\Same [] w0 w'):=by
  have hx:=Nc hX;have hy:=Nc hY;have hz:=Nc hZ;refine Ga func44 ntmps44 ?_;intro hF;refine rn 3 ?_;intro b1 w hb1 hF hE;refine rn 24 ⟨λhc0=>?_,λhc0=>?_⟩
  ·
   refine rn 6 ⟨?_,hF.same⟩;rw[W7,<-hx.1,<-hy.1,<-hz.1,<-hx.2.1,<-hy.2.1,<-hz.2.1];simp_all
  refine rn 8 ⟨λhg0=>?_,λhg0=>?_⟩
  ·
   refine rn 15 ⟨?_,hF.same⟩;rw[W7,<-hx.1,<-hy.1,<-hz.1,<-hx.2.1,<-hy.2.1,<-hz.2.1];simp_all
  refine rn 9 ⟨λhc1=>?_,λhc1=>?_⟩
  ·
   refine rn 6 ⟨?_,hF.same⟩;rw[W7,<-hx.1,<-hy.1,<-hz.1,<-hx.2.1,<-hy.2.1,<-hz.2.1];simp_all
  refine rn 10 ⟨λhg1=>?_,λhg1=>?_⟩
  ·
   refine rn 11 ⟨λhc2=>?_,λhc2=>?_⟩
   ·
    refine rn 6 ⟨?_,hF.same⟩;rw[W7,<-hx.1,<-hy.1,<-hz.1,<-hx.2.1,<-hy.2.1,<-hz.2.1];simp_all
   refine rn 9 ⟨?_,hF.same⟩;rw[W7,<-hx.1,<-hy.1,<-hz.1,<-hx.2.1,<-hy.2.1,<-hz.2.1];simp_all
  refine rn 20 ⟨?_,hF.same⟩;rw[W7,<-hx.1,<-hy.1,<-hz.1,<-hx.2.1,<-hy.2.1,<-hz.2.1];simp_all
def Ow(path:List Str)(k:Str)(PA:Option Addr)(pc:Nat)(S:Nat->Prop)(w0:World)(hP:Rep S w0 (Ya path) [.slice PA (aL path) pc])(hk:aL k<=9223372036854775807)(hpl:aL path<=1000):Calls prog 75 #[.slice PA (aL path) pc,I k] w0 (Qb λv w'=>∃A c,v=.slice A (aL (path++[k])) c/\Rep (Btw w0 w') w' (Ya (path++[k])) [.slice A (aL (path++[k])) c]/\Same [] w0 w'):=by
 obtain⟨eP,hrP,hPl,hPc⟩:=hP.slice_open<|M4 path;refine Ga func75 ntmps75 ?_;intro hF;refine rn 8<|Gc (O5 (aL path) PA pc eP _ hPl (Lie.ext hPc hF.same) hrP.one_ kX) ?_;rintro _ w ⟨A1,c1,sb,rfl,hS,hh2,hE⟩;have hF:=hF.extseg hE hh2 hS.pw;refine rn 2 ?_;rintro b1 w hb1 hF -;refine LC hS (len':=aL (path++[k])) (ys:=eP++[I k]) Da (O) ?_;intro A0 c0 p_0 w hS0_p hF hE hnew;refine rn 4 ?_;have hK:RX w0 [] w ((path++[k]).map Ai) (eP++[I k]):=by rw[jQ];exact RepL.append hrP.lits<|RepL.cons_mk (c2:=[]) (Rep.lit_mk (v:=I k) hk) RepL.nil_mk
 exact⟨_,_,O,hS0_p.rep (pre:=[_]) (post:=[]) hF hK Da,hF.same⟩
theorem FR.ltD{w0 w:World}{i L:List Nat}{bs_:List (Nat × Obj)}(hF:FR w0 E bs_ w)(hib:∀x∈i,8<=x/\x<w0.heap.size)(hL:∀x∈L,x∈bs_.map (·.1)):∀x∈L++i,x<w.heap.size:=λx hx=>by
  rcases mQ.1 hx with h|h
  ·exact hF.lt_ids<|hL x h
  exact Nat.lt_of_lt_of_le (hib x h).2 hF.same.size
structure Mi (i:List Nat) (w:World) (sm:List (Nat × Obj)) (pb:Nat) (RV:Value) (cfs:List Cf):Prop where
  m:Mx i w sm pb RV cfs
  hh:∀q∈sm,w.heap[q.1]? = some q.2
  sub:∀x∈ids sm,x∈i
  low:∀x∈i,8<=x/\x<w.heap.size
theorem Mi.start{i:List Nat}{w:World}{sm:List (Nat × Obj)}{pb:Nat}{RV:Value}{cfs:List Cf}(h:Mi i w sm pb RV cfs):FR w (ids sm) ([]++(sm++[])) w:=h.m.start h.hh
structure Mo' (i:List Nat) (w:World) (sm:List (Nat × Obj)) (w':World) (sm':List (Nat × Obj)) (pb:Nat) (RV:Value) (cfs:List Cf):Prop where
  m:Mx (i++ids sm') w' sm' pb RV cfs
  hh:∀q∈sm',w'.heap[q.1]? = some q.2
  mc:Mc w sm w' sm'
theorem Nz(path:List Str)(cls:Int)(b l r:Sd)(x y z:Sv)(PA:Option Addr)(pc:Nat)(SP S:Nat->Prop)(w0:World)(sm:List (Nat × Obj))(pb:Nat)(RV:Value)(cfs:List Cf)(i:List Nat)(hM:Mi i w0 sm pb RV cfs)(hOp0:Off SP w0 sm)(hOf0:Off S w0 sm)(hP:Rep SP w0 (Ya path) [.slice PA (aL path) pc])(hT:Rep S w0 (Ur b l r) (th x y z))(hb:SdOk b)(hl:SdOk l)(hr:SdOk r)(hn:aL cfs<1000)(hpl:aL path<=1000)(hc0:0<=cls/\cls<=10)(hG:Gl w0):Calls prog 45 #[V pb,.slice PA (aL path) pc,J cls,.agg (th x y z).toArray] w0 (Qb λv w'=>∃sm',v=.agg #[.bool true,J 7,I (Il (aL cfs)),aQ,aQ]/\Mo' i w0 sm w' sm' pb RV (cfs++[⟨path,cls,Ro b,Ro l,Ro r⟩])):=by
 have hPl0:=hP.slice_len;obtain⟨hx,hy,hz⟩:=Uk hT;have hF:=hM.start;have hib:=hM.low;have hi:=hM.sub;obtain⟨E,hD⟩:∃E,E=ids sm:=⟨_,rfl⟩;have h8:∀b∈E,8<=b:=λb hb=>(hib b<|hi b (by rw[<-hD];exact hb)).1;have hOf:∀b,S b->b<w0.heap.size/\b∉E:=λb hb=>by rw[hD];exact hOf0 b hb
 have hOp:∀b,SP b->b<w0.heap.size/\b∉E:=λb hb=>by rw[hD];exact hOp0 b hb
 rw[<-hD]at hF;obtain⟨A,c,sl,vals,rfl,hS,hX⟩:=hM.m.ex;have hpb:pb∈i:=hi pb zQ;have hsl:∀x∈sl.map (·.1),x∈i:=λx hx=>hi x<|gZ _ hx;have hF:FR w0 E ([(pb,(.cells #[RV,.slice A (aL cfs) c] 57))]++(sl++[])) w0:=hF;refine Bc func45 ntmps45 O O ?_
 skip
 refine rn 3 ?_;intro b1 w hb1 hF hE;have hX:=hX.alloc hE hb1;refine rn 1 ?_;intro b2 w hb2 hF hE;have hX:=hX.alloc hE hb2;refine rn 9<|Sa (num_c (aL cfs:Int) kX kX _<|hG.same hF.same h8) ?_;intro w hF hE;have hX:=hX.ext hE;refine Ca (w':=w) (v:=I<|Ij<|CQ (aL cfs:Int)) Gb<|Ca (w':=w) (v:=.agg #[J 7,I<|Ij<|CQ (aL cfs:Int),aQ,aQ]) Gb ?_;refine rn 1 ?_;intro b3 w hb3 hF hE;have hX:=hX.alloc hE hb3;refine rn 3<|Yb ⟨[22],λwq=>FR w0 E [(b3,.cells #[J 7,I<|Ij<|CQ (aL cfs:Int),aQ,aQ] 25),(b2,.cells #[.bool false,J 0,I [],aQ,aQ] 36),(b1,.cells ((th x y z)).toArray 61)] wq,[20]⟩ (bQ [0,1,2,3,4,5,7,8,9,11,12,14,15]<|cQ [6,10,13,16]<|.free 17<|.act 18<|.act 19<|.free 20<|.free 21<|.act 22 .nil) hF ?_;intro w hF hE;have hX:=hX.ext hE;refine⟨λwq=>FR w0 E [(b3,.cells #[J 7,I<|Ij<|CQ (aL cfs:Int),aQ,aQ] 25),(b2,.cells #[.bool false,J 0,I [],aQ,aQ] 36),(b1,.cells ((th x y z)).toArray 61),(pb,.cells #[RV,.slice A (aL cfs) c] 57)] wq,hF.mid 0 4,?_⟩;refine rn 8 ?_;refine Fa O (v:=.agg (x.cells).toArray) (λw hC=>Pa (l:=x.cells) qZ vZ O O<|hC.part 2 0 O O)<|rn 1 ?_;refine Fa O (v:=.agg (y.cells).toArray) (λw hC=>Pa (l:=y.cells) qZ vZ O O<|hC.part 2 5 O O)<|rn 1 ?_;refine Fa O (v:=.agg (z.cells).toArray) (λw hC=>Pa (l:=z.cells) qZ vZ O O<|hC.part 2 10 O O) ?_;obtain⟨eP,hrP,hPl,hPc⟩:=(hF.repE hOp hP).slice_open (M4 path);refine Bf (O5 (aL path) PA pc eP _ hPl (λh=>by obtain⟨ad,e,hc⟩:=hPc h;exact⟨ad,e,hc⟩) hrP.one_ kX) ?_;rintro _ w hcl;obtain⟨Ap,cp,rfl,hKt,hE⟩:=F7 hcl hrP;have hPX:=RX.made (ids:=[b3,b2,b1]++i) hF.same.size (hF.ltD hib Da) hKt;have hF:=hF.ext hE;have hX:=hX.ext hE;clear hE hcl hKt hrP hPc;refine⟨hF.su,?_⟩;refine Bf (Tl b x S (hF.repE hOf hx) hb<|hG.same hF.same h8) ?_;rintro _ w ⟨y0,rfl,hRt,hE⟩
 have hY0:=RX.made (ids:=[b3,b2,b1]++i) hF.same.size (hF.ltD hib Da) hRt;have hF:=hF.ext hE;have hX:=hX.ext hE;have hPX:=hPX.ext hE;clear hE hRt;refine⟨hF.su,?_⟩;refine Bf (Tl l y S (hF.repE hOf hy) hl<|hG.same hF.same h8) ?_;rintro _ w ⟨y1,rfl,hRt,hE⟩;have hY1:=RX.made (ids:=[b3,b2,b1]++i) hF.same.size (hF.ltD hib Da) hRt;have hF:=hF.ext hE;have hX:=hX.ext hE;have hPX:=hPX.ext hE;have hY0:=hY0.ext hE;clear hE hRt;refine⟨hF.su,?_⟩;refine Bf (Tl r z S (hF.repE hOf hz) hr<|hG.same hF.same h8) ?_;rintro _ w ⟨y2,rfl,hRt,hE⟩;have hY2:=RX.made (ids:=[b3,b2,b1]++i) hF.same.size (hF.ltD hib Da) hRt;have hF:=hF.ext hE;have hX:=hX.ext hE;have hPX:=hPX.ext hE;have hY0:=hY0.ext hE;have hY1:=hY1.ext hE;clear hE hRt;refine⟨hF.su,?_⟩;refine Fa O (v:=.agg #[.slice Ap (aL path) cp,J cls,.bool y0.h,J y0.v.k,I y0.v.t,.slice y0.v.A y0.v.n y0.v.c,.slice y0.v.B y0.v.m y0.v.e,.bool y1.h,J y1.v.k,I y1.v.t,.slice y1.v.A y1.v.n y1.v.c,.slice y1.v.B y1.v.m y1.v.e,.bool y2.h,J y2.v.k,I y2.v.t,.slice y2.v.A y2.v.n y2.v.c,.slice y2.v.B y2.v.m y2.v.e]) (λw hC=>by kernel_rfl)<|rn 1 ?_;intro b4 w hb4 hF hE;have hX:=hX.alloc hE hb4;have hPX:=hPX.alloc hE hb4;have hY0:=hY0.alloc hE hb4;have hY1:=hY1.alloc hE hb4;have hY2:=hY2.alloc hE hb4;refine X7 hS (len':=aL cfs+1) (ys:=vals++[.slice Ap (aL path) cp,J cls,.bool y0.h,J y0.v.k,I y0.v.t,.slice y0.v.A y0.v.n y0.v.c,.slice y0.v.B y0.v.m y0.v.e,.bool y1.h,J y1.v.k,I y1.v.t,.slice y1.v.A y1.v.n y1.v.c,.slice y1.v.B y1.v.m y1.v.e,.bool y2.h,J y2.v.k,I y2.v.t,.slice y2.v.A y2.v.n y2.v.c,.slice y2.v.B y2.v.m y2.v.e]) (O) (O) ?_;intro A0 c0 s_0 w hS0_s hF hE hnew;have hX:=hX.grow hE hnew jR;have hPX:=hPX.grow hE hnew jR
 have hY0:=hY0.grow hE hnew jR;have hY1:=hY1.grow hE hnew jR;have hY2:=hY2.grow hE hnew jR;refine rn 3 ?_;intro w hF hE;have hX:=hX.store hE qK;have hPX:=hPX.store hE qK;have hY0:=hY0.store hE qK;have hY1:=hY1.store hE qK;have hY2:=hY2.store hE qK;refine rn 5<|Sa (Jo ⟨7,Il (aL cfs),none,0,0,none,0,0⟩) ?_;intro w hF hE;have hX:=hX.ext hE;have hPX:=hPX.ext hE;have hY0:=hY0.ext hE;have hY1:=hY1.ext hE;have hY2:=hY2.ext hE;refine rn 1 ?_;intro w hF hE;have hX:=hX.store hE qK;have hPX:=hPX.store hE qK;have hY0:=hY0.store hE qK;have hY1:=hY1.store hE qK;have hY2:=hY2.store hE qK;refine rn 3 ?_;have hN:=hPX.append<|(RX.plain (ds:=[Oe cls]) (cs:=[J cls]) λ_=>RepL.cons_mk (c2:=[]) (Rep.lit_mk (v:=J cls) (show W2 _ from⟨(by omega:(-9223372036854775808:Int)<=cls),(by omega:cls<=9223372036854775807)⟩)) RepL.nil_mk).append (hY0.append<|hY1.append hY2);have hN2:=(RX.one<|Rep.agg_mk hN).empty w;have hX2:=(hX.empty w).append hN2
 skip
 refine⟨(pb,.cells #[RV,.slice A0 (aL cfs+1) c0] 57)::s_0,O,⟨⟨A0,c0,s_0,_,by rw[dQ];rfl,by rw[dQ];exact hS0_s,?_⟩,λq hq=>(FR.segs_of (pre:=[_,_,_,_]) (post:=[]) hF q hq).1,?_⟩⟩;rw[jQ];exact hX2.sub (λx hx=>by simp only[ids,jZ,mQ,oQ]at hx ⊢;grind);subst hD;exact FR.toMc (pre:=[_,_,_,_]) (post:=[]) hF
def NX(si:Int):Option Nat:=if si<0 then none else some si.toNat
structure MtI (p q:List Str) (R:Bool) (f i k:Nat) (si:Int) (tk:Nat):Prop where
  res:mtF p q f ⟨i,k,NX si,tk⟩=R
  fuel:mtM p q ⟨i,k,NX si,tk⟩<f
  ip:i<=aL p
  kq:k<=aL q
  tk:tk<=k
  lo:-1<=si
  hi:si<i
theorem EQ{a X:Nat}(h:a+1<=b):a*X+X<=b*X:=by
  have:=Nat.mul_le_mul_right X h;grind
section
variable {p q:List Str}{R:Bool}{f i k tk:Nat}{si:Int}
theorem MtI.start(h1:aL p<=200)(h2:aL q<=200):MtI p q (Jp p q) 10000000 0 0 (-1) 0:=by
  refine⟨?_,?_,cZ _,cZ _,gQ _,by_Om,by_Om⟩
  ·unfold Jp
   rw[fZ h1,fZ h2,Bool.true_and,Bool.true_and];rfl
  have e : NX (-1) = none := rfl;rw[e,mtM];simp only[if_true,Nat.sub_zero];have a1:(aL p+1)*((aL q+1)*(aL q+1))<=201*(201*201):=Nat.mul_le_mul kX<|Nat.mul_le_mul kX kX;have a2:aL q*(aL q+1)<=200*201:=Nat.mul_le_mul kX kX;omega
theorem MtI.step(h:MtI p q R f i k si tk)(hk:k<aL q):∃f',f=f'+1/\(match mtN p q ⟨i,k,NX si,tk⟩with|some m'=>mtF p q f' m'|none=>false)=R:=by
  obtain⟨f',rfl⟩:∃g,f=g+1:=⟨f-1,by have:=h.fuel;omega⟩;have hr:=h.res;grind [mtF]
theorem MtI.star(h:MtI p q R f i k si tk)(hk:k<aL q)(hi:i<aL p)(e:p[i]=[42,42]):MtI p q R (f-1) (i+1) k (i:Int) k:=by
  obtain⟨f',rfl,hr⟩:=h.step hk;have eN:mtN p q ⟨i,k,NX si,tk⟩=some ⟨i+1,k,some i,k⟩:=by rw[mtN,uQ];rw[List.getElem?_eq_getElem hi,e];rfl
  have es:NX (i:Int)=some i:=by grind [NX]
  rw[eN]at hr;refine⟨by rw[es];exact hr,?_,by_Om,h.kq,gQ _,by_Om,by_Om⟩;have hf:=h.fuel;rw[es];have X:(aL q-k)*(aL q+1)+(aL q-k)<(aL q+1)*(aL q+1):=by
    have:=Nat.mul_le_mul_right (aL q+1)<|Nat.sub_le (aL q) k;grind
  have h1:=h.hi;by_cases hs:si<0
  ·rw[show NX si = none from uQ hs]at hf
   unfold mtM at hf ⊢;simp only[reduceCtorEq,if_false,if_true,Nat.add_zero,Nat.sub_zero]at hf ⊢;have Z:=EQ (X:=(aL q+1)*(aL q+1)) (a:=aL p-i) (b:=aL p+1) kX;omega
  rw[show NX si = some si.toNat from tQ hs]at hf;unfold mtM at hf ⊢;simp only[reduceCtorEq,if_false,Nat.add_zero]at hf ⊢;have Z:=EQ (X:=(aL q+1)*(aL q+1)) (a:=aL p-i) (b:=aL p-si.toNat) kX;omega
theorem MtI.one(h:MtI p q R f i k si tk)(hk:k<aL q)(hi:i<aL p)(n:¬p[i]=[42,42])(e:p[i]=[42]\/p[i]=q[k]):MtI p q R (f-1) (i+1) (k+1) si tk:=by
  obtain⟨f',rfl,hr⟩:=h.step hk;have eN:mtN p q ⟨i,k,NX si,tk⟩=some ⟨i+1,k+1,NX si,tk⟩:=by
    rw[mtN,tQ,uQ]
    ·simp only[List.getElem?_eq_getElem hi, List.getElem?_eq_getElem hk]
     rcases e with e|e
     ·exact .inl (by rw[e];rfl)
     grind
    simp only[List.getElem?_eq_getElem hi];exact λhh=>n<|lQ hh
  rw[eN]at hr;refine⟨hr,?_,by_Om,by_Om,by have:=h.tk;omega,h.lo,by have:=h.hi;omega⟩;have hf:=h.fuel;grind [mtM]
theorem MtI.other(n:∀hi:i<aL p,¬p[i]=[42,42]/\¬p[i]=[42]/\∀hk:k<aL q,¬p[i]=q[k])(hk:k<aL q){st:Option Nat}:mtN p q ⟨i,k,st,tk⟩=match st with|some s=>some ⟨s+1,tk+1,some s,tk+1⟩|none=>none:=by
  have g:¬p[i]? = some AE/\¬(p[i]? = some oneS\/(p[i]?≠none/\p[i]? = q[k]?)):=by
    by_cases hi:i<aL p
    ·obtain⟨n1, n2, n3⟩ := n hi
     rw[List.getElem?_eq_getElem hi,List.getElem?_eq_getElem hk];refine⟨λhh=>n1<|lQ hh,?_⟩;rintro (hh|⟨-,hh⟩)
     ·exact n2<|lQ hh
     grind
    grind
  show (if p[i]? = some AE then _ else if p[i]? = some oneS\/(p[i]?≠none/\p[i]? = q[k]?) then _ else _)=_;grind
theorem MtI.back(h:MtI p q R f i k si tk)(hk:k<aL q)(n:∀hi:i<aL p,¬p[i]=[42,42]/\¬p[i]=[42]/\∀hk:k<aL q,¬p[i]=q[k])(hs:0<=si):MtI p q R (f-1) (si.toNat+1) (tk+1) si (tk+1):=by
  obtain⟨f',rfl,hr⟩:=h.step hk;have es:NX si=some si.toNat:=by grind [NX]
  rw[MtI.other n hk,es]at hr;have h1:=h.hi;have h2:=h.ip;have h3:=h.tk;refine⟨by rw[es];exact hr,?_,by_Om,by_Om,gQ _,h.lo,by_Om⟩;have hf:=h.fuel;rw[es]at hf ⊢;unfold mtM at hf ⊢;simp only[reduceCtorEq,if_false,Nat.add_zero]at hf ⊢;have:=EQ (X:=aL q+1) (a:=aL q-(tk+1)) (b:=aL q-tk) kX;omega
theorem MtI.no(h:MtI p q R f i k si tk)(hk:k<aL q)(n:∀hi:i<aL p,¬p[i]=[42,42]/\¬p[i]=[42]/\∀hk:k<aL q,¬p[i]=q[k])(hs:¬0<=si):R=false:=by
  obtain⟨f',rfl,hr⟩:=h.step hk;grind [NX,MtI.other]
structure MtJ (p:List Str) (R:Bool) (j:Nat):Prop where
  jp:j<=aL p
  res:((p.drop j).all λs=>decide (s=AE))=R
def MtI.done(h:MtI p q R f i k si tk)(hk:¬k<aL q):MtJ p R i:=by
  obtain⟨f',rfl⟩:∃g,f=g+1:=⟨f-1,by have:=h.fuel;omega⟩;have hr:=h.res;rw[mtF,tQ hk]at hr;exact⟨h.ip,hr⟩
def MtJ.next{j:Nat}(h:MtJ p R j)(hj:j<aL p)(e:p[j]=[42,42]):MtJ p R (j+1):=by
  refine⟨hj,?_⟩;have:=h.res;rw[List.drop_eq_getElem_cons hj,List.all_cons,e]at this;exact this
theorem MtJ.end{j:Nat}(h:MtJ p R j)(n:∀hj:j<aL p,¬p[j]=[42,42]):decide ((j:Int)=(aL p:Int))=R:=by
  have hr:=h.res;by_cases hj:j<aL p
  ·rw[List.drop_eq_getElem_cons hj, List.all_cons, show decide (p[j] = AE) = false from eZ<|n hj, Bool.false_and]at hr
   grind
  have e : j = (aL p) := by have := h.jp;omega
  grind
theorem CB(h:¬(aL p<=200/\aL q<=200)):Jp p q=false:=by grind [Jp]
end
def match_c(p q:List Str)(A B:Option Addr)(c e:Nat)(S S':Nat->Prop)(w0:World)(hP:Rep S w0 (Ya p) [.slice A (aL p) c])(hQ:Rep S' w0 (Ya q) [.slice B (aL q) e]):Calls prog 102 #[.slice A (aL p) c,.slice B (aL q) e] w0 (Qb λv w'=>v=.bool (Jp p q)/\Same [] w0 w'):=by
 have hPl:=hP.slice_len;have hQl:=hQ.slice_len;refine Ga func102 ntmps102 ?_;intro hF;refine rn 13 ⟨λhg0=>?_,λhg0=>?_⟩
 ·
  refine rn 13 ?_;exact⟨by rw[CB kX],hF.same⟩
 refine rn 7 ⟨λhc0=>?_,λhc0=>?_⟩
 ·
  refine rn 6 ?_;exact⟨by rw[CB kX],hF.same⟩
 refine rn 12<|Wa (λμ σ w=>∃(f:Nat),∃(i:Nat),∃(k:Nat),∃(si:Int),∃(tk:Nat),μ=f/\(MtI p q (Jp p q) f i k si tk)/\AllEq σ [(0,.slice A (aL p) c),(1,.slice B (aL q) e),(5,J<|(i:Int)),(6,J<|(k:Int)),(7,J si),(8,J<|(tk:Int))]/\FR w0 [] [] w) _ ⟨10000000,0,0,-1,0,O,MtI.start kX kX,Ib,hF⟩ ?_;rintro μ σ w ⟨f,i,k,si,tk,rfl,hm,hzz,hF⟩;have hmf:=hm.fuel;have hmi:=hm.ip;have hmk:=hm.kq;have hml:=hm.lo;have hmh:=hm.hi;have hmt:=hm.tk;refine Tf hzz 10 ⟨λhc1=>?_,λhc1=>?_⟩
 ·
  refine rn 12 ⟨λhg1=>?_,λhg1=>?_⟩
  ·
   refine rn 2 ?_;obtain⟨ad2,hA2,hk2,hx2⟩:=hP.str_elem (i:=i) kX;refine Ca (v:=.pointer<|some<|ad2.add<|i*1) (Ea (i:=(i:Int)) Nd hA2)<|Ca (v:=I<|p[i]) (Ma sZ<|hF.cell0 hk2) ?_;refine rn 6 ⟨λhc2=>?_,λhc2=>?_⟩
   ·
    refine rn 10<|Kc (Ce<|((i+1:Nat):Int)) ?_;refine rn 4 ?_;refine Ja ⟨_,?_,μ-1,i+1,k,(i:Int),k,rfl,hm.star kX kX jH,Ib,hF⟩;omega
   refine rn 1<|Wd (zs:=.of []) (bQ [0,1,2,3,4,5,6,7,8,9,10,11,12,13,14,15,16,17,18,19,20,21,22] .nil) hF ?_;intro w hF;refine rn 6 ⟨λhg3=>?_,λhg3=>?_⟩
   ·
    refine rn 2 ?_;obtain⟨ad4,hA4,hk4,hx4⟩:=hP.str_elem (i:=i) kX;refine Fa O (v:=.pointer<|some<|ad4.add<|i*1) (λw hC=>Ea (i:=(i:Int)) Nd hA4)<|Fa O (v:=I<|p[i]) (λw hC=>Ma sZ<|hC.cell0 hk4) ?_;refine rn 3 ⟨λhg5=>?_,λhg5=>?_⟩
    ·
     refine rn 17<|Kc (Ce<|((i+1:Nat):Int)) ?_;refine rn 1<|Kc (Ce<|((k+1:Nat):Int)) ?_;refine rn 5 ?_;refine Ja ⟨_,?_,μ-1,i+1,k+1,si,tk,rfl,hm.one kX kX jH zY,Ib,hF⟩;omega
    refine rn 2 ?_;obtain⟨ad6,hA6,hk6,hx6⟩:=hP.str_elem (i:=i) kX;refine Fa O (v:=.pointer<|some<|ad6.add<|i*1) (λw hC=>Ea (i:=(i:Int)) Nd hA6)<|Fa O (v:=I<|p[i]) (λw hC=>Ma sZ<|hC.cell0 hk6) ?_;refine rn 2 ?_;obtain⟨ad7,hA7,hk7,hx7⟩:=hQ.str_elem (i:=k) kX;refine Fa O (v:=.pointer<|some<|ad7.add<|k*1) (λw hC=>Ea (i:=(k:Int)) Nd hA7)<|Fa O (v:=I<|q[k]) (λw hC=>Ma sZ<|hC.cell0 hk7) ?_;refine rn 7 ⟨λhc3=>?_,λhc3=>?_⟩
    ·
     refine rn 2<|Kc (Ce<|((i+1:Nat):Int)) ?_;refine rn 1<|Kc (Ce<|((k+1:Nat):Int)) ?_;refine rn 5 ?_;refine Ja ⟨_,?_,μ-1,i+1,k+1,si,tk,rfl,hm.one kX kX jH zY,Ib,hF⟩;omega
    refine rn 8 ⟨λhc4=>?_,λhc4=>?_⟩
    ·
     refine rn 3<|Kc (Ce<|((tk+1:Nat):Int)) ?_;refine rn 5<|Kc (Ce<|((si.toNat+1:Nat):Int)) ?_;refine rn 6 ?_;refine Ja ⟨_,?_,μ-1,si.toNat+1,tk+1,si,tk+1,rfl,hm.back kX qM kX,Ib,hF⟩;omega
    refine rn 6 ?_;exact⟨by rw[hm.no kX qM kX],hF.same⟩
   refine rn 29 ⟨λhc4=>?_,λhc4=>?_⟩
   ·
    refine rn 3<|Kc (Ce<|((tk+1:Nat):Int)) ?_;refine rn 5<|Kc (Ce<|((si.toNat+1:Nat):Int)) ?_;refine rn 6 ?_;refine Ja ⟨_,?_,μ-1,si.toNat+1,tk+1,si,tk+1,rfl,hm.back kX qM kX,Ib,hF⟩;omega
   refine rn 6 ?_;exact⟨by rw[hm.no kX qM kX],hF.same⟩
  refine rn 11<|Wd (zs:=.of []) (bQ [0,1,2,3,4,5,6,7,8,9,10,11,12,13,14,15,16,17,18,19,20,21,22] .nil) hF ?_;intro w hF;refine rn 6 ⟨λhg8=>?_,λhg8=>?_⟩
  ·
   refine rn 2 ?_;obtain⟨ad9,hA9,hk9,hx9⟩:=hP.str_elem (i:=i) kX;refine Fa O (v:=.pointer<|some<|ad9.add<|i*1) (λw hC=>Ea (i:=(i:Int)) Nd hA9)<|Fa O (v:=I<|p[i]) (λw hC=>Ma sZ<|hC.cell0 hk9) ?_;refine rn 3 ⟨λhg10=>?_,λhg10=>?_⟩
   ·
    refine rn 17<|Kc (Ce<|((i+1:Nat):Int)) ?_;refine rn 1<|Kc (Ce<|((k+1:Nat):Int)) ?_;refine rn 5 ?_;refine Ja ⟨_,?_,μ-1,i+1,k+1,si,tk,rfl,hm.one kX kX jH zY,Ib,hF⟩;omega
   refine rn 2 ?_;obtain⟨ad11,hA11,hk11,hx11⟩:=hP.str_elem (i:=i) kX;refine Fa O (v:=.pointer<|some<|ad11.add<|i*1) (λw hC=>Ea (i:=(i:Int)) Nd hA11)<|Fa O (v:=I<|p[i]) (λw hC=>Ma sZ<|hC.cell0 hk11) ?_;refine rn 2 ?_;obtain⟨ad12,hA12,hk12,hx12⟩:=hQ.str_elem (i:=k) kX;refine Fa O (v:=.pointer<|some<|ad12.add<|k*1) (λw hC=>Ea (i:=(k:Int)) Nd hA12)<|Fa O (v:=I<|q[k]) (λw hC=>Ma sZ<|hC.cell0 hk12) ?_;refine rn 7 ⟨λhc3=>?_,λhc3=>?_⟩
   ·
    refine rn 2<|Kc (Ce<|((i+1:Nat):Int)) ?_;refine rn 1<|Kc (Ce<|((k+1:Nat):Int)) ?_;refine rn 5 ?_;refine Ja ⟨_,?_,μ-1,i+1,k+1,si,tk,rfl,hm.one kX kX jH zY,Ib,hF⟩;omega
   refine rn 8 ⟨λhc4=>?_,λhc4=>?_⟩
   ·
    refine rn 3<|Kc (Ce<|((tk+1:Nat):Int)) ?_;refine rn 5<|Kc (Ce<|((si.toNat+1:Nat):Int)) ?_;refine rn 6 ?_;refine Ja ⟨_,?_,μ-1,si.toNat+1,tk+1,si,tk+1,rfl,hm.back kX qM kX,Ib,hF⟩;omega
   refine rn 6 ?_;exact⟨by rw[hm.no kX qM kX],hF.same⟩
  refine rn 29 ⟨λhc4=>?_,λhc4=>?_⟩
  ·
   refine rn 3<|Kc (Ce<|((tk+1:Nat):Int)) ?_;refine rn 5<|Kc (Ce<|((si.toNat+1:Nat):Int)) ?_;refine rn 6 ?_;refine Ja ⟨_,?_,μ-1,si.toNat+1,tk+1,si,tk+1,rfl,hm.back kX qM kX,Ib,hF⟩;omega
  refine rn 6 ?_;exact⟨by rw[hm.no kX qM kX],hF.same⟩
 refine rn 4<|Wa (λμ σ w=>∃(j:Nat),μ=aL p-j/\(MtJ p (Jp p q) j)/\AllEq σ [(0,.slice A (aL p) c),(5,J<|(j:Int))]/\FR w0 [] [] w) _ ⟨i,O,hm.done kX,Ib,hF⟩ ?_;rintro μ σ w ⟨j,rfl,hj,hzz,hF⟩;have hjp:=hj.jp;refine Tf hzz 9 ⟨λhg13=>?_,λhg13=>?_⟩
 ·
  refine rn 2 ?_;obtain⟨ad14,hA14,hk14,hx14⟩:=hP.str_elem (i:=j) kX;refine Ca (v:=.pointer<|some<|ad14.add<|j*1) (Ea (i:=(j:Int)) Nd hA14)<|Ca (v:=I<|p[j]) (Ma sZ<|hF.cell0 hk14) ?_;refine rn 5 ⟨λhc5=>?_,λhc5=>?_⟩
  ·
   refine rn 5<|Kc (Ce<|((j+1:Nat):Int)) ?_;refine rn 3<|Ja ⟨_,?_,j+1,O,hj.next kX qW,Ib,hF⟩;omega
  refine rn 12 ?_;exact⟨xQ Value.bool<|hj.end (by intro hi;first|(exfalso;omega)|assumption),hF.same⟩
 refine rn 21 ?_;exact⟨xQ Value.bool<|hj.end (by intro hi;first|(exfalso;omega)|assumption),hF.same⟩
def HT(s:Str)(hl:aL s<=140737488355328)(w0:World)(hG:Gl w0):Calls prog 98 #[I s] w0 (Qb λv w'=>v=.bool (Lib.validD s)/\Same [] w0 w'):=by
 refine Ga func98 ntmps98 ?_;intro hF;refine rn 8<|Gc (K8 s hl _<|hG.ext hF.same) ?_;rintro _ w ⟨n,rfl,hE⟩;have hF:=hF.ext hE;refine rn 14 ?_;exact⟨O,hF.same⟩
def ptrCl_c(s:Str)(hl:aL s<=140737488355328)(w0:World)(hG:Gl w0):Calls prog 97 #[I s] w0 (Qb λv w'=>v=.bool (!(Lib.validD s))/\Same [] w0 w'):=by
 refine Ga func97 ntmps97 ?_;intro hF;refine rn 8<|Sa (HT s hl _<|hG.ext hF.same) ?_;rintro w hF -;refine rn 5 ?_;exact⟨O,hF.same⟩
theorem Sy{q:α->Bool}{xs:List α}{j:Nat}(h:j<aL xs)(hn:(xs.take j).any q=false)(hq:q xs[j]=false):(xs.take (j+1)).any q=false:=by
  rw[iQ h,List.any_append,hn];grind
def GW{α:Type}(q:α->Bool)(l:List α):Int:=if l.any q=true then (l.findIdx q:Int) else -1
theorem JH{q:α->Bool}{xs:List α}{j:Nat}(h:j<aL xs)(hn:(xs.take j).any q=false)(hq:q xs[j]=true):GW q xs=(j:Int):=by
  rw[GW,uQ<|List.any_eq_true.2 ⟨_,eQ h,hq⟩]
  congr 1
  rw[List.findIdx_eq h];refine⟨hq,λi hi=>?_⟩;rw[List.any_eq_false]at hn;have:xs[i]∈xs.take j:=by rw[List.mem_take_iff_getElem];exact⟨i,by_Om,rfl⟩
  grind
theorem XB{q:α->Bool}{xs:List α}{j:Nat}(h:¬j<aL xs)(hn:(xs.take j).any q=false):GW q xs = -1:=by
  rw[dZ kX]at hn;grind [GW]
theorem CY(q:α->Bool)(xs:List α):decide (0<=GW q xs)=xs.any q:=by grind [GW]
theorem atQ_find{q:α->Bool}{xs:List α}(h:¬GW q xs<0):∃(j:Nat)(hj:j<aL xs),GW q xs=(j:Int)/\xs.find? q=some xs[j]:=by
  rw[GW]at h ⊢;by_cases ha:xs.any q=true
  ·rw[uQ ha]
   have hl:=List.findIdx_lt_length_of_exists<|List.any_eq_true.1 ha;refine⟨_,hl,O,?_⟩;rw[List.find?_eq_some_iff_getElem];grind
  grind
theorem atQ_lost{q:α->Bool}{xs:List α}(h:GW q xs<0):xs.find? q=none:=by grind [GW]
def VR(l:List Str):Bool:=decide (aL l<=64)&&l.all Lib.validD
structure RuleOk (x:Rl):Prop where
  key:aL x.key<=140737488355328
  pat:∀s∈x.pat,aL s<=140737488355328
def indexS_c(l:List Str)(A:Option Addr)(c:Nat)(S:Nat->Prop)(hl:∀s∈l,aL s<=140737488355328)(w0:World)(hX:Rep S w0 (Ya l) [.slice A (aL l) c])(hG:Gl w0):Calls prog 130 #[.slice A (aL l) c,.func (.func 97) #[] #[]] w0 (Qb λv w'=>v=J (GW (λs=>!(Lib.validD s)) l)/\Same [] w0 w'):=by
 have hXl:=hX.slice_len;refine Ga func130 ntmps130 ?_;intro hF;refine rn 14<|Wa (λμ σ w=>∃(j:Nat),μ=aL l-j/\(j<=aL l)/\((l.take j).any (λs=>!(Lib.validD s))=false)/\AllEq σ [(0,.slice A (aL l) c),(1,.func (.func 97) #[] #[]),(7,J<|(aL l:Nat)),(8,J<|(j:Int))]/\FR w0 [] [] w) _ ⟨0,O,cZ _,Da,Ib,hF⟩ ?_;rintro μ σ w ⟨j,rfl,hj,hn,hzz,hF⟩;refine Tf hzz 7 ⟨λhc0=>?_,λhc0=>?_⟩;refine rn 15 ?_;obtain⟨ad0,hA0,hk0,hx0⟩:=hX.str_elem (i:=j) kX;refine Ca (v:=.pointer<|some<|ad0.add<|j*1) (Ea (i:=(j:Int)) Nd hA0)<|Ca (v:=I<|l[j]) (Ma sZ<|hF.cell0 hk0) ?_;refine Wl hF (ptrCl_c l[j] (hl _<|eQ _) _ (hG.ext hF.same)) (Ze O en_97 O O) ?_;intro w hF;refine rn 3 ⟨λhc1=>?_,λhc1=>?_⟩;refine rn 7 ?_;exact⟨xQ _ (JH kX hn hc1).symm,hF.same⟩;refine rn 4<|Kc Ui ?_;refine rn 2<|Ja ⟨_,?_,j+1,O,kX,Sy kX hn hc1,Ib,hF⟩;omega;refine rn 8 ?_;exact⟨xQ _ (XB kX hn).symm,hF.same⟩
def RO(l:List Str)(A:Option Addr)(c:Nat)(S:Nat->Prop)(hl:∀s∈l,aL s<=140737488355328)(w0:World)(hX:Rep S w0 (Ya l) [.slice A (aL l) c])(hG:Gl w0):Calls prog 96 #[.slice A (aL l) c,.func (.func 97) #[] #[]] w0 (Qb λv w'=>v=.bool (l.any (λs=>!(Lib.validD s)))/\Same [] w0 w'):=by
 refine Ga func96 ntmps96 ?_;intro hF;refine rn 9<|Sa (indexS_c l A c _ hl _ (hF.rep hX)<|hG.ext hF.same) ?_;rintro w hF -;refine rn 5 ?_;exact⟨xQ Value.bool<|CY _ _,hF.same⟩
def QS(l:List Str)(A:Option Addr)(c:Nat)(S:Nat->Prop)(hl:∀s∈l,aL s<=140737488355328)(w0:World)(hX:Rep S w0 (Ya l) [.slice A (aL l) c])(hG:Gl w0):Calls prog 71 #[.slice A (aL l) c] w0 (Qb λv w'=>v=.bool (VR l)/\Same [] w0 w'):=by
 have hXl:=hX.slice_len;refine Ga func71 ntmps71 ?_;intro hF;refine rn 12 ⟨λhg0=>?_,λhg0=>?_⟩;refine rn 1<|Sa (RO l A c _ hl _ (hF.rep hX)<|hG.ext hF.same) ?_;rintro w hF -;refine rn 6 ⟨xQ Value.bool ?_,hF.same⟩
 ·first|(rw[VR,fZ kX,Bool.true_and,List.not_any_eq_all_not];simp;done)|(rw[VR,eZ kX,Bool.false_and];done)
 refine rn 8 ⟨xQ Value.bool ?_,hF.same⟩
 ·first|(rw[VR,fZ kX,Bool.true_and,List.not_any_eq_all_not];simp;done)|(rw[VR,eZ kX,Bool.false_and];done)
theorem LP(x:Rl)(hx:RuleOk x)(A:Option Addr)(c:Nat)(S:Nat->Prop)(w0:World)(hX:Rep S w0 (Ya x.pat) [.slice A (aL x.pat) c])(hG:Gl w0):Calls prog 41 #[.agg #[.slice A (aL x.pat) c,I x.key]] w0 (Qb λv w'=>v=.bool (PG x)/\Same [] w0 w'):=by
 refine Ga func41 ntmps41 ?_;intro hF;refine rn 3 ?_;rintro b1 w hb1 hF -;refine rn 7<|Gc (K8 x.key hx.key _<|hG.ext hF.same) ?_;rintro _ w ⟨n,rfl,hE⟩;have hF:=hF.ext hE;refine rn 12 ⟨λhg0=>?_,λhg0=>?_⟩;refine rn 2<|Sa (QS x.pat A c _ hx.pat _ (hF.rep hX)<|hG.ext hF.same) ?_;rintro w hF -;refine rn 5 ⟨xQ Value.bool ?_,hF.same⟩;show _=(Lib.validD x.key&&VR x.pat);simp_all;refine rn 8 ⟨xQ Value.bool ?_,hF.same⟩;show _=(Lib.validD x.key&&VR x.pat);simp_all
def ruleCl_c(x:Rl)(hx:RuleOk x)(A:Option Addr)(c:Nat)(S:Nat->Prop)(w0:World)(hX:Rep S w0 (Ya x.pat) [.slice A (aL x.pat) c])(hG:Gl w0):Calls prog 40 #[.agg #[.slice A (aL x.pat) c,I x.key]] w0 (Qb λv w'=>v=.bool (!(PG x))/\Same [] w0 w'):=by
 refine Ga func40 ntmps40 ?_;intro hF;refine rn 3 ?_;rintro b1 w hb1 hF -;refine rn 6<|Sa (LP x hx A c _ _ (hF.rep hX)<|hG.ext hF.same) ?_;rintro w hF -;refine rn 5 ?_;exact⟨O,hF.same⟩
def indexR_c(l:List Rl)(A:Option Addr)(c:Nat)(S:Nat->Prop)(hl:∀x∈l,RuleOk x)(w0:World)(hX:Rep S w0 (Co l) [.slice A (aL l) c])(hG:Gl w0):Calls prog 69 #[.slice A (aL l) c,.func (.func 40) #[] #[]] w0 (Qb λv w'=>v=J (GW (λx=>!(PG x)) l)/\Same [] w0 w'):=by
 have hXl:=hX.slice_len;simp only[rQ]at hXl;refine Ga func69 ntmps69 ?_;intro hF;refine rn 14<|Wa (λμ σ w=>∃(j:Nat),μ=aL l-j/\(j<=aL l)/\((l.take j).any (λx=>!(PG x))=false)/\AllEq σ [(0,.slice A (aL l) c),(1,.func (.func 40) #[] #[]),(7,J<|(aL l:Nat)),(8,J<|(j:Int))]/\FR w0 [] [] w) _ ⟨0,O,cZ _,Da,Ib,hF⟩ ?_;rintro μ σ w ⟨j,rfl,hj,hn,hzz,hF⟩;refine Tf hzz 7 ⟨λhc0=>?_,λhc0=>?_⟩;refine rn 15 ?_;obtain⟨ad0,B0,e0,hA0,hk0,hx0⟩:=hX.rule_elem (i:=j) kX;refine Ca (v:=.pointer<|some<|ad0.add<|j*2) (Ea (i:=(j:Int)) VP hA0)<|Ca (Pa (l:=[.slice (B0) (aL (l[j]).pat) e0,I<|(l[j]).key]) isAgg53 sizeOf53 O O<|hF.cells0 hk0) ?_;refine Wl hF (ruleCl_c l[j] (hl _<|eQ _) B0 e0 _ _ (hF.rep hx0) (hG.ext hF.same)) (Ze O en_40 O O) ?_;intro w hF;refine rn 3 ⟨λhc1=>?_,λhc1=>?_⟩;refine rn 7 ?_;exact⟨xQ _ (JH kX hn hc1).symm,hF.same⟩;refine rn 4<|Kc Ui ?_;refine rn 2<|Ja ⟨_,?_,j+1,O,kX,Sy kX hn hc1,Ib,hF⟩;omega;refine rn 8 ?_;exact⟨xQ _ (XB kX hn).symm,hF.same⟩
def EM(l:List Rl)(A:Option Addr)(c:Nat)(S:Nat->Prop)(hl:∀x∈l,RuleOk x)(w0:World)(hX:Rep S w0 (Co l) [.slice A (aL l) c])(hG:Gl w0):Calls prog 39 #[.slice A (aL l) c,.func (.func 40) #[] #[]] w0 (Qb λv w'=>v=.bool (l.any (λx=>!(PG x)))/\Same [] w0 w'):=by
 refine Ga func39 ntmps39 ?_;intro hF;refine rn 9<|Sa (indexR_c l A c _ hl _ (hF.rep hX)<|hG.ext hF.same) ?_;rintro w hF -;refine rn 5 ?_;exact⟨xQ Value.bool<|CY _ _,hF.same⟩
def ZH(l:List Rl)(A:Option Addr)(c:Nat)(S:Nat->Prop)(hl:∀x∈l,RuleOk x)(w0:World)(hX:Rep S w0 (Co l) [.slice A (aL l) c])(hG:Gl w0):Calls prog 22 #[.slice A (aL l) c] w0 (Qb λv w'=>v=.bool (O3 l)/\Same [] w0 w'):=by
 have hXl:=hX.slice_len;refine Ga func22 ntmps22 ?_;intro hF;refine rn 12 ⟨λhg0=>?_,λhg0=>?_⟩;refine rn 1<|Sa (EM l A c _ hl _ (hF.rep hX)<|hG.ext hF.same) ?_;rintro w hF -;refine rn 6 ⟨xQ Value.bool ?_,hF.same⟩
 ·first|(rw[O3,fZ kX,Bool.true_and,List.not_any_eq_all_not];simp;done)|(rw[O3,eZ kX,Bool.false_and];done)
 refine rn 8 ⟨xQ Value.bool ?_,hF.same⟩
 ·first|(rw[O3,fZ kX,Bool.true_and,List.not_any_eq_all_not];simp;done)|(rw[O3,eZ kX,Bool.false_and];done)
def findCl_c(x:Rl)(A:Option Addr)(c:Nat)(S:Nat->Prop)(q:List Str)(B:Option Addr)(e:Nat)(S':Nat->Prop)(bb:Nat)(w0:World)(hX:Rep S w0 (Ya x.pat) [.slice A (aL x.pat) c])(hQ:Rep S' w0 (Ya q) [.slice B (aL q) e])(hb:w0.cell? ⟨bb,0,none⟩=some (.slice B (aL q) e)):Calls prog 101 #[.agg #[.slice A (aL x.pat) c,I x.key],V bb] w0 (Qb λv w'=>v=.bool (Jp x.pat q)/\Same [] w0 w'):=by
 refine Ga func101 ntmps101 ?_;intro hF;refine rn 3 ?_;rintro b1 w hb1 hF -;refine rn 7<|Ca (v:=.slice B (aL q) e) (Ma nZ<|hF.cell0 hb) ?_;refine Sa (match_c x.pat q A B c e _ _ _ (hF.rep hX)<|hF.rep hQ) ?_;rintro w hF -;refine rn 4 ?_;exact⟨O,hF.same⟩
def indexF_c(l:List Rl)(A:Option Addr)(c:Nat)(S:Nat->Prop)(q:List Str)(B:Option Addr)(e:Nat)(S':Nat->Prop)(bb:Nat)(w0:World)(hX:Rep S w0 (Co l) [.slice A (aL l) c])(hQ:Rep S' w0 (Ya q) [.slice B (aL q) e])(hb:w0.cell? ⟨bb,0,none⟩=some (.slice B (aL q) e)):Calls prog 69 #[.slice A (aL l) c,.func (.func 101) #[] #[V bb]] w0 (Qb λv w'=>v=J (GW (λx=>Jp x.pat q) l)/\Same [] w0 w'):=by
 have hXl:=hX.slice_len;simp only[rQ]at hXl;refine Ga func69 ntmps69 ?_;intro hF;refine rn 14<|Wa (λμ σ w=>∃(j:Nat),μ=aL l-j/\(j<=aL l)/\((l.take j).any (λx=>Jp x.pat q)=false)/\AllEq σ [(0,.slice A (aL l) c),(1,.func (.func 101) #[] #[.pointer<|some<|⟨bb,0,none⟩]),(7,J<|(aL l:Nat)),(8,J<|(j:Int))]/\FR w0 [] [] w) _ ⟨0,O,cZ _,Da,Ib,hF⟩ ?_;rintro μ σ w ⟨j,rfl,hj,hn,hzz,hF⟩;refine Tf hzz 7 ⟨λhc0=>?_,λhc0=>?_⟩;refine rn 15 ?_;obtain⟨ad0,B0,e0,hA0,hk0,hx0⟩:=hX.rule_elem (i:=j) kX;refine Ca (v:=.pointer<|some<|ad0.add<|j*2) (Ea (i:=(j:Int)) VP hA0)<|Ca (Pa (l:=[.slice (B0) (aL (l[j]).pat) e0,I<|(l[j]).key]) isAgg53 sizeOf53 O O<|hF.cells0 hk0) ?_;refine Wl hF (findCl_c l[j] B0 e0 _ q B e _ bb _ (hF.rep hx0) (hF.rep hQ) (Same.cell hF.same hb)) (Ze O en_101 O O) ?_;intro w hF;refine rn 3 ⟨λhc1=>?_,λhc1=>?_⟩;refine rn 7 ?_;exact⟨xQ _ (JH kX hn hc1).symm,hF.same⟩;refine rn 4<|Kc Ui ?_;refine rn 2<|Ja ⟨_,?_,j+1,O,kX,Sy kX hn hc1,Ib,hF⟩;omega;refine rn 8 ?_;exact⟨xQ _ (XB kX hn).symm,hF.same⟩
def find_c(l:List Rl)(A:Option Addr)(c:Nat)(S:Nat->Prop)(q:List Str)(B:Option Addr)(e:Nat)(S':Nat->Prop)(w0:World)(hX:Rep S w0 (Co l) [.slice A (aL l) c])(hQ:Rep S' w0 (Ya q) [.slice B (aL q) e]):Calls prog 79 #[.slice A (aL l) c,.slice B (aL q) e] w0 (Qb λv w'=>v=.tuple #[I ((Lh l q).getD []),.bool (Lh l q).isSome]/\Same [] w0 w'):=by
 have hXl:=hX.slice_len;simp only[rQ]at hXl;refine Ga func79 ntmps79 ?_;intro hF;refine rn 3 ?_;rintro b1 w hb1 hF -;refine rn 7<|Ca (v:=.func (.func 101) #[] #[V b1]) Jf ?_;refine Sa (indexF_c l A c _ q B e _ b1 _ (hF.rep hX) (hF.rep hQ)<|hF.cell 0 O O) ?_;rintro w hF -;refine rn 11 ⟨λhc0=>?_,λhc0=>?_⟩;refine rn 7 ?_;have e9:Lh l q=none:=by rw[Lh,atQ_lost qW];rfl
 rw[e9];exact⟨O,hF.same⟩;obtain⟨j,hjl,hj,hfind⟩:=atQ_find qW;rw[hj];refine rn 6 ?_;obtain⟨ad0,B0,e0,hA0,hk0,hx0⟩:=hX.rule_elem (i:=j) kX;refine Ca (v:=.pointer<|some<|ad0.add<|j*2) (Ea (i:=(j:Int)) VP hA0)<|Ca (v:=.pointer<|some<|(ad0.add<|j*2).add 1) (Oc (a:=ad0.add<|j*2) WH)<|Ca (v:=I<|(l[j]).key) (Ma sZ<|hF.cell0<|hk0 1 Up) ?_;refine rn 5 ?_;have e9:Lh l q=some l[j].key:=by rw[Lh,hfind];rfl
 rw[e9];exact⟨O,hF.same⟩
mutual
def blankT:Tree->Tree
  | .node k t ks xs=>.node k (if k=7 then [] else t) ks (Wq xs)
def Wq:List Tree->List Tree
  | []=>[]
  | x::xs=>blankT x::Wq xs
end
theorem Ct:∀xs:List Tree,Wq xs=xs.map blankT
  | []=>rfl
  | x::xs=>by rw[Wq,Ct xs,jZ]
def Ul(o:Option Tree):Option Tree:=o.map blankT
def pre(p:List Str)(c:Cf):Cf:={ c with path:=p++c.path }
def EX(p q:List Str)(R:List Cf):R.map (pre (p++q))=(R.map (pre q)).map (pre p):=by
  rw[List.map_map];refine List.map_congr_left λc _=>?_;simp[pre]
def M_(n m:Nat):blankT (Lj n)=blankT (Lj m):=by simp[Lj,blankT,Wq]
theorem EZ{x:Tree}{k:Int}{t:Str}{ks:List Str}{xs:List Tree}(h:x∈xs):Cb x<Cb (.node k t ks xs):=by
  rw[Cb];have:∀{xs:List Tree},x∈xs->Cb x<=Fb xs:=fun {xs} h=>by
    induction xs with
    | nil=>cases h
    | cons y ys ih =>
      rw[Fb];rcases oQ.1 h with rfl|h
      ·omega
      have:=ih h;omega
  grind
def Ic:Option Tree->Nat
  | some x=>Cb x
  | none=>0
def Kz(x:Tree):1<=Cb x:=by
  cases x;rw[Cb];omega
def Oo{x y:Tree}{key:Str}(h:Hd x key=some y):y∈x.items:=Oj h
theorem Pl{x y:Tree}{key id:Str}(h:Pb x key id=some y):y∈x.items:=by
  unfold Pb at h;split at h
  ·rename_i h2
   obtain rfl:=lQ h;unfold Iq at h2 ⊢;split at h2
   ·rename_i hm
    rw[uQ hm];have hne:Jb x key≠[]:=qK
    grind [I1,Jb]
   cases h2
  cases h
theorem Qm{y:By}{i:Int}{x:Tree}(h:y.at i=some x):x∈y.items:=by grind [By.at]
theorem Ig{y:By}{g:Nat}{x:Tree}(h:x∈y.put g):x∈y.items:=by grind [By.put,Qm]
def F3{x y:Tree}(h:y∈x.items):Cb y<Cb x:=by
  cases x;exact EZ h
def Vm(x:Tree)(key:Str):Ic (Hd x key)<Cb x:=by
  cases h:Hd x key with
  | none=>exact Kz x
  | some y=>exact F3<|Oo h
def Lk(x:Tree)(key id:Str):Ic (Pb x key id)<Cb x:=by
  cases h:Pb x key id with
  | none=>exact Kz x
  | some y=>exact F3<|Pl h
def Ps{k:Int}{t:Str}{ks:List Str}{base:List Tree}(x:Tree)(g:Nat):Ic ((Fc base x.items).item g)<Cb x:=by
  cases h:(Fc base x.items).item g with
  | none=>exact Kz x
  | some y=>exact F3<|Qm h
section
variable {f g:Str->Nat->Mo}{p q:List Str}{n m:Nat}{ks:List Str}
def Twin(p q:List Str)(a b:Mo):Prop:=∃R:List Cf,a.2=R.map (pre p)/\b.2=R.map (pre q)/\Ul a.1=Ul b.1
def Twin.up{s:List Str}{a b:Mo}(h:Twin (p++s) (q++s) a b):Twin p q a b:=by
  obtain⟨R,h1,h2,h3⟩:=h;exact⟨R.map<|pre s,by rw[h1,EX],by rw[h2,EX],h3⟩
theorem V4(H:∀k n m,Twin p q (f k n) (g k m)):∀j,∃R:List Cf,(Cd f n ks j).2=R.map (pre p)/\(Cd g m ks j).2=R.map (pre q) /\
    (Cd f n ks j).1.map (λz=>(z.1,blankT z.2))=(Cd g m ks j).1.map (λz=>(z.1,blankT z.2))
  | 0=>⟨[],rfl,rfl,rfl⟩
  | j + 1 => by
    obtain⟨R,h1,h2,h3⟩:=V4 H j;obtain⟨R',k1,k2,k3⟩:=H (ks.getD j []) (n+aL (Cd f n ks j).2)<|m+aL (Cd g m ks j).2;refine⟨R++R',by rw[Cd,jQ,<-h1,<-k1],by rw[Cd,jQ,<-h2,<-k2],?_⟩;rw[Cd,Cd,jQ,jQ,h3]
    congr 1
    generalize (f (ks.getD j [])<|n+aL (Cd f n ks j).2).1=o at k3 ⊢;generalize (g (ks.getD j [])<|m+aL (Cd g m ks j).2).1=o' at k3 ⊢;cases o <;> cases o' <;> simp[Ul,ID]at k3 ⊢;exact k3
end
theorem TD(p q:List Str)(g n m:Nat)(xs ys:List Tree):∃R:List Cf,(He p g n xs ys).2=R.map (pre p)/\(He q g m xs ys).2=R.map (pre q)/\(He p g n xs ys).1.map blankT=(He q g m xs ys).1.map blankT:=by
  unfold He;split
  ·simp_all
  split
  ·simp_all
  exact⟨[⟨[Ws g],5,⟨true,.node 5 [] [] []⟩,⟨true,.node 5 [] [] xs⟩,⟨true,.node 5 [] [] ys⟩⟩],O,O,by simp[M_ n m]⟩
theorem Nm(p q:List Str)(cls:Int)(n m:Nat)(b l r:Option Tree):Twin p q (Fj p cls n b l r) (Fj q cls m b l r) :=
  ⟨[⟨[],cls,Ni b,Ni l,Ni r⟩],by simp[Fj,pre],by simp[Fj,pre],by simp[Fj,Ul,M_ n m]⟩
abbrev Fm:=List Str->Nat->Option Tree->Option Tree->Option Tree->Mo
def H1(o:Option Tree):o.toList.map blankT=(Ul o).toList:=by cases o <;> rfl
theorem PE{f g:Fm}{p q:List Str}{base:List Tree}{x y:By}(H:∀s n m k,Twin (p++[s]) (q++[s]) (f (p++[s]) n base[k]? (x.item k) (y.item k)) (g (q++[s]) m base[k]? (x.item k) (y.item k)))(n m:Nat) :
    ∀j,∃R:List Cf,(Jd f p n base x y j).2=R.map (pre p)/\(Jd g q m base x y j).2=R.map (pre q)/\(Jd f p n base x y j).1.map blankT=(Jd g q m base x y j).1.map blankT
  | 0=>⟨[],rfl,rfl,rfl⟩
  | j + 1 => by
    obtain⟨R,h1,h2,h3⟩:=PE H n m j;obtain⟨R',k1,k2,k3⟩:=TD p q j (n+aL (Jd f p n base x y j).2) (m+aL (Jd g q m base x y j).2) (x.put j)<|y.put j;obtain⟨R'',l1,l2,l3⟩:=(H (Lib.itoa j) (n+((Jd f p n base x y j).2++(He p j (n+aL (Jd f p n base x y j).2) (x.put j)<|y.put j).2).length) (m+((Jd g q m base x y j).2++(He q j (m+aL (Jd g q m base x y j).2) (x.put j)<|y.put j).2).length) j).up;refine⟨R++R'++R'',?_,?_,?_⟩
    ·rw[Jd,jQ,jQ,<-h1,<-k1,<-l1]
    ·rw[Jd,jQ,jQ,<-h2,<-k2,<-l2]
    rw[Jd,Jd,jQ,jQ,jQ,jQ,h3,k3,H1,H1,l3]
theorem MS{f g:Fm}{p q:List Str}{base:List Tree}{x y:By}(H:∀s n m k,Twin (p++[s]) (q++[s]) (f (p++[s]) n base[k]? (x.item k) (y.item k)) (g (q++[s]) m base[k]? (x.item k) (y.item k)))(n m:Nat) :
    Twin p q (Rq f p n base x y) (Rq g q m base x y):=by
  obtain⟨R,h1,h2,h3⟩:=PE H n m (aL base);obtain⟨R',k1,k2,k3⟩:=TD p q (aL base) (n+(Jd f p n base x y (aL base)).2.length) (m+(Jd g q m base x y (aL base)).2.length) (x.put (aL base))<|y.put (aL base);refine⟨R++R',?_,?_,?_⟩
  all_goals grind [Rq,Ul,blankT,Ct]
theorem J7(key:Str):∀(a b:List (Str × Tree)),a.map (λz=>(z.1,blankT z.2))=b.map (λz=>(z.1,blankT z.2))->blankT (Qi a key)=blankT (Qi b key)
  | [],[],_=>rfl
  | [],_::_,h=>by cases h
  | _::_,[],h=>by cases h
  | x :: a, y :: b, h => by
    simp only[jZ,List.cons.injEq,Prod.mk.injEq]at h;obtain⟨⟨h1,h2⟩,h3⟩:=h;have ih:=J7 key a b h3;unfold Qi at ih ⊢;simp only[jZ,Wb];rw[h1];split
    ·simpa using h2
    exact ih
theorem GL{rl rl':List Rl}:∀(F F':Nat)(p q:List Str),(∀s,Lh rl (p++s)=Lh rl' (q++s))->∀(n m:Nat)(b l r:Option Tree),Ic l<F->Ic l<F'->Twin p q (Je rl F p n b l r) (Je rl' F' q m b l r):=by
  intro F
  induction F with
  | zero=>grind
  | succ F ih =>
    intro F' p q hf n m b l r h h';obtain⟨F',rfl⟩:∃G,F'=G+1:=⟨F'-1,by_Om⟩;have triv:∀o:Option Tree,Twin p q (o,[]) (o,[]):=λo=>⟨[],rfl,rfl,rfl⟩;rw[Je,Je];split
    ·grind
    split
    ·grind
    split
    ·grind
    have sub:∀(s:Str)(n m:Nat)(b' l' r':Option Tree),Ic l'<F->Ic l'<F'->Twin (p++[s]) (q++[s]) (Je rl F (p++[s]) n b' l' r') (Je rl' F' (q++[s]) m b' l' r') :=
      λs n m b' l' r' h1 h2=>ih F' _ _ (λt=>by rw[sQ,sQ];exact hf _) n m b' l' r' h1 h2
    cases b with
    | none=>exact Nm ..
    | some x =>
      cases l with
      | none=>exact Nm ..
      | some y =>
        cases r with
        | none=>exact Nm ..
        | some z =>
          simp only[Ic]at h h';simp only[Lo];split
          ·split
           ·obtain⟨R, h1, h2, h3⟩ := V4 (n := n) (m := m) (ks := Ec [y.keys, z.keys]) (λk n m => (sub k n m (Hd x k) (Hd y k) (Hd z k) (by have := Vm y k;omega) (by have := Vm y k;omega)).up) (aL (Ec [y.keys, z.keys]))
            refine⟨R,h1,h2,?_⟩;have e1:=xQ (List.map (·.1)) h3;have e2:=xQ (List.map (·.2)) h3;simp only[List.map_map,Function.comp_def]at e1 e2;simp only[L9,Ul,Option.map_some,blankT,Ct,List.map_map,Function.comp_def,e1,e2]
           split
           ·rw[Sf, Sf]
            have e0:=hf [];rw[qQ,qQ]at e0;rw[e0];have hgap:Twin p q (Sf.gapM (Je rl F) p n x y z) (Sf.gapM (Je rl' F') q m x y z):=by
              unfold Sf.gapM;split
              ·exact MS (λs n m k=>sub s n m _ _ _ bP bP) n m
              grind [Nm]
            cases Lh rl' q with
            | none=>grind
            | some key =>
              simp only;split
              ·unfold Av
               obtain⟨R,h1,h2,h3⟩:=V4 (n:=n) (m:=m) (ks:=Ec [Jb y key,Jb z key]) (λk n m=>(sub (Wi k) n m (Pb x key k) (Pb y key k) (Pb z key k) (by have:=Lk y key k;omega) (by have:=Lk y key k;omega)).up) (aL (Ec [Jb y key,Jb z key]));have e1:=xQ (List.map (·.1)) h3;simp only[List.map_map,Function.comp_def]at e1;simp only[e1];split
               ·refine⟨R, h1, h2, ?_⟩
                simp only[Ul,Option.map_some,blankT,Ct,List.map_map,Option.some.injEq,Tree.node.injEq,true_and];exact List.map_congr_left λk _=>J7 k _ _ h3
               grind [Nm]
              grind
           grind [Nm]
          grind [Nm]
end Go.Scarf
namespace Go.Scarf
open List renaming length->aL
open Go.RowKit Go.Proofs Go.Proofs.Tryz
variable {i j n size:Nat}{m:List (Nat × Nat)}
def RiseN(n size:Nat):Nat->Nat->List (Nat × Nat)->Prop
  | _,j,[]=>j<=size
  | k,j,z::m=>k<=z.1/\z.1<n/\j<=z.2/\z.2<size/\RiseN n size (z.1+1) (z.2+1) m
def G3:List (Nat × Nat)->Nat->Nat->Nat
  | [],j,_=>j
  | z::m,j,k=>if k<=z.1 then j else G3 m (z.2+1) k
theorem RY:∀{m:List (Nat × Nat)}{k0 j k:Nat},RiseN n size k0 j m->k<=k0->G3 m j k=j
  | [],_,_,_,_,_=>rfl
  | z::m,k0,j,k,h,hk=>by rw[G3,uQ (by have:=h.1;omega)]
theorem QT{n size:Nat}:∀{m:List (Nat × Nat)}{k0 j k:Nat},RiseN n size k0 j m->G3 m j k<=size
  | [],_,_,_,h=>h
  | z :: m, k0, j, k, h => by
    obtain⟨h1,h2,h3,h4,h5⟩:=h;rw[G3];split
    ·omega
    exact QT h5
theorem S9{n size:Nat}:∀{m:List (Nat × Nat)}{k0 j k:Nat}{f:Nat->Int},RiseN n size k0 j m->k<k0->Js m f k=f k
  | [],_,_,_,_,_,_=>rfl
  | z :: m, k0, j, k, f, h, hk => by
    have h1:=h.1;rw[Js,S9 h.2.2.2.2 kX,Ys kX]
theorem F5{n size:Nat}:∀{m:List (Nat × Nat)}{k0 j k:Nat}{gp:Nat->List Int},RiseN n size k0 j m->k<k0->k≠n->Eh n size m j gp k=gp k
  | [],_,_,_,_,_,_,hn=>by rw[Eh,Ri hn]
  | z :: m, k0, j, k, gp, h, hk, hn => by
    have h1:=h.1;rw[Eh,F5 h.2.2.2.2 kX hn,Ri kX]
theorem NA{n size:Nat}:∀(m:List (Nat × Nat))(k0 j:Nat)(gp:Nat->List Int)(f:Nat->Int),RiseN n size k0 j m->k0<=n->(∀k,k0<=k->gp k=[])->(∀k,k0<=k->f k = -1) ->
    (∀k,k0<=k->k<n->((∃b:Nat,Js m f k=(b:Int)/\Eh n size m j gp k=rng (G3 m j k) b/\G3 m j (k+1)=b+1/\G3 m j k<=b)\/(Js m f k = -1/\Eh n size m j gp k=[]/\G3 m j (k+1)=G3 m j k))) /\
    Eh n size m j gp n=rng (G3 m j n) size/\G3 m j n<=size
  | [], k0, j, gp, f, h, hk0, hg, hf => by
    refine⟨λk hk hkn=>.inr ⟨hf k hk,by rw[Eh,Ri kX];exact hg k hk,O⟩,?_,h⟩;rw[Eh,Dn,hg n hk0];rfl
  | z :: m, k0, j, gp, f, h, hk0, hg, hf => by
    obtain⟨h1,h2,h3,h4,h5⟩:=h;have hg':∀k,z.1+1<=k->PT gp z.1 (gp z.1++rng j z.2) k=[]:=λk hk=>by rw[Ri kX];exact hg k kX
    have hf':∀k,z.1+1<=k->Rh f z.1 (z.2:Int) k = -1:=λk hk=>by rw[Ys kX];exact hf k kX
    obtain⟨i1,i2,i3⟩:=NA m (z.1+1) (z.2+1) _ _ h5 kX hg' hf';have ha:∀k,z.1<k->G3 (z::m) j k=G3 m (z.2+1) k:=λk hk=>by rw[G3,tQ kX]
    refine⟨λk hk hkn=>?_,by rw[Eh,i2,ha n h2],by rw[ha n h2];exact i3⟩;rw[Js,Eh];rcases Nat.lt_trichotomy k z.1 with hlt|heq|hgt
    ·refine .inr ⟨?_, ?_, ?_⟩
     ·rw[S9 h5 kX,Ys kX];exact hf k hk
     ·rw[F5 h5 kX kX,Ri kX];exact hg k hk
     rw[G3,G3,uQ kX,uQ kX]
    ·subst heq
     refine .inl ⟨z.2,?_,?_,?_,?_⟩
     ·rw[S9 h5 kX,Fx]
     ·rw[F5 h5 kX kX,Dn,hg _ hk,G3,uQ kX];rfl
     ·rw[ha _ kX,RY h5<|gQ _]
     rw[G3,uQ kX];exact h3
    rw[ha k hgt, ha (k + 1) kX];exact i1 k kX hkn
theorem RiseN.all:∀{m:List (Nat × Nat)}{k j:Nat},RiseN n size k j m->∀z∈m,z.1<n/\z.2<size
  | [],_,_,_,z,hz=>by cases hz
  | y :: m, _, _, h, z, hz => by
    rcases oQ.1 hz with rfl|hz
    ·exact⟨h.2.1,h.2.2.2.1⟩
    exact RiseN.all h.2.2.2.2 z hz
section
variable {α:Type}(sz:α->Nat)(p:α->α->Nat)
inductive AliP:Nat->Nat->List α->List α->List (Nat × Nat)->Nat->Prop
  | nil {i j:Nat}:AliP i j [] [] [] 0
  | pair {i j:Nat} {x y:α} {xs ys:List α} {m:List (Nat × Nat)} {c:Nat}:AliP (i+1) (j+1) xs ys m c->AliP i j (x::xs) (y::ys) ((i,j)::m) (p x y+c)
  | drop {i j:Nat} {x:α} {xs ys:List α} {m:List (Nat × Nat)} {c:Nat}:AliP (i+1) j xs ys m c->AliP i j (x::xs) ys m (sz x+c)
  | add {i j:Nat} {y:α} {xs ys:List α} {m:List (Nat × Nat)} {c:Nat}:AliP i (j+1) xs ys m c->AliP i j xs (y::ys) m (sz y+c)
end
section
variable {α:Type}{sz:α->Nat}{p:α->α->Nat}
def RiseN.low{k l:Nat}(h:RiseN n size k l m)(h1:i<=k)(h2:j<=l):RiseN n size i j m:=by
  cases m with
  | nil =>
    have h:l<=size:=h;exact fQ h2 h
  | cons z m=>exact⟨fQ h1 h.1,h.2.1,fQ h2 h.2.2.1,h.2.2.2⟩
def AliP.rise{xs ys:List α}{c:Nat}(h:AliP sz p i j xs ys m c):RiseN (i+aL xs) (j+aL ys) i j m:=by
  induction h with
  | nil=>exact gQ _
  | @pair i j x y xs ys m c _ ih =>
    rw[kQ,kQ,show i+(aL xs+1)=i+1+aL xs by omega,show j+(aL ys+1)=j+1+aL ys by omega];exact⟨gQ _,by show i<_;omega,gQ _,by show j<_;omega,ih⟩
  | @drop i j x xs ys m c _ ih =>
    rw[kQ,show i+(aL xs+1)=i+1+aL xs by omega];exact ih.low (Nat.le_succ _)<|gQ _
  | @add i j y xs ys m c _ ih =>
    rw[kQ,show j+(aL ys+1)=j+1+aL ys by omega];exact ih.low (gQ _)<|Nat.le_succ _
theorem OK:∀(xs:List α)(i j:Nat),AliP sz p i j xs [] [] (al sz p xs [])
  | [],_,_=>.nil
  | x::xs,i,j=>by rw[al_cn];exact .drop<|OK xs (i+1) j
theorem WE:∀(ys:List α)(i j:Nat),AliP sz p i j [] ys [] (al sz p [] ys)
  | [],_,_=>.nil
  | y::ys,i,j=>by rw[OV];exact .add<|WE ys i<|j+1
end
def pth_ali(la lb:List TreeN):∀(k i j:Nat),(aL la-i)+(aL lb-j)<=k->∃mp,pth i j (la.drop i) (lb.drop j)=Id mp/\AliP Eo pN i j (la.drop i) (lb.drop j) mp (al Eo pN (la.drop i) (lb.drop j)):=by
  intro k
  induction k with
  | zero =>
    intro i j hk;rw[L1,List.drop_eq_nil_of_le (show aL la<=i by omega),List.drop_eq_nil_of_le (show aL lb<=j by omega)];exact⟨[],O,.nil⟩
  | succ k ih =>
    intro i j hk;by_cases h1:i<aL la
    ·by_cases h2 : j<aL lb
     ·have hc := IX (sz := Eo) (p := pN) la[i] lb[j] (la.drop<|i + 1) (lb.drop<|j + 1)
      rw[Wz h1 h2];by_cases c1:al Eo pN (la.drop i) (lb.drop j)=pN la[i] lb[j]+al Eo pN (la.drop<|i+1) (lb.drop<|j+1)
      ·obtain⟨mp, e, h⟩ := ih (i + 1) (j + 1) kX
       rw[uQ c1,e,c1,List.drop_eq_getElem_cons h1,List.drop_eq_getElem_cons h2];exact⟨(i,j)::mp,O,.pair h⟩
      rw[tQ c1];by_cases c2:al Eo pN (la.drop i) (lb.drop j)=Eo la[i]+al Eo pN (la.drop<|i+1) (lb.drop j)
      ·obtain⟨mp, e, h⟩ := ih (i + 1) j kX
       rw[uQ c2,e,c2];refine⟨mp,O,?_⟩;rw[List.drop_eq_getElem_cons h1];exact .drop h
      obtain⟨mp, e, h⟩ := ih i (j + 1) kX;have c3:al Eo pN (la.drop i) (lb.drop j)=Eo lb[j]+al Eo pN (la.drop i) (lb.drop<|j+1):=by
        rw[<-List.drop_eq_getElem_cons h1,<-List.drop_eq_getElem_cons h2]at hc;omega
      rw[tQ c2,e,c3];refine⟨mp,O,?_⟩;rw[List.drop_eq_getElem_cons h2];exact .add h
     rw[L1, List.drop_eq_nil_of_le (show aL lb <= j by omega)];exact⟨[],O,OK _ _ _⟩
    rw[L1, List.drop_eq_nil_of_le (show aL la <= i by omega)];exact⟨[],O,WE _ _ _⟩
theorem AA(a b:List Tree):∃mp,pth 0 0 (a.map Jg) (b.map Jg)=Id mp/\RiseN (aL a) (aL b) 0 0 mp:=by
  obtain⟨mp,e,h⟩:=pth_ali (a.map Jg) (b.map Jg) _ 0 0<|gQ _;rw[List.drop_zero,List.drop_zero]at e h;have hr:=h.rise;grind
end Go.Scarf
namespace Go.Scarf
open List renaming length->aL
open Go.RowKit
section
variable {f:Str->Nat->Mo}{n:Nat}{ks:List Str}
end
def conM_some(p:List Str)(cls:Int)(n:Nat)(b l r:Option Tree):(Fj p cls n b l r).2≠[]:=by simp[Fj]
end Go.Scarf
namespace Go.Scarf
open List renaming length->aL
open Go.RowKit
variable {qs:List Str}
def Af:Option Tree->Nat
  | some x=>Ka x
  | none=>0
theorem SG:∀(ks:List Str)(xs:List Tree)(id:Str),aL ks=aL xs->Wb ks xs id=if id∈ks then some (xs.getD (ks.idxOf id) zeroT) else none
  | [],[],id,_=>by simp[Wb]
  | k :: ks, x :: xs, id, h => by
    rw[Wb];by_cases e:k=id
    ·subst e;simp
    rw[tQ e, SG ks xs id (aS h)];have e1:(id∈k::ks)=(id∈ks):=by simp[Ne.symm e,eq_comm,λh:id=k=>e h.symm]
    rw[List.idxOf_cons];have e2:(k==id)=false:=aS e
    simp[e1,e2]
  | [],_::_,_,h=>by cases h
  | _::_,[],_,h=>by cases h
theorem LU(x:Tree)(key id:Str):Pb x key id=Wb (Jb x key) x.items id:=by grind [Jb,SG,I1,Pb,Iq,Wb,Ss]
def Wm(g:Str->Option Tree)(ks:List Str):Nat:=(ks.map λk=>Af (g k)).sum
theorem UV{g h:Str->Option Tree}{c:Str->Nat}:∀{ks:List Str},(∀k∈ks,Af (g k)<=c k+Af (h k))->Wm g ks<=(ks.map c).sum+Wm h ks
  | [],_=>by simp[Wm]
  | k :: ks, H => by
    have ih:=UV (g:=g) (h:=h) (c:=c) (ks:=ks) λk hk=>H k (by simp[hk]);have h1:=H k Da;unfold Wm at ih ⊢;simp only[jZ,List.sum_cons];omega
theorem AN(k0:Str)(s:Nat):∀{ks:List Str},ks.Nodup->(ks.map λk=>if k0=k then s else 0).sum<=s
  | [],_=>by simp
  | k :: ks, h => by
    obtain⟨h1,h2⟩:=List.nodup_cons.1 h;have ih:=AN k0 s h2;simp only[jZ,List.sum_cons];by_cases e:k0=k
    ·have:(ks.map λk=>if k0=k then s else 0).sum=0:=by
       have hz:∀l:List Str,k∉l->(l.map λk=>if k0=k then s else 0).sum=0:=by
         intro l hl
         induction l with
         | nil=>rfl
         | cons a l ih =>
           simp only[jZ,List.sum_cons];rw[ih λh=>hl (by simp[h]),tQ λh=>hl (by simp[<-h,e])]
       exact hz ks h1
     rw[this,uQ e];omega
    rw[tQ e];omega
theorem O4{qs:List Str}(hq:qs.Nodup):∀(ks:List Str)(xs:List Tree),Wm (Wb ks xs) qs<=Qa xs
  | k :: ks, x :: xs => by
    have ih:=O4 hq ks xs;have h1:=UV (g:=Wb (k::ks)<|x::xs) (h:=Wb ks xs) (c:=λq=>if k=q then Ka x else 0) (ks:=qs) λq _=>by
      rw[Wb];split
      ·simp only[Af];omega
      omega
    have h2:=AN k (Ka x) hq;rw[Qa];omega
  | [], xs => by
    have:∀l:List Str,Wm (Wb [] xs) l=0:=λl=>by
      induction l with
      | nil=>rfl
      | cons a l ih=>unfold Wm at ih ⊢;rw[jZ,List.sum_cons,ih];simp[Wb,Af]
    rw[this];omega
  | k' :: ks', [] => by
    have:∀l:List Str,Wm (Wb (k'::ks') []) l=0:=λl=>by
      induction l with
      | nil=>rfl
      | cons a l ih=>unfold Wm at ih ⊢;rw[jZ,List.sum_cons,ih];simp[Wb,Af]
    rw[this];omega
theorem Yf(g:Str->Option Tree){ks:List Str}{j:Nat}(h:j<aL ks):Wm g (ks.take (j+1))=Wm g (ks.take j)+Af (g (ks.getD j [])):=by
  unfold Wm;rw[iQ h,jQ,List.sum_append];grind
theorem Rg(g:Str->Option Tree)(ks:List Str)(j:Nat):Wm g (ks.take j)<=Wm g ks:=by
  conv=>rhs;rw[<-List.take_append_drop j ks]
  grind [Wm]
def En(hq:qs.Nodup)(x:Tree):Wm (Hd x) qs+1<=Ka x:=by cases x with|node k t ks xs=>exact (by have:=O4 hq ks xs;rw[Ka];show Wm (Wb ks xs) qs+1<=_;omega)
theorem Ek(hq:qs.Nodup)(x:Tree)(key:Str):Wm (Pb x key) qs+1<=Ka x:=by
  have e:Pb x key=Wb (Jb x key) x.items:=by grind [LU]
  rw[e];have:=O4 hq (Jb x key) x.items;cases x with|node k t ks xs=>rw[Ka];show Wm _ qs+1<=_;simp only[Tree.items]at *;omega
theorem Bv(m:List (Nat × Nat)):MU (Id m)=m:=by
  unfold MU Id;rw[List.map_map];exact (List.map_congr_left λz _=>by simp).trans (List.map_id _)
theorem PR(v:List Tree)(gp:Nat->List Int)(im:Nat->Int):∀(d j:Nat),j+d<=aL v->(rng j (j+d)).filterMap (λi=>(By.mk v gp im).at i)=(v.drop j).take d
  | 0,j,_=>by simp[rng]
  | d + 1, j, h => by
    have e:rng j (j+(d+1))=(j:Int)::rng (j+1) (j+1+d):=by
      unfold rng;rw[show j+(d+1)-j=d+1 by omega,show j+1+d-(j+1)=d by omega,List.range'_succ,jZ]
    rw[e,List.filterMap_cons];have e2:(By.mk v gp im).at (j:Int)=some v[j]:=by
      unfold By.at;rw[tQ kX];simp
    rw[e2,PR v gp im d (j+1) kX,List.drop_eq_getElem_cons (show j<aL v by omega),List.take_succ_cons]
theorem laid_law(base v:List Tree):∃a:Nat->Nat,a 0=0/\a (aL base)<=aL v/\(Fc base v).put (aL base)=v.drop (a (aL base)) /\
    ∀k,k<aL base->(∃b,a k<=b/\b<aL v/\a (k+1)=b+1/\(Fc base v).item k=v[b]?/\(Fc base v).put k=(v.drop (a k)).take (b-a k))\/((Fc base v).item k=none/\(Fc base v).put k=[]/\a (k+1)=a k):=by
  obtain⟨mp,e,hr⟩:=AA base v;have em:Fc base v=⟨v,Eh (aL base) (aL v) mp 0 λ_=>[],Js mp λ_=>-1⟩:=by grind [Fc,Bv]
  obtain⟨h1,h2,h3⟩:=NA mp 0 0 (λ_=>[]) (λ_=>-1) hr (cZ _) (λ_ _=>rfl) λ_ _=>rfl;rw[em];have hb:∀k,G3 mp 0 k<=aL v:=λk=>QT hr;refine⟨G3 mp 0,RY hr<|gQ _,h3,?_,λk hk=>?_⟩
  ·unfold By.put
   rw[show (By.mk v (Eh (aL base) (aL v) mp 0 λ_=>[])<|Js mp λ_=>-1).gap (aL base)=rng (G3 mp 0 (aL base)) (G3 mp 0 (aL base)+(aL v-G3 mp 0 (aL base))) by rw[Nat.add_sub_cancel' h3];exact h2];rw[PR _ _ _ _ _ kX];exact dZ (by rw[yQ];omega)
  rcases h1 k (cZ _) hk with ⟨b, k1, k2, k3, k4⟩|⟨k1, k2, k3⟩
  ·have hb1 := hb (k + 1)
   refine .inl ⟨b,k4,by_Om,k3,?_,?_⟩
   ·unfold By.item By.at
    simp only[k1];rw[tQ kX];simp
   unfold By.put;rw[show (By.mk v (Eh (aL base) (aL v) mp 0 λ_=>[])<|Js mp λ_=>-1).gap k=rng (G3 mp 0 k) (G3 mp 0 k+(b-G3 mp 0 k)) by rw[Nat.add_sub_cancel' k4];exact k2];exact PR _ _ _ _ _ kX
  refine .inr ⟨?_, ?_, k3⟩
  ·unfold By.item By.at
   simp only[k1];rfl
  unfold By.put;simp only[k2];rfl
def wG(y:By):Nat->Nat
  | 0=>0
  | j+1=>wG y j+Qa (y.put j)+Af (y.item j)
def Gi(base v:List Tree):∀j,j<=aL base->wG (Fc base v) j+(if j=aL base then Qa ((Fc base v).put j) else 0)<=Qa v:=by
  obtain⟨a,a0,an,hp,hk⟩:=laid_law base v;have key:∀j,j<=aL base->wG (Fc base v) j=Qa (v.take<|a j):=by
    intro j
    induction j with
    | zero =>
      intro _;rw[a0];rfl
    | succ j ih =>
      intro hj;rw[wG,ih kX];rcases hk j kX with ⟨b,h1,h2,h3,h4,h5⟩|⟨h1,h2,h3⟩
      ·rw[h4, h5, h3, List.getElem?_eq_getElem h2]
       have e1:v.take (b+1)=v.take (a j)++((v.drop<|a j).take (b-a j)++[v[b]]):=by rw[<-sQ,<-List.take_add,Nat.add_sub_cancel' h1,iQ h2]
       rw[e1,Tc,Tc];simp only[Af,Qa];omega
      rw[h1, h2, h3];simp[Qa,Af]
  intro j hj;rw[key j hj];by_cases e:j=aL base
  ·subst e
   rw[uQ rfl,hp,<-Tc,List.take_append_drop];exact gQ _
  rw[tQ e];have:Qa v=Qa (v.take<|a j)+Qa (v.drop<|a j):=by rw[<-Tc,List.take_append_drop]
  omega
theorem B6(base v:List Tree)(j:Nat)(hj:j<aL base):wG (Fc base v) j+Qa ((Fc base v).put j)+Af ((Fc base v).item j)<=Qa v:=by
  have:=Gi base v (j+1) hj;grind [wG]
section
variable {f:Str->Nat->Mo}{n:Nat}{ks:List Str}{gl gr:Str->Option Tree}
theorem Ip(H:∀k n,aL (f k n).2<=Af (gl k)+Af (gr k)):∀j,j<=aL ks->aL (Cd f n ks j).2<=Wm gl (ks.take j)+Wm gr (ks.take j)
  | 0,_=>by simp[Cd]
  | j + 1, hj => by
    have ih:=Ip H j kX;have h1:=H (ks.getD j [])<|n+aL (Cd f n ks j).2;rw[Cd,dQ,Yf gl kX,Yf gr kX];omega
end
theorem Kw(p:List Str)(g n:Nat)(xs ys:List Tree):aL (He p g n xs ys).2<=Qa xs+Qa ys:=by grind [He,Ee]
theorem Ep{f:Fm}{p:List Str}{n:Nat}{base:List Tree}{x y:By}(H:∀s n k,aL (f (p++[s]) n base[k]? (x.item k) (y.item k)).2<=Af (x.item k)+Af (y.item k)):∀j,aL (Jd f p n base x y j).2<=wG x j+wG y j
  | 0=>by simp[Jd]
  | j + 1 => by
    have ih:=Ep (n:=n) H j;have h1:=Kw p j (n+aL (Jd f p n base x y j).2) (x.put j)<|y.put j;have h2:=H (Lib.itoa j) (n+((Jd f p n base x y j).2++(He p j (n+aL (Jd f p n base x y j).2) (x.put j)<|y.put j).2).length) j;have e:∀A B C:List Cf,aL (A++B++C)=aL A+aL B+aL C:=λA B C=>by rw[dQ,dQ]
    rw[Jd,e,wG,wG];omega
theorem Sn{p:List Str}{cls:Int}{n:Nat}{b l r:Option Tree}(h:¬Ih l r=true):aL (Fj p cls n b l r).2<=Af l+Af r:=by
  have:1<=Af l+Af r:=by
    cases l with
    | some x=>grind [Vo,Af]
    | none =>
      cases r with
      | some x=>grind [Vo,Af]
      | none=>exact absurd rfl h
  grind [Fj]
theorem Ll{rl:List Rl}:∀(F:Nat)(p:List Str)(n:Nat)(b l r:Option Tree),aL (Je rl F p n b l r).2<=Af l+Af r:=by
  intro F
  induction F with
  | zero=>grind [Je]
  | succ F ih =>
    intro p n b l r;rw[Je];split
    ·simp
    rename_i c1
    split
    ·simp
    split
    ·simp
    cases b with
    | none=>exact Sn c1
    | some x =>
      cases l with
      | none=>exact Sn c1
      | some y =>
        cases r with
        | none=>exact Sn c1
        | some z =>
          simp only[Lo];split
          ·split
           ·have h1 := Ip (n := n) (λk n => ih (p ++ [k]) n (Hd x k) (Hd y k) (Hd z k)) (aL (Ec [y.keys, z.keys])) (gQ _)
            rw[List.take_length]at h1;have h2:=En (Zc [y.keys,z.keys]) y;have h3:=En (Zc [y.keys,z.keys]) z;grind [L9,Af]
           split
           ·have hgap:aL (Sf.gapM (Je rl F) p n x y z).2<=Af (some y)+Af (some z):=by
              unfold Sf.gapM;split
              ·unfold Rq
               have h1:=Ep (n:=n) (base:=x.items) (x:=Fc x.items y.items) (y:=Fc x.items z.items) (λs n k=>ih (p++[s]) n _ _ _) (aL x.items);have h2:=Kw p (aL x.items) (n+(Jd (Je rl F) p n x.items (Fc x.items y.items) (Fc x.items z.items) (aL x.items)).2.length) ((Fc x.items y.items).put (aL x.items))<|(Fc x.items z.items).put (aL x.items);have h3:=Gi x.items y.items (aL x.items)<|gQ _;have h4:=Gi x.items z.items (aL x.items)<|gQ _;rw[uQ rfl]at h3 h4;have h5:∀v:Tree,Qa v.items<=Ka v:=λv=>by cases v;rw[Ka];simp only[Tree.items];omega
               grind [Af]
              grind [Sn]
            rw[Sf];cases Lh rl p with
            | none=>grind
            | some key =>
              simp only;split
              ·have h1 := Ip (n := n) (λk n => ih (p ++ [Wi k]) n (Pb x key k) (Pb y key k) (Pb z key k)) (aL (Ec [Jb y key, Jb z key])) (gQ _)
               rw[List.take_length]at h1;have h2:=Ek (Zc [Jb y key,Jb z key]) y key;have h3:=Ek (Zc [Jb y key,Jb z key]) z key;grind [Av,Af,Sn]
              grind
           grind [Sn]
          grind [Sn]
end Go.Scarf
