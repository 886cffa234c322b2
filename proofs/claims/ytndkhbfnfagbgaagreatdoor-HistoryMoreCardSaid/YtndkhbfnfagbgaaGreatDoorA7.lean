/- A part of the proof. -/
import Derived.Test.YtndkhbfnfagbgaaGreatDoorA5
set_option linter.all false
set_option maxHeartbeats 8000000
set_option maxRecDepth 10000
namespace Go.Scarf
open Go.RowKit Go.Proofs Go.Proofs.Tryz
def Ee(m:List (Nat × Nat)):List (Int × Int):=m.map λz=>((z.1:Int),(z.2:Int))
theorem ZC(m:List (Nat × Nat)):(Ee m).length=m.length:=by simp[Ee]
theorem Nx{m:List (Nat × Nat)}{i:Nat}(h:i<(Ee m).length)(h2:i<m.length):(Ee m)[i]=((m[i].1:Int),(m[i].2:Int)):=by simp[Ee]
def TL{β:Type}(f:Nat->β)(k:Nat)(v:β):Nat->β:=λx=>if x=k then v else f x
theorem Zo{β:Type}(f:Nat->β)(k:Nat)(v:β):TL f k v k=v:=if_pos rfl
theorem Mk{β:Type}{f:Nat->β}{k x:Nat}{v:β}(h:x≠k):TL f k v x=f x:=if_neg h
def Ti(n size:Nat):List (Nat × Nat)->Nat->(Nat->List Int)->Nat->List Int
  | [],j,gp=>TL gp n (gp n++rng j size)
  | z::m,j,gp=>Ti n size m (z.2+1) (TL gp z.1 (gp z.1++rng j z.2))
structure Gp (w0 w:World) (N ob jb vb:Nat) (hd:Nat->Value) (gp:Nat->List Int) (sg:Nat->List (Nat × Obj)) (j:Nat):Prop where
  top:w.heap[ob]? = some (.cells (Mm N hd) 23)
  cj:w.heap[jb]? = some (.cells #[J (j:Nat)] 3)
  cv:w.heap[vb]? = some (.cells #[W ob N N] 121)
  row:∀g,g<N->∃A c,hd g=.slice A (gp g).length c/\SlB 3 1 A (gp g).length c (O3 (gp g)) (sg g)
  mem:∀g,g<N->∀z∈sg g,w.heap[z.1]? = some z.2/\w0.heap.size<=z.1/\z.1≠ob/\z.1≠jb/\z.1≠vb
  apart:∀g g',g<N->g'<N->g≠g'->∀z∈sg g,∀y∈sg g',z.1≠y.1
  new:w0.heap.size<=ob/\w0.heap.size<=jb/\w0.heap.size<=vb
  ne:jb≠ob/\vb≠ob/\vb≠jb
section
variable {w0 w w':World}{N ob jb vb j:Nat}{hd:Nat->Value}{gp:Nat->List Int}{sg:Nat->List (Nat × Obj)}
theorem Gp.keep(h:Gp w0 w N ob jb vb hd gp sg j){E:List Nat}(hs:Same E w w')(h1:ob∉E)(h2:jb∉E)(h3:vb∉E)(h4:∀g,g<N->∀z∈sg g,z.1∉E):Gp w0 w' N ob jb vb hd gp sg j :=
  ⟨(hs.block _ (Ma h.top) h1).trans h.top,(hs.block _ (Ma h.cj) h2).trans h.cj,(hs.block _ (Ma h.cv) h3).trans h.cv,h.row,
    λg hg z hz=>⟨(hs.block _ (Ma (h.mem g hg z hz).1) (h4 g hg z hz)).trans (h.mem g hg z hz).1,(h.mem g hg z hz).2⟩,h.apart,h.new,h.ne⟩
theorem Gp.ext(h:Gp w0 w N ob jb vb hd gp sg j)(hs:Same [] w w'):Gp w0 w' N ob jb vb hd gp sg j:=h.keep hs Da Da Da (λ_ _ _ _=>by simp)
theorem Gp.setj(h:Gp w0 w N ob jb vb hd gp sg j){k:Nat}(hs:Same [jb] w w')(hn:w'.heap[jb]? = some (.cells #[J (k:Nat)] 3)):Gp w0 w' N ob jb vb hd gp sg k :=
  ⟨(hs.block _ (Ma h.top) (by simpa using λe=>h.ne.1 e.symm)).trans h.top,hn,(hs.block _ (Ma h.cv) (by simpa using h.ne.2.2)).trans h.cv,h.row,
    λg hg z hz=>⟨(hs.block _ (Ma (h.mem g hg z hz).1) (by simpa using (h.mem g hg z hz).2.2.2.1)).trans (h.mem g hg z hz).1,(h.mem g hg z hz).2⟩,h.apart,h.new,h.ne⟩
theorem Gp.fill(h:Gp w0 w N ob jb vb hd gp sg j){g k j':Nat}(hg:g<N){A':Option Addr}{c':Nat}{sg':List (Nat × Obj)}(h1:w'.heap[ob]? = some (.cells (Mm N (Iy hd g (.slice A' (gp g++rng j k).length c'))) 23))(h2:w'.heap[jb]? = some (.cells #[J (j':Nat)] 3))
    (h3:w'.heap[vb]? = some (.cells #[W ob N N] 121)) (h4:SlB 3 1 A' (gp g++rng j k).length c' (O3 (gp g++rng j k)) sg') (h5:∀z∈sg',w'.heap[z.1]? = some z.2/\z.1≠ob/\z.1≠jb/\z.1≠vb/\(z.1∈(sg g).map (·.1)\/w.heap.size<=z.1))
    (hs:Same ([ob,jb,vb]++(sg g).map (·.1)) w w') (hw:w0.heap.size<=w.heap.size):Gp w0 w' N ob jb vb (Iy hd g (.slice A' (gp g++rng j k).length c')) (TL gp g (gp g++rng j k)) (TL sg g sg') j':=by
  have hnew:∀z∈sg',w0.heap.size<=z.1:=λz hz=>(h5 z hz).2.2.2.2.elim (λhm=>by obtain⟨y,hy,e⟩:=nQ.1 hm;rw[<-e];exact (h.mem g hg y hy).2.1) (λhl=>fQ hw hl);have hoff:∀g',g'<N->g'≠g->∀y∈sg g',∀z∈sg',y.1≠z.1:=λg' hg' hne y hy z hz e=>(h5 z hz).2.2.2.2.elim (λhm=>by obtain⟨x,hx,e2⟩:=nQ.1 hm;exact h.apart g' g hg' hg hne y hy x hx (e.trans e2.symm)) (λhl=>by have:=Ma (h.mem g' hg' y hy).1;omega);refine⟨h1,h2,h3,λg' hg'=>?_,λg' hg' z hz=>?_,λa b ha hb hab z hz y hy=>?_,h.new,h.ne⟩
  ·by_cases e : g' = g
   ·subst e;rw[UR,Zo,Zo];exact⟨A',c',rfl,h4⟩
   rw[setV_ne e,Mk e,Mk e];exact h.row g' hg'
  ·by_cases e : g' = g
   ·subst e;rw[Zo]at hz;exact⟨(h5 z hz).1,hnew z hz,(h5 z hz).2.1,(h5 z hz).2.2.1,(h5 z hz).2.2.2.1⟩
   rw[Mk e]at hz;have hm:=h.mem g' hg' z hz;refine⟨(hs.block _ (Ma hm.1) λhx=>?_).trans hm.1,hm.2⟩;rcases mQ.1 hx with hx|hx
   ·simp only[oQ, List.not_mem_nil, or_false]at hx
    rcases hx with hx|hx|hx
    ·exact hm.2.2.1 hx
    ·exact hm.2.2.2.1 hx
    exact hm.2.2.2.2 hx
   obtain⟨y, hy, e2⟩ := nQ.1 hx;exact h.apart g' g hg' hg e z hz y hy e2.symm
  by_cases ea : a = g
  ·subst ea
   rw[Zo]at hz;rw[Mk (λq=>hab q.symm)]at hy;exact λe=>hoff b hb (λq=>hab q.symm) y hy z hz e.symm
  rw[Mk ea]at hz;by_cases eb:b=g
  ·subst eb;rw[Zo]at hy;exact hoff a ha ea z hz y hy
  rw[Mk eb]at hy;exact h.apart a b ha hb hab z hz y hy
def J5(N:Nat)(gp:Nat->List Int):D:=.slice ((List.range N).map λg=>.slice ((gp g).map Zd))
theorem G_{S:Nat->Prop}:∀(N:Nat)(d:Nat->D)(f:Nat->Value),(∀g,g<N->Rep S w (d g) [f g])->RepL S w ((List.range N).map d) ((List.range N).map f)
  | 0,d,f,_=>RepL.nil_mk
  | N + 1, d, f, h => by
    rw[List.range_succ,jQ,jQ];exact RepL.append (G_ N d f λg hg=>h g sX) (by rw[List.map_cons,List.map_nil,List.map_cons,List.map_nil,RepL];exact⟨[f N],[],O,h N sX,RepL.nil_mk⟩)
theorem Gp.rep(h:Gp w0 w N ob jb vb hd gp sg j)(hN:N<=1000)(hb:∀g,g<N->∀z∈gp g,-9223372036854775808<=z/\z<=9223372036854775807):Rep (Btw w0 w) w (J5 N gp) [W ob N N]:=by
  refine Rep.slice_mk Da (gQ _) sX λ_=>⟨_,O,(List.range N).map hd,λi hi=>⟨?_,h.new.1,Ma h.top,_,_,h.top⟩,G_ N _ _ λg hg=>?_⟩
  ·have hi' : i<N := by simpa using hi
   rw[Fl,Nat.zero_add,Pb h.top,PB hi'];simp
  obtain⟨A, c, e, hS⟩ := h.row g hg;rw[e];refine hS.repOf (λz hz=>?_) (An (hb g hg)) Da;have hm:=h.mem g hg z hz;obtain⟨cur,he⟩:=hS.typ.2 z hz;exact⟨hm.1,hm.2.1,Ma hm.1,cur,3,by rw[hm.1,he]⟩
end
theorem MH{n size B:Nat}(hs:size<=B):∀(m:List (Nat × Nat))(j:Nat)(gp:Nat->List Int),(∀z∈m,z.2<=B)->(∀g,∀z∈gp g,(0:Int)<=z/\z<(B:Int))->∀g,∀z∈Ti n size m j gp g,(0:Int)<=z/\z<(B:Int)
  | [], j, gp, _, h, g, z, hz => by
    rw[Ti]at hz;by_cases e:g=n
    ·subst e
     rw[Zo]at hz;rcases mQ.1 hz with hz|hz
     ·exact h g z hz
     have:=TZ z hz;omega
    rw[Mk e]at hz;exact h g z hz
  | y :: m, j, gp, hm, h, g, z, hz => by
    rw[Ti]at hz;refine MH hs m _ _ (λx hx=>hm x (by simp[hx])) (λg' x hx=>?_) g z hz;have hy:=hm y Da;by_cases e:g'=y.1
    ·subst e
     rw[Zo]at hx;rcases mQ.1 hx with hx|hx
     ·exact h _ x hx
     have:=TZ x hx;omega
    rw[Mk e]at hx;exact h g' x hx
section
variable {P:Program}{R:Exit->Act->World->Prop}{n:Nat}{k:Kt}{s:Nat->Value}{w:World}{ops rest:List Oper}
variable {ty:TypeId}{pos:String}{aft:Array Edge}{g:Option (Nat × Bool)}{w0:World}{Ds:List Nat}{bs:List (Nat × Obj)}
theorem o_storeO{t T:TypeId}{x y:Operand}{b off:Nat}{l l':List Value}{u:Value}(v:Value)(hF:FR w0 Ds bs w)(hs:∀w,(sizeOf t).run P w=.ok 1 w)(hx:ev n s x=.pointer (some ⟨b,off,none⟩))(hy:ev n s y=v)(hh:w.heap[b]? = some (.cells l.toArray T))(hc:AtI off l u v l')(hD:b∈Ds\/w0.heap.size<=b)(hn:∀p∈bs,p.1≠b)
    (h:∀w',FR w0 Ds bs w'->Same [b] w w'->w'.heap[b]? = some (.cells l'.toArray T)->Og P R n ops k rest s w') (hv:v.cells=#[v]:=by rfl) (ho:one v=true:=by rfl)
    (hw:Vb ops n s ⟨none,.store t x y,ty,pos,aft,g⟩=true:=by rfl):Og P R n ops k (⟨none,.store t x y,ty,pos,aft,g⟩::rest) s w:=by
  have hsp:=Vj b off (fz:=(0,0)) [v] 0 w l.toArray hh;rw[Nat.add_zero,D2,hc.set]at hsp;refine Z3 (Y0 (l:=[v]) hs hx hy hv (by simpa using ho) λi hi=>?_) (h (putCells w ⟨b,off,none⟩ 0 [v]) (hF.touch hsp.2 λb' hb=>?_) hsp.2 hsp.1) hw
  ·obtain rfl : i = 0 := by simp at hi;omega
   rw[Vo,Pb hh];exact⟨⟨u,by simpa using hc.get⟩,Tk hh _⟩
  obtain rfl := pQ.1 hb;exact⟨λh=>hD.resolve_right sX,hn⟩
end
def Ot:List (Nat × Nat)->(Nat->Int)->Nat->Int
  | [],f=>f
  | z::m,f=>Ot m (Ej f z.1 (z.2:Int))
theorem SQ{B:Int}:∀(m:List (Nat × Nat))(f:Nat->Int),(∀z∈m,(z.2:Int)<B)->(∀k,-1<=f k/\f k<B)->∀k,-1<=Ot m f k/\Ot m f k<B
  | [],f,_,h,k=>h k
  | z :: m, f, hm, h, k => SQ m _ (λy hy => hm y (by simp[hy])) (λk' => by
    have hz:=hm z Da;by_cases e:k'=z.1
    ·subst e;rw[Zx];omega
    rw[Eu e];exact h k') k
theorem JM{w0 w:World}{b n:Nat}{f:Nat->Int}(h:w.heap[b]? = some (.cells (Ub n f) 3))(hb:w0.heap.size<=b)(hn:n<=1000000)(hf:∀k,k<n->-9223372036854775808<=f k/\f k<=9223372036854775807):Rep (Btw w0 w) w (.slice (((List.range n).map f).map Zd)) [W b n n]:=by
  refine Rep.slice_mk Da (gQ _) sX λ_=>⟨_,O,((List.range n).map f).map λs=>Value.int .i64 s,λi hi=>⟨?_,hb,Ma h,_,_,h⟩,An λs hs=>?_⟩
  ·have hi' : i<n := by simpa using hi
   rw[Fl,Nat.zero_add,Pb h,Xo hi'];simp
  obtain⟨k, hk, rfl⟩ := nQ.1 hs;exact hf k (List.mem_range.1 hk)
theorem gaps_yes(S:Nat->Prop)(w0:World)(n:Nat)(mp:List (Nat × Nat))(A:Option Addr)(c:Nat)(hX:Rep S w0 (G3 (Ee mp)) [.slice A (Ee mp).length c])(hr:Bz n (Ee mp)=true)(hn:n<=64)(hm:mp.length<=100)(size:Nat)(hs:size<=64)(hmp:∀z∈mp,z.1<n/\z.2<size):Calls prog 124 #[J ((n:Nat):Int),.slice A (Ee mp).length c,J ((size:Nat):Int)] w0 (Td λv w'=>∃ob:Nat,v=.tuple #[W ob (n+1) (n+1),.bool true]/\Rep (Btw w0 w') w' (J5 (n+1) (Ti n size mp 0 λ_=>[])) [W ob (n+1) (n+1)]/\Same [] w0 w'):=by
 have hcl:=ZC mp;have hXl:=hX.pairs_len;refine Ga func124 O ntmps124 Fb (Oj _ _ _) ?_;have hF:=FR.start w0 [];refine Ja (Ca (Qg O) (Ca (Hc O) (Ea (Ha (Ha ?_)))));refine Jl (λσ w=>AllEq σ [(0,J ((n:Nat))),(1,.slice (A) ((Ee mp).length) (c)),(2,J ((size:Nat))),(40,.bool false)]/\FR w0 [] [] w) ?_ ?_;refine Fa (Ca (Kb O) (Ca (Pd O) ?_));refine Gb hF (Ki (v':=.bool true) (PK _ _ (n:Int) (Ee mp) A c (hF.rep hX)) (by rw[hr])) (Za AZ O O O) ?_;intro w hF;refine Ca (Zj (b:=true) O) (Ca (Ae O) (Ca (Kb O) (Ka (v:=.bool false) (Je (SC O O) sX) (Ca (Md O O) (Ca (Ae O) (Ca (Kb O) (Ka (v:=.bool false) (Je (CQ O O) sX) (Ca (Md O O) (Ca (Ae O) (Ca (Pd O) (Ca (Ye yZ O) (Ca (QB O O) (Ca (Ae O) ?_)))))))))))));refine Dd (d:=29) O (λhg0=>?_) (λhg0=>?_);refine Ca (Pd O) (Ca (Pd O) (Ca (Ye yZ O) (Ca (U9 ((((Ee mp).length-1:Nat):Int)) O O) ?_)));obtain⟨ad1,hA1,hk1,hx1⟩:=hX.pair_elem (i:=((Ee mp).length-1)) sX;refine Ka (v:=.pointer (some (ad1.add (((Ee mp).length-1)*2)))) (Pa (i:=(((Ee mp).length-1:Nat):Int)) B9 O hA1 O sX sX) (Ka (v:=.pointer (some ((ad1.add (((Ee mp).length-1)*2)).add 1))) (Wc (a:=ad1.add (((Ee mp).length-1)*2)) Lr O) (Ka (v:=J (((Ee mp)[(Ee mp).length-1]).2)) (Jb bZ O (hF.cell0 (hk1 1 Fb))) (Ca (Kb O) ?_)));refine Ka (v:=.bool false) (Je (x_geq O O) (by have h1:=hmp _ (List.getElem_mem (l:=mp) (n:=mp.length-1) sX);have h2:=Nx (m:=mp) (i:=mp.length-1) sX sX;have h3:(Ee mp)[(Ee mp).length-1]=(Ee mp)[mp.length-1]:=(by congr 1;omega);rw[h3,h2];simp only;omega)) ?_;refine Ca (Nd O O) (Ca (Md O O) (Db ?_));exact Yb ⟨Tq,hF⟩;refine Oa (Oa (Oa (Oa (Oa (Oa (Oa (Oa (Oa (Ca (Md O O) (Ca (Md O O) (Db ?_)))))))))));exact Yb ⟨Tq,hF⟩;rintro σ w ⟨hs,hF⟩;refine Eg.slots hs ?_;clear hs;intro σ;refine Ia (Gy O (Ja (Ca (Kb O) (Ca (Ok (((n+1:Nat):Int)) O O) ?_))))
 refine Xp (v:=λb=>W b (n+1) (n+1)) (o:=.cells (List.replicate (n+1) (aQ)).toArray 23) hF (TD (z:=aQ) Xh Mb O O O sX Ua) ?_;rintro b1 w hb1 hF -;refine o_ly (.slice _ _ _) hF zeroValue121 gZ O ?_;rintro b2 w hb2 hF -;refine Fc (o_ly (.int _ _) hF oX qZ O ?_);rintro b3 w hb3 hF -;refine Fc (Ka (v:=.func (.func 168) #[] #[V b3,V b2]) (Wn O O) (Ca (Ry) (Ea (Ha (Ha ?_)))));rw[CU (n+1)]at hF;have hG_:Gp w0 w (n+1) b1 b3 b2 (λ_=>aQ) (λ_=>[]) (λ_=>[]) 0:=⟨hF.heap (i:=2) rfl,hF.heap (i:=0) rfl,hF.heap (i:=1) rfl,λg _=>⟨none,0,rfl,SlB.nil _ _⟩,λg _ z hz=>(by cases hz),λ_ _ _ _ _ z hz=>(by cases hz),⟨hF.ge (i:=2) rfl,hF.ge (i:=0) rfl,hF.ge (i:=1) rfl⟩,⟨Ci hF.desc (i:=0) (j:=2) rfl rfl Ua,Ci hF.desc (i:=1) (j:=2) rfl rfl Ua,Ci hF.desc (i:=1) (j:=0) rfl rfl Ua⟩⟩;have hF:=hF.clear;refine Fa (Ca (Pd O) (Ca (Ye yZ O) (Ca (Kb O) (Ea (Va ?_)))));refine Rc (λμ σ w=>∃(t:Nat),∃(hd:Nat->Value),∃(gp:Nat->List Int),∃(sg:Nat->List (Nat × Obj)),∃(j:Nat),μ=mp.length-t/\(t<=mp.length)/\(Gp w0 w (n+1) b1 b3 b2 hd gp sg j)/\(Ti n size (mp.drop t) j gp=Ti n size mp 0 λ_=>[])/\(∀g,g<n+1->(gp g).length<=64*t)/\(j<=64)/\AllEq σ [(0,J ((n:Nat))),(2,J ((size:Nat))),(8,V b2),(9,V b3),(10,.func (.func 168) #[] #[V b3,V b2]),(45,.slice (A) ((Ee mp).length) (c)),(46,J (((Ee mp).length:Nat))),(47,J ((t:Int)))]/\FR w0 [] [] w) _ ⟨0,_,_,_,0,O,(Nat.zero_le _),(hG_),(O),(λg _=>by simp),sX,XD,hF⟩ ?_;rintro μ σ w ⟨t,hd,gp,sg,j,rfl,ht,hG_,hrun,hlen,hj,hs,hF⟩;refine Cg.slots hs ?_;clear hs;intro σ;refine Ja (Ca (Kl O O) (Ea (Ha ?_)));refine Pc O O (λhc1=>?_) (λhc1=>?_);refine Ta (Ia (Ha (Va (Ha ?_))));obtain⟨a,b,hmt⟩:∃a b:Nat,mp[t]=(a,b):=⟨_,_,rfl⟩;have hab:(Ee mp)[t]=((a:Int),(b:Int)):=by rw[Nx sX sX,hmt]
 have hab1:=hmp _ (List.getElem_mem (l:=mp) (n:=t) sX);rw[hmt]at hab1;refine Fa ?_;obtain⟨ad2,hA2,hk2,hx2⟩:=hX.pair_elem (i:=t) sX;rw[hab]at hk2 hx2;refine Ka (v:=.pointer (some (ad2.add (t*2)))) (Pa (i:=(t:Int)) B9 O hA2 O sX sX) (Ka (v:=.agg #[J ((((a:Int),(b:Int))).1),J ((((a:Int),(b:Int))).2)]) (Ya (l:=M2 ((a:Int),(b:Int))) isAgg224 kZ O O (hF.cells0 hk2)) ?_);refine Kh hF zeroValue224 kZ O ?_;intro b4 w hb4 hF hE;have hn_:b1≠b4/\b3≠b4/\b2≠b4/\∀z∈sg a,z.1≠b4:=by have e1:=Ma hG_.top;have e2:=Ma hG_.cj;have e3:=Ma hG_.cv;exact⟨by omega,by omega,by omega,λz hz=>by have:=Ma (hG_.mem a sX z hz).1;omega⟩
 replace hG_:=hG_.ext hE;refine Fc (Ca (Mr) (Ca (Xb Uw O) (Yc (Xs bZ O hF.F 0 O O) (Ca (Xb Lr O) (Yc (Xs bZ O hF.F 0 O O) ?_)))));obtain⟨Ax,cx,hrow⟩:=hG_.row (a) sX;have hF0:=hF.same.size;refine Cb (UZ _ (n+1) (a) b1 b3 b2 (b) j hd (gp (a)) Ax cx (sg (a)) sX sX sX sX (by have:=hlen (a) sX;omega) hG_.top hG_.cj hG_.cv hrow.1 hrow.2 (λz hz=>by have h:=hG_.mem (a) sX z hz;exact⟨h.1,h.2.2⟩) hG_.ne) (Xq O SW O O O) ?_;rintro _ w ⟨A2,c2,sg2,rfl,h1,h2,h3,h4,h5,hE⟩;have hG2:=hG_.fill (g:=a) sX h1 h2 h3 h4 h5 hE hF0;have hF:=hF.touch hE (λy hy=>by rcases mQ.1 hy with hy|hy;(simp only[oQ,List.not_mem_nil,or_false]at hy;have hnw:=hG_.new;refine⟨λh=>absurd h (by rcases hy with rfl|rfl|rfl <;> omega),?_⟩;intro z hz;obtain rfl:=pQ.1 hz;rcases hy with rfl|rfl|rfl;(exact λe=>hn_.1 e.symm);(exact λe=>hn_.2.1 e.symm);(exact λe=>hn_.2.2.1 e.symm));(obtain⟨x,hx,rfl⟩:=nQ.1 hy;have hmx:=hG_.mem (a) sX x hx;refine⟨λh=>absurd h sX,?_⟩;intro z hz;obtain rfl:=pQ.1 hz;exact λe=>hn_.2.2.2 x hx e.symm));clear hG_ h1 h2 h3 h4 h5 hE hrow hF0;have hG_:=hG2;clear hG2;refine Ea (Fa (Ca (Xb Lr O) (Yc (Xs bZ O hF.F 0 O O) (Ca (Ok (((b+1:Nat):Int)) O O) ?_))));refine o_storeO (.int _ _) hF qZ O O hG_.cj Mh (.inr hG_.new.2.1) (by simpa using λe=>hn_.2.1 e.symm) ?_;intro w hF hE hnew;replace hG_:=hG_.setj hE hnew;refine Db (Ib (Ia (Fa (Ca (Ok (((t+1:Nat):Int)) O O) (Ca (Kb O) (Db ?_))))));refine Yb ⟨_,?_,t+1,_,_,_,b+1,rfl,sX,(hG_),(by rw[<-hrun,List.drop_eq_getElem_cons (show t<mp.length by omega),Ti,hmt]),(λg hg=>by by_cases e:g=a;(subst e;rw[Zo,dQ,Y6];have:=hlen g hg;omega);(rw[Mk e];have:=hlen g hg;omega)),sX,XD,hF.drop 1⟩;omega;refine Nc (Kc O ?_);refine Ia (Ja (Ca (Mr) (Ca (Kb O) (Ca (Kb O) ?_))));obtain⟨Ax,cx,hrow⟩:=hG_.row (n) sX
 have hF0:=hF.same.size;refine Cb (UZ _ (n+1) (n) b1 b3 b2 (size) j hd (gp (n)) Ax cx (sg (n)) sX sX sX sX (by have:=hlen (n) sX;omega) hG_.top hG_.cj hG_.cv hrow.1 hrow.2 (λz hz=>by have h:=hG_.mem (n) sX z hz;exact⟨h.1,h.2.2⟩) hG_.ne) (Xq O SW O O O) ?_;rintro _ w ⟨A2,c2,sg2,rfl,h1,h2,h3,h4,h5,hE⟩;have hG2:=hG_.fill (g:=n) sX h1 h2 h3 h4 h5 hE hF0;have hF:=hF.touch hE (λy hy=>by rcases mQ.1 hy with hy|hy;(simp only[oQ,List.not_mem_nil,or_false]at hy;have hnw:=hG_.new;refine⟨λh=>absurd h (by rcases hy with rfl|rfl|rfl <;> omega),?_⟩;simp);(obtain⟨x,hx,rfl⟩:=nQ.1 hy;have hmx:=hG_.mem (n) sX x hx;refine⟨λh=>absurd h sX,?_⟩;simp));clear hG_ h1 h2 h3 h4 h5 hE hrow hF0;have hG_:=hG2;clear hG2;refine Fc ?_;refine Ka (v:=W b1 (n+1) (n+1)) (Jb tQ O (by rw[Pb hG_.cv];rfl)) ?_;refine Ca (Qg O) (Ca (Hc O) (Ea ?_));refine Cc (Bc (Sa (Bg (v:=.slice _ _ _) (x:=.bool true) O O O) ?_));obtain rfl:t=mp.length:=by omega
 rw[List.drop_length,Ti]at hrun;rw[hrun]at hG_;exact⟨b1,O,hG_.rep sX (λg _ z hz=>by have:=MH (B:=64) hs mp 0 (λ_=>[]) (λy hy=>by have:=hmp y hy;omega) (λ_ z hz=>by cases hz) g z hz;omega),hF.same⟩
theorem PS(S:Nat->Prop)(w0:World)(n:Nat)(mp:List (Nat × Nat))(A:Option Addr)(c:Nat)(hX:Rep S w0 (G3 (Ee mp)) [.slice A (Ee mp).length c])(hr:Bz n (Ee mp)=true)(hn:n<=64)(hm:mp.length<=100)(hmp:∀z∈mp,z.1<n/\(z.2:Int)<9223372036854775807):Calls prog 125 #[J ((n:Nat):Int),.slice A (Ee mp).length c] w0 (Td λv w'=>∃ob:Nat,v=.tuple #[W ob n n,.bool true]/\Rep (Btw w0 w') w' (.slice (((List.range n).map (Ot mp λ_=>-1)).map Zd)) [W ob n n]/\Same [] w0 w'):=by
 have hcl:=ZC mp;have hXl:=hX.pairs_len;refine Ga func125 O ntmps125 Fb (Zc _ _) ?_;have hF:=FR.start w0 [];refine Ja (Ca (Qg O) (Ca (Hc O) (Ea (Ha (Ha ?_)))));refine Jl (λσ w=>AllEq σ [(0,J ((n:Nat))),(1,.slice (A) ((Ee mp).length) (c)),(28,.bool false)]/\FR w0 [] [] w) ?_ ?_;refine Fa (Ca (Kb O) (Ca (Pd O) ?_));refine Gb hF (Ki (v':=.bool true) (PK _ _ (n:Int) (Ee mp) A c (hF.rep hX)) (by rw[hr])) (Za AZ O O O) ?_;intro w hF;refine Ca (Zj (b:=true) O) (Ca (Ae O) (Ca (Pd O) (Ca (Ye yZ O) (Ca (QB O O) (Ca (Ae O) ?_)))));refine Dd (d:=18) O (λhg0=>?_) (λhg0=>?_);refine Ca (Pd O) (Ca (Pd O) (Ca (Ye yZ O) (Ca (U9 ((((Ee mp).length-1:Nat):Int)) O O) ?_)));obtain⟨ad1,hA1,hk1,hx1⟩:=hX.pair_elem (i:=((Ee mp).length-1)) sX;refine Ka (v:=.pointer (some (ad1.add (((Ee mp).length-1)*2)))) (Pa (i:=(((Ee mp).length-1:Nat):Int)) B9 O hA1 O sX sX) (Ka (v:=.pointer (some ((ad1.add (((Ee mp).length-1)*2)).add 1))) (Wc (a:=ad1.add (((Ee mp).length-1)*2)) Lr O) (Ka (v:=J (((Ee mp)[(Ee mp).length-1]).2)) (Jb bZ O (hF.cell0 (hk1 1 Fb))) ?_));refine Ka (v:=.bool false) (Je (Vp O O) (by have h1:=hmp _ (List.getElem_mem (l:=mp) (n:=mp.length-1) sX);have h2:=Nx (m:=mp) (i:=mp.length-1) sX sX;have h3:(Ee mp)[(Ee mp).length-1]=(Ee mp)[mp.length-1]:=(by congr 1;omega);rw[h3,h2];simp only;omega)) ?_;refine Ca (Nd O O) (Ca (Md O O) (Db ?_));exact Yb ⟨I7,hF⟩;refine Oa (Oa (Oa (Oa (Oa (Oa (Oa (Oa (Ca (Md O O) (Ca (Md O O) (Db ?_))))))))));exact Yb ⟨I7,hF⟩;rintro σ w ⟨hs,hF⟩;refine Eg.slots hs ?_;clear hs;intro σ;refine Ia (Gy O (Ja (Ca (Kb O) ?_)));refine Xp (v:=λb=>W b n n) (o:=.cells (Ub (n) λ_=>0) 3) hF (Kn Sj Mb O O sX) ?_;rintro b1 w hb1 hF -;refine Ca (Qg O) (Ea (Ha (Ja (Ca (Pd O) (Ca (Ye bX O) (Ca (Kb O) (Ea (Va ?_))))))));refine Rc (λμ σ w=>∃(i:Nat),∃(f:Nat->Int),μ=n-i/\(i<=n)/\(∀k,k<i->f k = -1)/\AllEq σ [(1,.slice (A) ((Ee mp).length) (c)),(6,W b1 n n),(32,J ((n:Nat))),(33,J ((i:Int)))]/\FR w0 [] [(b1,.cells (Ub (n) (f)) 3)] w) _ ⟨0,λ_=>0,O,(Nat.zero_le _),(λk hk=>by omega),Tq,hF⟩ ?_
 rintro μ σ w ⟨i,f,rfl,hi,hf,hs,hF⟩;refine Cg.slots hs ?_;clear hs;intro σ;refine Ja (Ca (Kl O O) (Ea (Ha ?_)));refine Pc O O (λhc1=>?_) (λhc1=>?_);refine Ta (Ia (Ha (Va (Ja (Ca (Kb O) (Ca (Sc O) (Ea (Fa (Ca (Pd O) (Ca (Kb O) (Ka (v:=.pointer (some ⟨b1,i,none⟩)) (Gc (i:=(i:Int)) (i) Ef O O sX sX sX) ?_)))))))))));refine Zf 0 (l:=[J ((-1))]) (cs':=Ub (n) (Ej (f) (i) ((-1)))) hF qZ O (v:=J ((-1))) O O Le O (by rw[Oi];simp only[List.length_singleton];exact Nat.succ_le_of_lt sX) (Yh _) ?_;rintro w hF -;refine Db (Ib (Ia (Fa (Ca (Ok (((i+1:Nat):Int)) O O) (Ca (Kb O) (Db ?_))))));refine Yb ⟨_,?_,i+1,Ej (f) (i) ((-1)),rfl,sX,(λk hk=>by by_cases e:k=i;(subst e;exact Zx _ _ _);(rw[Eu e];exact hf k sX)),Tq,hF⟩;omega;refine Nc (Kc O ?_);refine Ia (Ha (Ha ?_));rw[CH (N:=n) (f:=f) (g:=λ_=>-1) (λk hk=>hf k sX)]at hF;refine Fa (Ca (Pd O) (Ca (Ye yZ O) (Ca (Kb O) (Ea (Va ?_)))));refine Rc (λμ σ w=>∃(t:Nat),∃(f:Nat->Int),μ=mp.length-t/\(t<=mp.length)/\(Ot (mp.drop t) f=Ot mp λ_=>-1)/\AllEq σ [(6,W b1 n n),(40,.slice (A) ((Ee mp).length) (c)),(41,J (((Ee mp).length:Nat))),(42,J ((t:Int)))]/\FR w0 [] [(b1,.cells (Ub (n) (f)) 3)] w) _ ⟨0,λ_=>-1,O,(Nat.zero_le _),(O),Tq,hF⟩ ?_;rintro μ σ w ⟨t,f,rfl,ht,hrun,hs,hF⟩;refine Cg.slots hs ?_;clear hs;intro σ;refine Ja (Ca (Kl O O) (Ea (Ha ?_)));refine Pc O O (λhc2=>?_) (λhc2=>?_);refine Ta (Ia (Ha (Va (Ha ?_))));obtain⟨a,b,hmt⟩:∃a b:Nat,mp[t]=(a,b):=⟨_,_,rfl⟩;have hab:(Ee mp)[t]=((a:Int),(b:Int)):=by rw[Nx sX sX,hmt]
 have hab1:=hmp _ (List.getElem_mem (l:=mp) (n:=t) sX);rw[hmt]at hab1;refine Fa ?_;obtain⟨ad2,hA2,hk2,hx2⟩:=hX.pair_elem (i:=t) sX;rw[hab]at hk2 hx2;refine Ka (v:=.pointer (some (ad2.add (t*2)))) (Pa (i:=(t:Int)) B9 O hA2 O sX sX) (Ka (v:=.agg #[J ((((a:Int),(b:Int))).1),J ((((a:Int),(b:Int))).2)]) (Ya (l:=M2 ((a:Int),(b:Int))) isAgg224 kZ O O (hF.cells0 hk2)) ?_);refine Kh hF zeroValue224 kZ O ?_;rintro b2 w hb2 hF -;refine Ea (Fa (Ca (Pd O) (Ca (Xb Uw O) (Yc (Xs bZ O hF.F 0 O O) (Ca (Xb Lr O) (Yc (Xs bZ O hF.F 0 O O) (Ka (v:=.pointer (some ⟨b1,a,none⟩)) (Gc (i:=(((a:Int),(b:Int))).1) (a) Ef O O sX sX sX) ?_)))))));refine Zf 1 (l:=[J ((((a:Int),(b:Int))).2)]) (cs':=Ub (n) (Ej (f) (a) ((((a:Int),(b:Int))).2))) hF qZ O (v:=J ((((a:Int),(b:Int))).2)) O O Le O (by rw[Oi];simp only[List.length_singleton];exact Nat.succ_le_of_lt sX) (Yh _) ?_;rintro w hF -;refine Db (Ib (Ia (Fa (Ca (Ok (((t+1:Nat):Int)) O O) (Ca (Kb O) (Db ?_))))));refine Yb ⟨_,?_,t+1,Ej (f) (a) ((((a:Int),(b:Int))).2),O,sX,(by rw[<-hrun,List.drop_eq_getElem_cons (show t<mp.length by omega),Ot,hmt]),Tq,hF.drop 1⟩;omega;refine Nc (Kc O ?_);refine Ia (Ja (Ca (Pd O) (Ca (Qg O) (Ca (Hc O) (Ea ?_)))));refine Cc (Bc (Sa (Bg (v:=.slice _ _ _) (x:=.bool true) O O O) ?_));obtain rfl:t=mp.length:=by omega
 rw[List.drop_length,Ot]at hrun;rw[hrun]at hF;exact⟨b1,O,JM (hF.heap (i:=0) O) (hF.ge (i:=0) O) sX (λk _=>by have:=SQ (B:=9223372036854775807) mp (λ_=>-1) (λz hz=>(hmp z hz).2) (λ_=>by omega) k;omega),hF.same⟩
end Go.Scarf
