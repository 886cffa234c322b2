/- A part of the proof. -/
import Derived.Test.YtndkhbfnfagbgaaGreatDoorHs1
set_option linter.all false
set_option maxHeartbeats 8000000
set_option maxRecDepth 10000
namespace Go.Scarf
open Go.RowKit
structure SetL (l:List Int) (S:Nat->Prop):Prop where
  nd:l.Nodup
  mem:∀x:Int,x∈l↔∃j:Nat,x=(j:Int)/\S j
theorem SetL.nil:SetL [] (λ_=>False):=⟨List.nodup_nil,λx=>by simp⟩
theorem SetL.at{l:List Int}{S:Nat->Prop}(h:SetL l S)(j:Nat):(j:Int)∈l↔S j:=by
  rw[h.mem];exact⟨λ⟨i,e,hi⟩=>(by obtain rfl:j=i:=sX;exact hi),λhj=>⟨j,rfl,hj⟩⟩
theorem SetL.congr{l:List Int}{S T:Nat->Prop}(h:SetL l S)(e:∀j,S j↔T j):SetL l T:=⟨h.nd,λx=>by
  rw[h.mem];exact⟨λ⟨j,a,b⟩=>⟨j,a,(e j).1 b⟩,λ⟨j,a,b⟩=>⟨j,a,(e j).2 b⟩⟩⟩
theorem SetL.add{l:List Int}{S:Nat->Prop}(h:SetL l S){k:Nat}(hk:¬S k):SetL (l++[(k:Int)]) (λj=>S j\/j=k):=⟨by
  rw[List.nodup_append];exact⟨h.nd,by simp,λa ha b hb e=>by rw[pQ.1 hb]at e;subst e;exact hk ((h.at k).1 ha)⟩,λx=>by
  rw[mQ,pQ,h.mem];exact⟨λhx=>hx.elim (λ⟨j,a,b⟩=>⟨j,a,.inl b⟩) λe=>⟨k,e,.inr rfl⟩,λ⟨j,a,b⟩=>b.elim (λb=>.inl ⟨j,a,b⟩) λe=>.inr (by rw[a,e])⟩⟩
theorem SetL.less{l:List Int}{S:Nat->Prop}(h:SetL l S){N:Nat}(hN:∀j,S j->j<N):l.length<=N:=by
  have hp:l.Perm ((List.range N).map (λi:Nat=>(i:Int)) |>.filter λx=>decide (x∈l)):=Qk h.nd (List.Pairwise.filter _ (List.pairwise_map.2 ((List.nodup_range (n:=N)).imp fun {a b} h e=>h sX))) λx=>by
    rw[List.mem_filter,decide_eq_true_eq];refine⟨λhx=>⟨?_,hx⟩,λhx=>hx.2⟩;obtain⟨j,rfl,hj⟩:=(h.mem x).1 hx;exact nQ.2 ⟨j,List.mem_range.2 (hN j hj),O⟩
  have h1:=hp.length_eq;have h2:=List.length_filter_le (λx=>decide (x∈l)) ((List.range N).map (λi:Nat=>(i:Int)));rw[rQ,List.length_range]at h2;omega
theorem GX{l:List Int}{N:Nat}{p:Nat->Bool}(h:SetL l (λj=>j<N/\p j=true)):l.mergeSort (λx y=>decide (x<=y))=((List.range N).filter p).map λi:Nat=>(i:Int):=by
  have hr:(((List.range N).filter p).map λi:Nat=>(i:Int)).Nodup:=List.pairwise_map.2 ((List.Pairwise.filter p (List.nodup_range (n:=N))).imp fun {a b} h e=>h sX);have hp0:l.Perm (((List.range N).filter p).map λi:Nat=>(i:Int)):=Qk h.nd hr λx=>by
    rw[h.mem,nQ];exact⟨λ⟨j,a,b⟩=>⟨j,List.mem_filter.2 ⟨List.mem_range.2 b.1,b.2⟩,a.symm⟩,λ⟨j,a,b⟩=>⟨j,b.symm,List.mem_range.1 (List.mem_filter.1 a).1,(List.mem_filter.1 a).2⟩⟩
  have hp:=(List.mergeSort_perm l λx y=>decide (x<=y)).trans hp0;refine hp.eq_of_pairwise (le:=λx y=>x<=y) (λa b _ _ h1 h2=>by omega) ?_ ?_
  ·have := List.pairwise_mergeSort (le := λ(x y : Int) => decide (x <= y)) (λa b c h1 h2 => by simp only[decide_eq_true_eq]at *;omega) (λa b => by simp only[Bool.or_eq_true, decide_eq_true_eq];omega) l
   exact this.imp λh=>by simpa using h
  refine List.pairwise_map.2 ((List.Pairwise.filter _ (List.pairwise_lt_range (n:=N))).imp λh=>by omega)
def Fd(l:List Int):MapI:=l.map λk=>(k,Value.bool true)
theorem VG(l:List Int):(Fd l).length=l.length:=by simp[Fd]
theorem CC(l:List Int)(k:Int):Fd l++[(k,Value.bool true)]=Fd (l++[k]):=by simp[Fd]
theorem N3(l:List Int)(k:Int):Py (Fd l) k=if k∈l then some (.bool true) else none:=by
  unfold Py Fd
  induction l with
  | nil=>rfl
  | cons a l ih =>
    rw[List.map_cons,List.find?_cons];by_cases h:a=k
    ·subst h;simp
    rw[show decide ((a, Value.bool true).1 = k) = false by simpa using h];simp only[];rw[ih];simp[show ¬k=a from λe=>h e.symm]
theorem ZH(l:List Int)(k:Int):(Py (Fd l) k).getD (.bool false)=.bool (decide (k∈l)):=by
  rw[N3];by_cases h:k∈l <;> simp[h]
structure SetG (l:MapG) (c:Nat) (S:Nat->Prop):Prop where
  wf:WfG l c
  tr:∀x∈l,x.1.2=.bool true
  ks:SetL (l.map (·.1.1)) S
theorem SetG.of{l:List Int}{S:Nat->Prop}(h:SetL l S):SetG ((Fd l).zipIdx 0) (Fd l).length S:=⟨WfG.of _,λx hx=>by
  obtain⟨i,hi,rfl⟩:=List.mem_iff_getElem.1 hx;simp[Fd],by
  have e:((Fd l).zipIdx 0).map (·.1.1)=l:=by
    apply List.ext_getElem (by simp[Fd]);intro i h1 h2;simp[Fd]
  rw[e];exact h⟩
theorem SetG.congr{l:MapG}{c:Nat}{S T:Nat->Prop}(h:SetG l c S)(e:∀j,S j↔T j):SetG l c T:=⟨h.wf,h.tr,h.ks.congr e⟩
theorem S9(k:Int):∀l:MapG,(GG l k).map (·.1.1)=(l.map (·.1.1)).erase k
  | []=>rfl
  | x :: l => by
    have ih:=S9 k l;unfold GG at ih ⊢;rw[List.eraseP_cons,List.map_cons,List.erase_cons];by_cases h:x.1.1=k
    ·simp[h]
    simp[h,ih]
theorem SetG.del{l:MapG}{c:Nat}{S:Nat->Prop}(h:SetG l c S)(k:Nat):SetG (GG l (k:Int)) c (λj=>S j/\j≠k):=⟨h.wf.del _,λx hx=>h.tr x (List.mem_of_mem_eraseP hx),by
  rw[S9];refine⟨h.ks.nd.erase _,λx=>?_⟩;rw[h.ks.nd.mem_erase_iff,h.ks.mem];exact⟨λ⟨hn,j,e,hj⟩=>⟨j,e,hj,λhk=>hn (by rw[e,hk])⟩,λ⟨j,e,hj,hn⟩=>⟨λhk=>hn sX,j,e,hj⟩⟩⟩
def D7(h:List Cm)(S:Nat->Prop)(k:Nat):Prop:=∀j,j<=k->S j->∀i,Xt h j i=true->S i
def SUp(h:List Cm)(S:Nat->Prop)(k:Nat)(n:Nat):Nat->Prop:=λj=>(S j\/j=k)\/∃p∈(Ru h k).take n,Xt h p j=true
theorem SM{h:List Cm}{S:Nat->Prop}{k:Nat}(hc:D7 h S k)(hk:S k)(j:Nat):S j↔(S j\/Xt h k j=true) :=
  ⟨.inl,λhj=>hj.elim id λhu=>hc k (gQ _) hk j hu⟩
theorem sup_zero{h:List Cm}{S:Nat->Prop}{k:Nat}(j:Nat):(S j\/j=k)↔SUp h S k 0 j:=⟨.inl,λhj=>hj.elim id λ⟨p,hp,_⟩=>by simp at hp⟩
theorem HP{h:List Cm}(hr:Ld h=true){S:Nat->Prop}{k n:Nat}(hc:D7 h S k){p:Nat}(hp:p∈Ru h k):D7 h (SUp h S k n) p:=λj hj hs i hi=>by
  have hl:=Xn hr hp;rcases hs with (hs|rfl)|⟨q,hq,hu⟩
  ·exact .inl (.inl (hc j sX hs i hi))
  ·omega
  have hq2 := Xn hr (List.mem_of_mem_take hq);exact .inr ⟨q,hq,up_trans hr q j i sX hu hi⟩
theorem MX{h:List Cm}{S:Nat->Prop}{k n:Nat}(hn:n<(Ru h k).length)(j:Nat):(SUp h S k n j\/Xt h (Ru h k)[n] j=true)↔SUp h S k (n+1) j:=by
  unfold SUp;rw[iQ hn];constructor
  ·rintro ((hs|⟨p, hp, hu⟩)|hu)
   ·exact .inl hs
   ·exact .inr ⟨p,List.mem_append_left _ hp,hu⟩
   exact .inr ⟨_,List.mem_append_right _ (pQ.2 O),hu⟩
  rintro (hs|⟨p, hp, hu⟩)
  ·exact .inl (.inl hs)
  rcases mQ.1 hp with hp|hp
  ·exact .inl (.inr ⟨p,hp,hu⟩)
  rw[pQ.1 hp]at hu;exact .inr hu
theorem sup_end{h:List Cm}(hr:Ld h=true){S:Nat->Prop}{k n:Nat}(hk:k<h.length)(hn:(Ru h k).length<=n)(j:Nat):SUp h S k n j↔(S j\/Xt h k j=true):=by
  unfold SUp;rw[List.take_of_length_le hn,St hr hk,Bool.or_eq_true,decide_eq_true_eq,List.any_eq_true];constructor
  ·rintro ((hs|e)|hu)
   ·exact .inl hs
   ·exact .inr (.inl e)
   exact .inr (.inr hu)
  rintro (hs|e|hu)
  ·exact .inl (.inl hs)
  ·exact .inl (.inr e)
  exact .inr hu
theorem FT{h:List Cm}(hr:Ld h=true){k:Nat}(hk:k<h.length){l:List Int}(hl:SetL l λj=>False\/Xt h k j=true):SetL l λj=>j<h.length/\Xt h k j=true :=
  hl.congr λj=>⟨λhj=>hj.elim False.elim λhu=>⟨Y1 hr hk hu,hu⟩,λhj=>.inr hj.2⟩
open Go.RowKit Go.Proofs
def EJ(b:Bool):D:=.lit (.bool b)
def He(s:Sd):D:=.agg [EJ s.has,Zb s.val]
def Vv(b l r:Sd):D:=.agg [He b,He l,He r]
def OJ(c:Cf):D:=.agg [Xd c.path,Zd c.cls,He c.b,He c.l,He c.r]
def ZX(x:Rl):D:=.agg [Xd x.pat,Dq x.key]
def Uz(l:List Rl):D:=.slice (l.map ZX)
theorem Ku(s:Sd):Wd (He s)=5:=by
  have:=Tc s.val;simp only[He,Wd,Wd.sizeL,this,EJ]
theorem RZ(c:Cf):Wd (OJ c)=17:=by
  simp only[OJ,Wd,Wd.sizeL,Ku,Xd,Zd]
section
variable {S:Nat->Prop}{w:World}
theorem KW{x:Rl}{cs:List Value}(h:Rep S w (ZX x) cs):∃A c,cs=[.slice A x.pat.length c,I x.key]/\Rep S w (Xd x.pat) [.slice A x.pat.length c]:=by
  unfold ZX at h;rw[Rep]at h;obtain⟨c1,c2,rfl,h1,h2⟩:=RepL.cons_inv h;obtain⟨c3,c4,rfl,h3,h4⟩:=RepL.cons_inv h2;obtain rfl:=RepL.nil_inv h4;have h1':=h1;unfold Xd at h1';rw[Rep]at h1';obtain⟨A,c,rfl,-⟩:=h1';rw[rQ]at h1 ⊢;unfold Dq at h3;rw[Rep]at h3;obtain⟨rfl,-⟩:=h3;exact⟨A,c,by simp,h1⟩
theorem Rep.rule_elem{l:List Rl}{A:Option Addr}{len c:Nat}(h:Rep S w (Uz l) [.slice A len c]){i:Nat}(hi:i<l.length) :
    ∃ad B e,A=some ad/\(∀j (hj:j<[Value.slice B l[i].pat.length e,I (l[i].key)].length),w.cell? ((ad.add (i*2)).add j)=some [Value.slice B l[i].pat.length e,I (l[i].key)][j])/\Rep S w (Xd l[i].pat) [.slice B l[i].pat.length e]:=by
  obtain⟨ad,cs,hA,hl,hc,hr⟩:=Rep.elem (sz:=2) h (λd hd=>by obtain⟨k,_,rfl⟩:=nQ.1 hd;rfl) (i:=i) (by simpa using hi);rw[List.getElem_map]at hr;obtain⟨B,e,rfl,h1⟩:=KW hr;exact⟨ad,B,e,hA,hc,h1⟩
end
section
variable {S:Nat->Prop}{w w' w0:World}{Ds E:List Nat}{pre post bs_ sm sm1:List (Nat × Obj)}{pb:Nat}{RV:Value}{cfs:List Cf}
theorem Rep.side_inv{s:Sd}{cs:List Value}(h:Rep S w (He s) cs):∃ct,cs=.bool s.has::ct/\Rep S w (Zb s.val) ct:=by
  unfold He at h;rw[Rep]at h;obtain⟨c1,c2,rfl,h1,h2⟩:=RepL.cons_inv h;obtain⟨c3,c4,rfl,h3,h4⟩:=RepL.cons_inv h2;obtain rfl:=RepL.nil_inv h4;unfold EJ at h1;rw[Rep]at h1;obtain⟨rfl,-⟩:=h1;exact⟨c3,by simp,h3⟩
theorem Rep.side_mk{s:Sd}{ct:List Value}(h:Rep S w (Zb s.val) ct):Rep S w (He s) (.bool s.has::ct):=by
  unfold He;rw[Rep];have h1:Rep S w (EJ s.has) [.bool s.has]:=by unfold EJ;rw[Rep];exact ae1
  have:=RepL.cons_mk h1 (RepL.cons_mk h RepL.nil_mk);simpa using this
theorem EF:Rep S w (He noS) [.bool false,J 0,I [],aQ,aQ]:=Rep.side_mk (s:=noS) (Np S w)
structure Tv where
  k:Int
  t:Str
  A:Option Addr
  n:Nat
  c:Nat
  B:Option Addr
  m:Nat
  e:Nat
structure Sv where
  h:Bool
  v:Tv
abbrev Tv.cells(x:Tv):List Value:=[J x.k,I x.t,.slice x.A x.n x.c,.slice x.B x.m x.e]
abbrev Sv.cells(x:Sv):List Value:=[.bool x.h,J x.v.k,I x.v.t,.slice x.v.A x.v.n x.v.c,.slice x.v.B x.v.m x.v.e]
abbrev th(x y z:Sv):List Value:=[.bool x.h,J x.v.k,I x.v.t,.slice x.v.A x.v.n x.v.c,.slice x.v.B x.v.m x.v.e,.bool y.h,J y.v.k,I y.v.t,.slice y.v.A y.v.n y.v.c,.slice y.v.B y.v.m y.v.e,.bool z.h,J z.v.k,I z.v.t,.slice z.v.A z.v.n z.v.c,.slice z.v.B z.v.m z.v.e]
def zTv:Tv:=⟨0,[],none,0,0,none,0,0⟩
theorem Ll{y:Tree}{cs:List Value}(h:Rep S w (Zb y) cs):∃x:Tv,cs=x.cells/\x.k=y.kind/\x.t=y.text/\x.n=y.keys.length/\x.m=y.items.length:=by
  obtain⟨k,t,ks,xs⟩:=y;obtain⟨A,c,B,e,rfl,-,-,-,-⟩:=h.tree_inv;exact⟨⟨k,t,A,ks.length,c,B,xs.length,e⟩,O,O,O,O,O⟩
theorem FF{s:Sd}{cs:List Value}(h:Rep S w (He s) cs):∃x:Sv,cs=x.cells/\x.h=s.has/\x.v.k=s.val.kind/\Rep S w (Zb s.val) x.v.cells:=by
  obtain⟨ct,rfl,h1⟩:=h.side_inv;obtain⟨x,rfl,h2,-⟩:=Ll h1;exact⟨⟨s.has,x⟩,O,O,h2,h1⟩
theorem Hf{s:Sd}{x:Sv}(h:Rep S w (He s) x.cells):x.h=s.has/\x.v.k=s.val.kind/\x.v.n=s.val.keys.length/\x.v.m=s.val.items.length/\Rep S w (Zb s.val) x.v.cells:=by
  obtain⟨ct,e,h1⟩:=h.side_inv;obtain⟨y,rfl,h2,-,h3,h4⟩:=Ll h1;simp only[List.cons.injEq,Value.bool.injEq,Value.int.injEq,true_and,Value.slice.injEq]at e;obtain⟨e0,e1,e2,e3,e4,-⟩:=e;refine⟨e0,e1.trans h2,e3.2.1.trans h3,e4.2.1.trans h4,?_⟩;have:x.v.cells=y.cells:=by simp only[Tv.cells,e1,e2,e3.1,e3.2.1,e3.2.2,e4.1,e4.2.1,e4.2.2]
  rw[this];exact h1
theorem Te{s:Sd}{x:Tv}(h:Rep S w (Zb s.val) x.cells):Rep S w (He s) (Sv.mk s.has x).cells:=Rep.side_mk h
theorem FR.part{bs_:List (Nat × Obj)}(h:FR w0 Ds bs_ w)(i off:Nat){b:Nat}{l l':List Value}{T:TypeId}{fz:Nat × Nat}(hi:bs_[i]? = some (b,.cells l.toArray T fz))(hl:(l.drop off).take l'.length=l') :
    ∀j (hj:j<l'.length),w.cell? ((⟨b,off,none⟩:Addr).add j)=some l'[j]:=λj hj=>by
  have e:(⟨b,off,none⟩:Addr).add j=⟨b,off+j,none⟩:=by unfold Addr.add;split <;> simp_all
  rw[e,Pb (h.heap hi) (off+j)];have h1:(l.drop off)[j]? = some l'[j]:=by
    have:((l.drop off).take l'.length)[j]? = some l'[j]:=by rw[hl];exact List.getElem?_eq_getElem hj
    rw[List.getElem?_take,if_pos hj]at this;exact this
  rw[List.getElem?_drop]at h1;simpa using h1
def wE(w:World):World:={ w with heap:=#[] }
theorem RX.base{i:List Nat}{ds:List D}{cs:List Value}{u:World}(h:RX w0 i w ds cs)(hu:u.heap.size<=w0.heap.size):RX u i w ds cs:=RepL.weaken (λ_ hb _=>⟨fQ hu hb.1,hb.2⟩) h
theorem RX.empty{i:List Nat}{ds:List D}{cs:List Value}(h:RX w0 i w ds cs)(u:World):RX (wE u) i w ds cs:=h.base (Nat.zero_le _)
def ids(sm:List (Nat × Obj)):List Nat:=sm.map (·.1)
structure Mx (i:List Nat) (w:World) (sm:List (Nat × Obj)) (pb:Nat) (RV:Value) (cfs:List Cf):Prop where
  ex:∃(A:Option Addr)(c:Nat)(sl:List (Nat × Obj))(vals:List Value),sm=(pb,.cells #[RV,.slice A cfs.length c] 65)::sl/\SlB 74 17 A cfs.length c vals sl/\RX (wE w) i w (cfs.map OJ) vals
section
variable {i i':List Nat}
theorem Mx.step(h:Mx i w sm pb RV cfs)(hs:Same E w w')(he:∀b∈E,b∈i)(hi:∀x∈i',x∈i\/w.heap.size<=x):Mx i' w' sm pb RV cfs:=by
  obtain⟨A,c,sl,vals,h1,h2,h3⟩:=h.ex;exact⟨A,c,sl,vals,h1,h2,(h3.step hs he hi).empty w'⟩
theorem Mx.ext(h:Mx i w sm pb RV cfs)(hs:Same [] w w'):Mx i w' sm pb RV cfs:=h.step hs Da (λ_ hx=>.inl hx)
theorem Mx.store(h:Mx i w sm pb RV cfs)(hs:Same E w w')(he:∀b∈E,b∈i):Mx i w' sm pb RV cfs:=h.step hs he (λ_ hx=>.inl hx)
theorem Mx.alloc{b:Nat}(h:Mx i w sm pb RV cfs)(hs:Same [] w w')(hb:b=w.heap.size):Mx (b::i) w' sm pb RV cfs :=
  h.step hs Da (λx hx=>by rcases oQ.1 hx with rfl|hx;exact .inr sX;exact .inl hx)
theorem Mx.sub(h:Mx i w sm pb RV cfs)(hi:∀x∈i',x∈i):Mx i' w sm pb RV cfs:=h.step (Same.refl [] w) Da (λx hx=>.inl (hi x hx))
theorem SlB.typ1{e m n c:Nat}{A:Option Addr}{xs:List Value}{sb:List (Nat × Obj)}(h:SlB e m A n c xs sb):sb.length<=1/\∀q∈sb,∃cur,q.2=.cells cur e:=by
  rcases h.2 with ⟨-,-,rfl⟩|⟨g,cur,-,rfl,-⟩
  ·exact⟨by simp,λq hq=>by cases hq⟩
  exact⟨by simp,λq hq=>by simp only[pQ]at hq;subst hq;exact⟨cur,rfl⟩⟩
theorem Mx.pw(h:Mx i w sm pb RV cfs)(hh:∀q∈sm,w.heap[q.1]? = some q.2):sm.Pairwise (λp q=>q.1≠p.1):=by
  obtain⟨A,c,sl,vals,rfl,h2,-⟩:=h.ex;refine List.pairwise_cons.2 ⟨λq hq e=>?_,h2.pw⟩;obtain⟨cur,e2⟩:=h2.typ1.2 q hq;have h5:=hh q (by simp[hq]);have h6:=hh _ List.mem_cons_self;have e':q.1=pb:=e;rw[e',h6,e2]at h5;have:=lQ h5;simp at this
theorem Mx.start(h:Mx i w sm pb RV cfs)(hh:∀q∈sm,w.heap[q.1]? = some q.2):FR w (ids sm) ([]++(sm++[])) w:=by
  rw[List.nil_append,qQ];exact⟨.refl _ _,λq hq=>⟨hh q hq,.inr (List.mem_map_of_mem hq)⟩,h.pw hh⟩
theorem Mx.box(h:Mx i w sm pb RV cfs)(hh:∀q∈sm,w.heap[q.1]? = some q.2):∃(A:Option Addr)(c:Nat),w.heap[pb]? = some (.cells #[RV,.slice A cfs.length c] 65):=by
  obtain⟨A,c,sl,vals,rfl,-,-⟩:=h.ex;exact⟨A,c,hh _ List.mem_cons_self⟩
theorem Mx.mem(h:Mx i w sm pb RV cfs):pb∈ids sm:=by
  obtain⟨A,c,sl,vals,rfl,-,-⟩:=h.ex;exact List.mem_cons_self
structure Mc (w:World) (sm:List (Nat × Obj)) (w':World) (sm':List (Nat × Obj)):Prop where
  same:Same (ids sm) w w'
  fresh:∀q∈sm',w.heap.size<=q.1\/q.1∈ids sm
theorem FR.segs_of(hF:FR w0 Ds (pre++(sm++post)) w):∀q∈sm,w.heap[q.1]? = some q.2/\(w0.heap.size<=q.1\/q.1∈Ds):=λq hq=>hF.own q (by simp[hq])
theorem FR.toMc(hF:FR w0 (ids sm1) (pre++(sm++post)) w):Mc w0 sm1 w sm:=⟨hF.same,λq hq=>(hF.segs_of q hq).2⟩
theorem FR.hh(hF:FR w0 Ds bs_ w)(hsp:Spl bs_ pre sm post:=by repeat (first|exact Spl.z|apply Spl.c|apply Spl.a)):∀q∈sm,w.heap[q.1]? = some q.2:=by
  rw[hsp.eq]at hF;exact λq hq=>(hF.segs_of q hq).1
theorem FR.mc(hF:FR w0 (ids sm1) bs_ w)(hsp:Spl bs_ pre sm post:=by repeat (first|exact Spl.z|apply Spl.c|apply Spl.a)):Mc w0 sm1 w sm:=by
  rw[hsp.eq]at hF;exact hF.toMc
theorem FR.swapM(hF:FR w0 Ds bs_ w){cfs1:List Cf}(hM:Mx i w' sm1 pb RV cfs1)(hh:∀q∈sm1,w'.heap[q.1]? = some q.2)(hE:Mc w sm w' sm1)(hsp:Spl bs_ pre sm post:=by repeat (first|exact Spl.z|apply Spl.c|apply Spl.a)):FR w0 Ds (pre++(sm1++post)) w':=by
  rw[hsp.eq]at hF;have hd:=hF.desc;rw[List.pairwise_append,List.pairwise_append]at hd;obtain⟨d1,⟨d2,d3,d4⟩,d5⟩:=hd;have hrest:∀q,q∈pre++post->∀r∈sm,q.1≠r.1:=λq hq r hr e=>by
    rcases mQ.1 hq with hq|hq
    ·exact d5 q hq r (by simp[hr]) e.symm
    exact d4 r hr q hq e
  have hB:FR w0 Ds (pre++post) w:=⟨hF.same,λq hq=>hF.own q (by rcases mQ.1 hq with h|h <;> simp[h]),by
    rw[List.pairwise_append];exact⟨d1,d3,λq hq r hr=>d5 q hq r (by simp[hr])⟩⟩
  have hB':FR w0 Ds (pre++post) w':=hB.touch hE.same λb hb=>by
    obtain⟨r,hr,rfl⟩:=nQ.1 hb;exact⟨λh=>((hF.segs_of r hr).2).resolve_left sX,λz hz e=>hrest z hz r hr e⟩
  have hn:∀q∈sm1,∀z∈pre++post,z.1≠q.1:=λq hq z hz e=>by
    rcases hE.fresh q hq with h1|h1
    ·have:=Ma (hB.memHeap hz);omega
    obtain⟨r, hr, e'⟩ := nQ.1 h1;exact hrest z hz r hr (e.trans e'.symm)
  refine⟨hB'.same,λq hq=>?_,?_⟩
  ·rcases mQ.1 hq with h|h
   ·exact hB'.own q (by simp[h])
   rcases mQ.1 h with h|h
   ·refine⟨hh q h, ?_⟩
    rcases hE.fresh q h with h1|h1
    ·exact .inl (fQ hF.same.size h1)
    obtain⟨r, hr, e⟩ := nQ.1 h1;rw[<-e];exact (hF.segs_of r hr).2
   exact hB'.own q (by simp[h])
  rw[List.pairwise_append, List.pairwise_append];refine⟨d1,⟨hM.pw hh,d3,λq hq z hz e=>hn q hq z (by simp[hz]) e⟩,λz hz q hq e=>?_⟩;rcases mQ.1 hq with h|h
  ·exact hn q h z (by simp[hz]) e.symm
  exact d5 z hz q (by simp[h]) e
def Nq(w:World)(sm':List (Nat × Obj))(w':World)(x:Nat):Prop:=Btw w w' x/\x∉ids sm'
theorem RX.madeM{d:D}{cs:List Value}(hw:w0.heap.size<=w.heap.size)(hi:∀x∈i,x<w.heap.size\/x∈ids sm)(h:Rep (Nq w sm w') w' d cs):RX w0 i w' [d] cs :=
  .one (h.weaken λb hb _=>⟨fQ hw hb.1.1,hb.1.2.1,λhm=>by
    rcases hi b hm with h1|h1
    ·have:=hb.1.1;omega
    exact hb.2 h1,hb.1.2.2⟩)
theorem RX.swap{j:List Nat}{u:World}{ds:List D}{cs:List Value}(h:RX u i w ds cs)(hE:Mc w sm w' sm1)(hi:∀x∈ids sm,x∈i)(hj:∀x∈j,x∈i\/x∈ids sm1):RX u j w' ds cs :=
  h.step hE.same hi λx hx=>by
    rcases hj x hx with h1|h1
    ·exact .inl h1
    obtain⟨q, hq, rfl⟩ := nQ.1 h1;rcases hE.fresh q hq with h2|h2
    ·exact .inr h2
    exact .inl (hi _ h2)
theorem RX.nq{d:D}{cs:List Value}(h:RX w0 i w [d] cs)(hi:∀x∈ids sm,x∈i):Rep (Nq w0 sm w) w d cs:=h.rep.weaken λ_ hb _=>⟨⟨hb.1,hb.2.1,hb.2.2.2⟩,λhm=>hb.2.2.1 (hi _ hm)⟩
def Off(S:Nat->Prop)(w0:World)(sm:List (Nat × Obj)):Prop:=∀b,S b->b<w0.heap.size/\b∉ids sm
theorem FR.repM(hF:FR w0 (ids sm) bs_ w)(hS:Off S w0 sm){d:D}{cs:List Value}(h:Rep S w0 d cs):Rep S w d cs:=h.same hF.same λb hb hs=>(hS b hs).2 hb
theorem FR.offM(hF:FR w0 (ids sm) bs_ w)(hS:Off S w0 sm)(hsp:Spl bs_ pre sm1 post:=by repeat (first|exact Spl.z|apply Spl.c|apply Spl.a)):Off S w sm1:=λb hb=>by
  rw[hsp.eq]at hF;obtain⟨h1,h2⟩:=hS b hb;refine⟨Nat.lt_of_lt_of_le h1 hF.same.size,λhm=>?_⟩;obtain⟨q,hq,rfl⟩:=nQ.1 hm;rcases (hF.segs_of q hq).2 with h3|h3
  ·omega
  exact h2 h3
theorem Gf(hi:∀x∈ids sm,x∈i):Off (IW w0 i w) w sm:=λb hb=>⟨hb.2.1,λhm=>hb.2.2.1 (hi _ hm)⟩
theorem Off.or{S':Nat->Prop}(h:Off S w sm)(h':Off S' w sm):Off (λb=>S b\/S' b) w sm:=λb hb=>hb.elim (h b) (h' b)
end
end
end Go.Scarf
