/- A part of the proof. -/
import Derived.Test.YtbhneplafiapdaaGreatDoorM1
import Derived.Test.YtbhneplafiapdaaGreatDoorHi1
set_option linter.all false
set_option maxHeartbeats 8000000
set_option maxRecDepth 10000
namespace Go.Scarf
open Go.RowKit Go.Proofs Go.Proofs.Tryz
def TinyT(x:Tree):Prop:=Jd x=true/\Ub x<=256/\He x<=16777216
def TinyO(o:Option Tree):Prop:=∀x,o=some x->TinyT x
theorem TinyT.ok{x:Tree}(h:TinyT x):SdOk ⟨true,x⟩:=⟨fQ h.2.1 U,Uj x (fQ h.2.2 U)⟩
theorem TinyO.ok{o:Option Tree}(h:TinyO o):SdOk (Cr o):=by
  cases o with
  | none=>exact EU
  | some x=>exact (h x rfl).ok
theorem TinyT.kid{x y:Tree}(h:TinyT x)(hy:y∈x.items):TinyT y:=by
  obtain⟨k,t,ks,xs⟩:=x;have hy':y∈xs:=hy;have h1:=Ef hy';have h2:=Oj hy';obtain⟨a,b,c⟩:=h;rw[Ub]at b;rw[He]at c;exact⟨FI a hy',by omega,by omega⟩
theorem TinyT.mem{x:Tree}(h:TinyT x)(k:Str):TinyO (Np x k):=λ_ hy=>h.kid (K6 hy)
theorem TinyT.item{x:Tree}(h:TinyT x)(key id:Str):TinyO (Rg x key id):=λ_ hy=>h.kid (G2 hy)
theorem TinyT.key{x:Tree}(h:TinyT x):∀k∈x.keys,k.length<=16777216:=by
  obtain⟨k,t,ks,xs⟩:=x;intro s hs;have h1:=Yn (show s∈ks from hs);have h2:=h.2.2;rw[He]at h2;omega
theorem I6{a b:Option Tree}(ha:TinyO a)(hb:TinyO b):S4 (Cr a) (Cr b)=Yk a b:=by
  cases a with
  | none=>cases b <;> rfl
  | some x =>
    cases b with
    | none=>rfl
    | some y=>simp[S4,Cr,Yk,Z8 (ha x rfl).1 (hb y rfl).1]
theorem MA{a:Option Tree}(ha:TinyO a):J2 (Cr a)=Cr a:=by
  cases a with
  | none=>rfl
  | some x=>simp[J2,Cr,Uo (ha x rfl).1]
structure In (rl:List Rl) (i:List Nat) (w0:World) (sm:List (Nat × Obj)) (pb:Nat) (RV:Value) (cfs:List Cf) (path:List Str) (PA:Option Addr) (pc:Nat) (b l r:Option Tree) (x y z:Sv):Prop where
  mi:Mi i w0 sm pb RV cfs
  g:Gl w0
  pth:∃S,Off S w0 sm/\Rep S w0 (Ug path) [.slice PA path.length pc]
  tri:∃S,Off S w0 sm/\Rep S w0 (Xy (Cr b) (Cr l) (Cr r)) (th x y z)
  rul:∃S,Off S w0 sm/\Rep S w0 (Vv rl) [RV]
  tb:TinyO b
  tl:TinyO l
  tr:TinyO r
  cnt:cfs.length+Zg l+Zg r<1000
  ptx:∀s∈path,s.length<=33554432
def Out(i:List Nat)(w0:World)(sm:List (Nat × Obj))(pb:Nat)(RV:Value)(cfs:List Cf)(mo:Mo)(v:Value)(w':World):Prop :=
  ∃(sm':List (Nat × Obj))(q:Sv),v=.agg q.cells.toArray/\Rep (Nq w0 sm' w') w' (Ye (Cr mo.1)) q.cells/\Mo' i w0 sm w' sm' pb RV (cfs++mo.2)
def AtC(rl:List Rl)(F:Nat):Prop:=∀(i:List Nat)(w0:World)(sm:List (Nat × Obj))(pb:Nat)(RV:Value)(cfs:List Cf)(path:List Str)(PA:Option Addr)(pc:Nat)(b l r:Option Tree)(x y z:Sv),
  In rl i w0 sm pb RV cfs path PA pc b l r x y z->Zm l<F->path.length+F<=900 ->
  Calls prog 59 #[V pb,.slice PA path.length pc,.agg (th x y z).toArray] w0 (Vd λv w'=>Out i w0 sm pb RV cfs (Rp rl F path cfs.length b l r) v w')
theorem FR.cellE{w0 w:World}{E:List Nat}{bs_:List (Nat × Obj)}(hF:FR w0 E bs_ w){a:Addr}{v:Value}(h:w0.cell? a=some v)(hb:a.block∉E):w.cell? a=some v:=by
  rw[<-h];exact World.cell?_of_block (w:=w0) (hF.same.block _ (World.block_lt_of_cell? _ _ h) hb)
section
variable {w0 w w':World}{i L:List Nat}{sm sm' bs_ pre post:List (Nat × Obj)}{pb:Nat}{RV:Value}{cfs cfs':List Cf}{rl:List Rl}{path:List Str}{PA:Option Addr}{pc:Nat}{b l r:Option Tree}{x y z:Sv}{mo:Mo}{v:Value}
theorem Mi.at(hM:Mi i w0 sm pb RV cfs)(hG:Gl w0)(hF:FR w0 (ids sm) bs_ w)(hL:∀x∈L,x∈bs_.map (·.1))(hsp:Spl bs_ pre sm post:=by repeat (first|exact Spl.z|apply Spl.c|apply Spl.a)):Mi (L++i) w sm pb RV cfs:=by
  have hl:∀x∈L,w0.heap.size<=x\/x∈i:=λx hx=>by
    obtain⟨q,hq,rfl⟩:=nQ.1 (hL x hx);rcases (hF.own q hq).2 with h|h
    ·exact .inl h
    exact .inr (hM.sub _ h)
  refine⟨hM.m.step hF.same hM.sub (λx hx=>?_),hF.hh hsp,λx hx=>List.mem_append_right _ (hM.sub x hx),λx hx=>?_⟩
  ·rcases mQ.1 hx with h|h
   ·exact (hl x h).symm
   exact .inl h
  rcases mQ.1 hx with h|h
  ·refine⟨?_, hF.lt_ids (hL x h)⟩
   rcases hl x h with h1|h1
   ·exact fQ hG.size h1
   exact (hM.low x h1).1
  exact⟨(hM.low x h).1,Nat.lt_of_lt_of_le (hM.low x h).2 hF.same.size⟩
theorem Out.keep{o:Option Tree}{q:Sv}(hM:Mi i w0 sm pb RV cfs)(hF:FR w0 (ids sm) bs_ w)(hq:RX w0 (L++i) w [Ye (Cr o)] q.cells)(hsp:Spl bs_ pre sm post:=by repeat (first|exact Spl.z|apply Spl.c|apply Spl.a)):Out i w0 sm pb RV cfs (o,[]) (.agg q.cells.toArray) w :=
  ⟨sm,q,rfl,hq.nq (λx hx=>List.mem_append_right _ (hM.sub x hx)),⟨by rw[qQ];exact hM.m.step hF.same hM.sub (λx hx=>(mQ.1 hx).elim .inl λh=>.inl (hM.sub x h)),hF.hh hsp,hF.mc hsp⟩⟩
theorem Mc.trans{w1:World}{sm1:List (Nat × Obj)}(h1:Mc w0 sm w1 sm1)(h2:Mc w1 sm1 w' sm'):Mc w0 sm w' sm' :=
  ⟨⟨h2.same.os.trans h1.same.os,h2.same.tape.trans h1.same.tape,h2.same.output.trans h1.same.output,fQ h1.same.size h2.same.size,λb hb hn=>(h2.same.block b (Nat.lt_of_lt_of_le hb h1.same.size) (λhm=>by
      obtain⟨q,hq,rfl⟩:=nQ.1 hm;rcases h1.fresh q hq with h|h
      ·omega
      exact hn h)).trans (h1.same.block b hb hn)⟩,
    λq hq=>by
      rcases h2.fresh q hq with h|h
      ·exact .inl (fQ h1.same.size h)
      obtain⟨q', hq', e⟩ := nQ.1 h;rw[<-e];exact h1.fresh q' hq'⟩
theorem Out.pass{w1 w2:World}{L:List Nat}{mo':Mo}{q:Sv}{bs2 pre2 post2:List (Nat × Obj)}(hM:Mi i w0 sm pb RV cfs)(hF:FR w0 (ids sm) bs_ w1)(hsp:Spl bs_ pre sm post)(hR:Rep (Nq w1 sm' w2) w2 (Ye (Cr mo.1)) q.cells)(hO:Mo' (L++i) w1 sm w2 sm' pb RV (cfs++mo.2))(hs:Same L w2 w)(hL:∀x∈L,x∈bs_.map (·.1))(hF2:FR w0 (ids sm) bs2 w)(hsp2:Spl bs2 pre2 sm' post2)(hm:mo'=mo):Out i w0 sm pb RV cfs mo' (.agg q.cells.toArray) w:=by
  subst hm;have hl:∀x∈L,x<w1.heap.size:=λx hx=>hF.lt_ids (hL x hx);refine⟨sm',q,O,?_,⟨(hO.m.step hs (λx hx=>by simp[hx]) (λx hx=>.inl ?_)),hF2.hh hsp2,hF2.mc hsp2⟩⟩
  ·have h1 : Rep (Nq w1 sm' w2) w (Ye (Cr mo'.1)) q.cells := hR.same hs λb hb hn => by have := hn.1.1;have := hl b hb;omega
   refine h1.weaken λb hb _=>?_;obtain⟨cs,T,hc⟩:=hb.1.2.2;exact⟨⟨fQ hF.same.size hb.1.1,Nat.lt_of_lt_of_le hb.1.2.1 hs.size,cs,T,(hs.block b hb.1.2.1 (λhm=>by have:=hb.1.1;have:=hl b hm;omega)).trans hc⟩,hb.2⟩
  rcases mQ.1 hx with h|h
  ·simp[h]
  simp[h]
theorem In.off(h:In rl i w0 sm pb RV cfs path PA pc b l r x y z):∀x∈ids sm,7<=x:=λx hx=>(h.mi.low x (h.mi.sub x hx)).1
end
theorem In.at{w0 w:World}{i L:List Nat}{sm bs_ pre post:List (Nat × Obj)}{pb:Nat}{RV:Value}{cfs:List Cf}{rl:List Rl}{path:List Str}{PA:Option Addr}{pc:Nat}{b l r:Option Tree}{x y z:Sv}(h:In rl i w0 sm pb RV cfs path PA pc b l r x y z)(hF:FR w0 (ids sm) bs_ w)(hL:∀x∈L,x∈bs_.map (·.1))(hsp:Spl bs_ pre sm post:=by repeat (first|exact Spl.z|apply Spl.c|apply Spl.a)):In rl (L++i) w sm pb RV cfs path PA pc b l r x y z:=by
  obtain⟨S1,o1,r1⟩:=h.pth;obtain⟨S2,o2,r2⟩:=h.tri;obtain⟨S3,o3,r3⟩:=h.rul;exact⟨h.mi.at h.g hF hL hsp,h.g.same hF.same h.off,⟨S1,hF.offM o1 hsp,hF.repM o1 r1⟩,⟨S2,hF.offM o2 hsp,hF.repM o2 r2⟩,⟨S3,hF.offM o3 hsp,hF.repM o3 r3⟩,h.tb,h.tl,h.tr,h.cnt,h.ptx⟩
theorem Zf{w:World}{mb:Nat}{l:MapI}{a:Addr}{v:Value}(hm:w.heap[mb]? = some (Dj l))(hc:w.cell? a=some v):a.block∉[mb]:=λe=>by
  rw[pQ]at e;subst e;unfold World.cell? at hc;rw[hm]at hc;simp[Dj]at hc
theorem TC{h:List Cm}(hr:Pc h=true){k j:Nat}(hk:k<h.length)(hj:j<h[k].par.length):∃pn:Nat,h[k].par[j]=(pn:Int)/\∃hp:j<(Ni h k).length,(Ni h k)[j]=pn:=by
  have e:Ni h k=h[k].par.map Int.toNat:=by unfold Ni;rw[List.getElem?_eq_getElem hk];rfl
  have h1:=Vn hr hk;unfold Fe at h1;have h2:=X1 (Bool.and_eq_true_iff.1 h1).1 _ (eQ hj);refine⟨h[k].par[j].toNat,by omega,by rw[e,rQ];exact hj,by simp[e]⟩
theorem T6{h:List Cm}{k:Nat}(hk:k<h.length):(Ni h k).length=h[k].par.length:=by unfold Ni;rw[List.getElem?_eq_getElem hk];simp
def CN(h:List Cm)(k:Nat):Prop:=∀(ks:List Int)(T:Nat->Prop)(mb ob hb wb:Nat)(A:Option Addr)(c:Nat)(S:Nat->Prop)(w0:World),k<h.length->w0.heap[mb]? = some (Dj (Lc ks)) ->
  w0.cell? ⟨ob,0,none⟩=some (.map (some mb))->w0.cell? ⟨hb,0,none⟩=some (.slice A h.length c)->w0.cell? ⟨wb,0,none⟩=some (.func (.func 56) #[] #[V ob,V hb,V wb])->Rep S w0 (Xg h) [.slice A h.length c]->(∀b,S b->b<w0.heap.size/\b∉[mb])->SetL ks T->My h T k ->
  Calls prog 56 #[J (k:Int),V ob,V hb,V wb] w0 (Vd λv w'=>v=.tuple #[]/\∃ks':List Int,w'.heap[mb]? = some (Dj (Lc ks'))/\SetL ks' (λj=>T j\/Rh h k j=true)/\Same [mb] w0 w')
theorem OG(h:List Cm)(hr:Pc h=true)(k:Nat)(ih:∀p,p<k->CN h p):CN h k:=by
 intro ks T mb ob hb wb A c S w0 hkl hm hob hhb hwb hX hS hks hcl;have hXl:=hX.slice_len;simp only[rQ]at hXl;obtain⟨ad,q,hA,hk,hqn,hP,hV⟩:=hX.cm_elem (i:=k) hkl;have hPl:=hP.slice_len;refine Ka func56 O ntmps56 Mb (H1 _ _ _ _) ?_;have hF:FR w0 [mb] [(mb,Dj (Lc ks))] w0:=(FR.start w0 [mb]).addD hm (.inr Ua) Ua;refine Ha (Ia (Ja (v:=.map (some mb)) (Oc isAgg60 O (hF.cellE hob (Zf hm hob))) (Ca (Db O) (Ja (v:=.bool (decide ((k:Int)∈ks))) (F0 sZ rZ zeroValue4 O O (hF.heap (i:=0) O) (B8 ks (k:Int))) (Fa ?_)))));refine Wb O O (λhc0=>?_) (λhc0=>?_);refine Gb (Fb (Pa (HK O) ?_));exact⟨O,ks,hF.heap (i:=0) O,hks.congr (HB hcl ((hks.at k).1 hc0)),hF.same⟩;refine Ma (Ga (Ia (Ja (v:=.map (some mb)) (Oc isAgg60 O (hF.cellE hob (Zf hm hob))) (Ca (Db O) ?_))));refine Nt 0 (l:=Lc ks) (key:=(k:Int)) (v:=.bool true) hF sZ rZ O O O O (by rw[Cw,if_neg hc0]) ?_;rintro w hF -;have hF:FR w0 [mb] [(mb,Dj (Lc (ks++[(k:Int)])))] w:=E3 ks (k:Int)▸hF;refine Ec (Ja (v:=.slice A h.length c) (Oc isAgg22 O (hF.cellE hhb (Zf hm hhb))) (Ca (Db O) (Ja (v:=.pointer (some (ad.add (k*5)))) (Qa (i:=(k:Int)) Jf O hA O U U) (Ja (v:=.pointer (some ((ad.add (k*5)).add 0))) (Dc (a:=ad.add (k*5)) Ze O) ?_))));refine Ja (v:=.slice q.A q.n q.c) (Oc uQ O (hF.cellE (hk 0 (by simp[Mv.cells])) (Zf hm (hk 0 (by simp[Mv.cells]))))) (Ca (Rf oZ O) (Ca (Db O) (Fa (Sa ?_))));refine Gc (λμ σ w=>∃(j:Nat),∃(kc:List Int),μ=q.n-j/\(j<=q.n)/\(SetL kc (RO h T k j))/\AllEq σ [(3,.pointer (some (⟨wb,0,none⟩))),(16,.slice q.A q.n q.c),(17,J ((q.n:Nat))),(18,J ((j:Int)))]/\FR w0 [mb] [(mb,Dj (Lc kc))] w) _ ⟨0,_,O,(Nat.zero_le _),((hks.add (λhT=>hc0 ((hks.at k).2 hT))).congr BN),Fj,hF⟩ ?_;rintro μ σ w ⟨j,kc,rfl,hj,hset,hs,hF⟩;refine Cg.slots hs ?_;clear hs;intro σ;refine Ia (Ca (Tg O O) (Fa (Ha ?_)));refine Wb O O (λhc1=>?_) (λhc1=>?_)
 refine Ma (Ga (Ha (Sa (Ia ?_))));obtain⟨ad0,hA0,hk0,hx0⟩:=(hF.repE hS hP).int_elem (i:=j) U;obtain⟨pn,hpn,hpl,hpe⟩:=TC hr hkl (j:=j) U;rw[hpn]at hk0;refine Ja (v:=.pointer (some (ad0.add (j*1)))) (Qa (i:=(j:Int)) Xk O hA0 O U U) (Ja (v:=J ((pn:Int))) (Oc yQ O hk0) (Ca (Bc O) (Fa (Ea (Ja (v:=.func (.func 56) #[] #[.pointer (some (⟨ob,0,none⟩)),.pointer (some (⟨hb,0,none⟩)),.pointer (some (⟨wb,0,none⟩))]) (Oc isAgg79 O (hF.cellE hwb (Zf hm hwb))) (Ca (Db O) ?_))))));have hpm:pn∈Ni h k:=hpe▸eQ hpl;refine Kc (ih pn (Sh hr hpm).1 kc (RO h T k j) mb ob hb wb A c S _ (by have:=(Sh hr hpm).1;omega) (hF.heap (i:=0) O) (hF.cellE hob (Zf hm hob)) (hF.cellE hhb (Zf hm hhb)) (hF.cellE hwb (Zf hm hwb)) (hF.repE hS hX) (λb hb=>⟨Nat.lt_of_lt_of_le (hS b hb).1 hF.same.size,(hS b hb).2⟩) hset (L_ hr hcl hpm)) (Ui O IS O O) ?_;rintro _ w ⟨rfl,ks2,hm2,hs2,hE⟩;have hF:=hF.change 0 rfl hE hm2;clear hE hm2;refine Ra (Ib (Ga (Ea (Ca (Uk (((j+1:Nat):Int)) O O) (Ca (Db O) (Ra ?_))))));refine Za ⟨_,?_,j+1,ks2,O,U,(hs2.congr λi=>by rw[<-hpe];exact NJ hpl i),Fj,hF⟩;omega;refine Zb (Vb O ?_);refine JK (W9 (HK O) ?_);exact⟨O,kc,hF.heap (i:=0) O,hset.congr (SO hr hkl (by rw[T6 hkl];omega)),hF.same⟩
theorem YU(h:List Cm)(hr:Pc h=true)(k:Nat):CN h k:=by
  induction k using Nat.strongRecOn with
  | _ k ih=>exact OG h hr k ih
end Go.Scarf
