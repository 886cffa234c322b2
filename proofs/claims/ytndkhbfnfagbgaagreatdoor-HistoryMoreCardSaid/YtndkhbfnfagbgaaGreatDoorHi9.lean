/- A part of the proof. -/
import Derived.Test.YtndkhbfnfagbgaaGreatDoorM12
set_option linter.all false
set_option maxHeartbeats 8000000
set_option maxRecDepth 10000
namespace Go.Scarf
open Go.RowKit Go.Proofs Go.Proofs.Tryz
theorem JF{h:List Cm}{ka kb k0:Nat}(he:(List.range h.length).filter (Wl h ka kb)=[k0]):k0<h.length:=by
  have hm:k0∈(List.range h.length).filter (Wl h ka kb):=by rw[he];simp
  exact List.mem_range.1 (List.mem_filter.1 hm).1
theorem CR{h:List Cm}{k:Nat}(hk:k<h.length):h.getD k ⟨[],zeroT⟩=h[k]:=by rw[List.getD,List.getElem?_eq_getElem hk,Option.getD_some]
theorem RK{h:List Cm}(hr:Ld h=true){k:Nat}(hk:k<h.length):Kd h[k].val=true:=by
  have:=Kq hr hk;unfold Sf at this;exact (Bool.and_eq_true_iff.1 this).2
theorem base1_c(h:List Cm)(hr:Ld h=true)(hT:∀x∈h,Xm x)(ka kb k0:Nat)(hka:ka<h.length)(hkb:kb<h.length)(he:(List.range h.length).filter (Wl h ka kb)=[k0])(A:Option Addr)(c:Nat)(rA:Option Addr)(rn rc:Nat)(S:Nat->Prop)(w0:World)(hX:Rep S w0 (Nr h) [.slice A h.length c])(hG:Gl w0):Calls prog 36 #[.agg #[.slice A h.length c,.slice rA rn rc],J (ka:Int),J (kb:Int)] w0 (Td λv w'=>∃q:Tv,v=.tuple #[.agg q.cells.toArray,J 0]/\Rep (Btw w0 w') w' (Zb ((h.getD k0 ⟨[],zeroT⟩).val)) q.cells/\Same [] w0 w'):=by
 have hK0:=JF he;refine Ga func36 O ntmps36 Fb (Oj _ _ _) ?_;have hF:=FR.start w0 [];refine Ja (Ve hF O ?_);rintro b1 w hb1 hF -;refine Od (cs:=#[J 0,I [],aQ,aQ]) hF nX O ?_;rintro b2 w hb2 hF -;refine Ca (Sc O) (Fc (Ca (Xb LP O) (Yc (Rf isAgg22 O hF.F 1 O O) (Ca (Kb O) (Ca (Kb O) ?_)))));refine Cb (JS h hr ka kb hka hkb A c _ _ (hF.rep hX)) (Ic en_25 O O O O) ?_;rintro _ w ⟨A2,c2,rfl,hR2,hE⟩;rw[he]at hR2 ⊢;have hF:=hF.ext hE;refine Ca (Qg O) (Ea (Ha (Ja (Ca (Pd O) (Ca (Ye bX O) (Ca (Pq O O) (Ea ?_)))))));refine Pc O O (λhc0=>?_) (λhc0=>?_);exact absurd hc0 Da;refine Ta (Ia (Ha ?_));refine Jl (λσ w=>∃(qa:Tv),∃(bt:Nat),(RX w0 [bt,b2,b1] w [Zb h[k0].val] qa.cells)/\AllEq σ [(3,V b1),(6,V b2),(8,.slice A2 1 c2),(9,V bt)]/\FR w0 [] [(bt,.cells (qa.cells).toArray 27),(b2,.cells #[J 0,I [],aQ,aQ] 27),(b1,.cells #[.slice A h.length c,.slice rA rn rc] 80)] w) ?_ ?_;obtain⟨adr,hAr,hkr,-⟩:=hR2.int_elem (i:=0) Da;have hkr:w.cell? (adr.add (0*1))=some (J (k0:Int)):=hkr;refine Id (.of [10]) (bQ [0,1,2,3,4,5,6,7] (.alt 8 (.act 9 (.act 10 .nil)) (cQ [9,8,10] .nil))) hF ?_;intro w hF hE;have hkr:=hE.cell hkr;refine⟨λwq=>FR w0 [] _ wq/\wq.cell? (adr.add (0*1))=some (J (k0:Int)),⟨hF,hkr⟩,?_⟩;refine Hb O (Xb LP O) (Hl O (Rf isAgg22 O C1 1 O O) (Hb O (Pd O) (Qa O (v:=.pointer (some (adr.add (0*1)))) (λw hC=>Pa (i:=0) Ef O hAr O sX sX) (Qa O (v:=J ((k0:Int))) (λw hC=>Jb bZ O hC.2) ?_))));obtain⟨ad0,q0,hA0,hk0,hn0,hx0,hy0⟩:=hX.cm_elem (i:=k0) (hK0);refine Qa O (v:=.pointer (some (ad0.add (k0*5)))) (λw hC=>Pa (i:=(k0:Int)) Pt O hA0 O sX sX) (Qa O (v:=.pointer (some ((ad0.add (k0*5)).add 1))) (λw hC=>Wc (a:=ad0.add (k0*5)) Un O) (Qa O (v:=.agg (q0.v.cells).toArray) (λw hC=>Ya (l:=q0.v.cells) aZ oZ O O (Zg (hC.1.cells0 hk0) 1 O)) ?_));refine Mf ?_ ?_
 refine Qb O (I2 h[k0].val (hT _ (eQ hK0)).1 _ _ q0.v.cells (hF.rep hy0) (hT _ (eQ hK0)).2 (hG.ext hF.same)) (Ra TK O O) ?_;rintro _ w ⟨ct,rfl,hRt,hE⟩;obtain⟨qa,rfl,-⟩:=Ll hRt;rw[So (RK hr hK0)]at hRt;have hV:=RX.made (w0:=w0) (ids:=[b2,b1]) hF.same.size (λx hx=>hF.lt_ids (by simpa using hx)) hRt;have hF:=hF.ext hE;have hkr:=hE.cell hkr;clear hE hRt;refine⟨⟨hF,hkr⟩,?_⟩;refine Xf O (v:=λb=>V b) (o:=.cells #[J 0,I [],aQ,aQ] 27) hF (Ue nX) ?_;intro b3 w hb3 hF hE;have hV:=hV.alloc hE hb3;have hkr:=hE.cell hkr;refine⟨⟨hF.drop 1,hkr⟩,?_⟩;refine Ko O hF oZ O O Mh ?_;intro w hF hE;have hV:=hV.store hE (by grind);refine Ec ?_;exact Yb ⟨(qa),(b3),(hV.sub (by intro x hx;simp only[oQ,List.not_mem_nil,or_false]at hx ⊢;grind)),Tq,(((hF.front 2 rfl).front 2 rfl).front 2 rfl)⟩;refine Xf O (v:=λb=>V b) (o:=.cells #[J 0,I [],aQ,aQ] 27) hF (Ue nX) ?_;intro b4 w hb4 hF hE;have hkr:=hE.cell hkr;refine⟨⟨hF.drop 1,hkr⟩,?_⟩;refine Qb O (I2 h[k0].val (hT _ (eQ hK0)).1 _ _ q0.v.cells (hF.rep hy0) (hT _ (eQ hK0)).2 (hG.ext hF.same)) (Ra TK O O) ?_;rintro _ w ⟨ct,rfl,hRt,hE⟩;obtain⟨qa,rfl,-⟩:=Ll hRt;rw[So (RK hr hK0)]at hRt;have hV:=RX.made (w0:=w0) (ids:=[b4,b2,b1]) hF.same.size (λx hx=>hF.lt_ids (by simpa using hx)) hRt;have hF:=hF.ext hE;have hkr:=hE.cell hkr;clear hE hRt;refine⟨⟨hF.drop 1,hkr⟩,?_⟩;refine Ko O hF oZ O O Mh ?_;intro w hF hE;have hV:=hV.store hE (by grind);refine Ec ?_;exact Yb ⟨(qa),(b4),(hV.sub (by intro x hx;simp only[oQ,List.not_mem_nil,or_false]at hx ⊢;grind)),Tq,(((hF.front 2 rfl).front 2 rfl).front 2 rfl)⟩;rintro σ w ⟨qa,bt,hV,hs,hF⟩;refine Eg.slots hs ?_;clear hs;intro σ;refine Ia (Ha (Ja (Ca (Pd O) (Ka (v:=.slice (if c2=1 then A2 else A2.map (·.add (1*1))) (1-1) (c2-1)) (DU 1 Ef O O sX) (Ca (Ye bX O) (Ca (Kb O) (Ea (Va ?_))))))))
 refine Rc (λμ σ w=>μ=0/\(RX w0 [bt,b2,b1] w [Zb h[k0].val] qa.cells)/\AllEq σ [(3,V b1),(6,V b2),(8,.slice A2 1 c2),(9,V bt),(33,.slice (if c2=1 then A2 else A2.map (·.add (1*1))) (1-1) (c2-1)),(34,J ((1-1:Nat))),(35,J 0)]/\FR w0 [] [(bt,.cells (qa.cells).toArray 27),(b2,.cells #[J 0,I [],aQ,aQ] 27),(b1,.cells #[.slice A h.length c,.slice rA rn rc] 80)] w) _ ⟨O,(hV),CG,hF⟩ ?_;rintro μ σ w ⟨rfl,hV,hs,hF⟩;refine Cg.slots hs ?_;clear hs;intro σ;refine Ja (Ca (Kl O O) (Ea (Ha ?_)));refine Pc O O (λhc1=>?_) (λhc1=>?_);exact absurd hc1 Da;refine Nc (Kc O ?_);refine Ia (Ja (Yc (Ch aZ oZ O hF.F 0 O O) ?_));refine Qf hF oZ O O Yt ?_;intro w hF hE;have hV:=hV.store hE (by grind);refine Ca (Sc O) (Ea ?_);refine Cc (Bc (Sa (Me O (l:=qa.cells) O aZ oZ O (hF.cellsAll 1 O) (v:=J 0) O) ?_));refine⟨qa,O,?_,hF.same⟩;rw[CR hK0];exact hV.rep.weaken λb hb hl=>⟨hb.1,hl,hb.2.2.2⟩
theorem ZJ{h:List Cm}(hr:Ld h=true){ka kb:Nat}(hka:ka<h.length)(hkb:kb<h.length):Ns h [(ka:Int),(kb:Int)]=true:=by
  rw[X4,Im hr sX sX,Im hr sX sX];rfl
theorem PQ(h:List Cm)(hr:Ld h=true)(hT:∀x∈h,Xm x)(ka kb k0:Nat)(hka:ka<h.length)(hkb:kb<h.length)(he:(List.range h.length).filter (Wl h ka kb)=[k0])(A:Option Addr)(c:Nat)(S:Nat->Prop)(w0:World)(hX:Rep S w0 (Nr h) [.slice A h.length c])(hG:Gl w0):Calls prog 17 #[.slice A h.length c,J (ka:Int),J (kb:Int),aQ] w0 (Td λv w'=>∃q:Tv,v=.tuple #[.agg q.cells.toArray,J 0]/\Rep (Btw w0 w') w' (Zb ((h.getD k0 ⟨[],zeroT⟩).val)) q.cells/\Same [] w0 w'):=by
 have hK0:=JF he;have hl64:h.length<=64:=by have:=hr;unfold Ld at this;rw[Bool.and_eq_true,decide_eq_true_eq]at this;exact this.1
 have ha63:-9223372036854775808<=(ka:Int)/\(ka:Int)<=9223372036854775807:=by omega
 have hb63:-9223372036854775808<=(kb:Int)/\(kb:Int)<=9223372036854775807:=by omega
 refine Ga func17 O ntmps17 Fb (Us _ _ _ _) ?_;have hF:=FR.start w0 [];refine Ja (Od (cs:=#[J 0,I [],aQ,aQ]) hF nX O ?_);rintro b1 w hb1 hF -;refine Ca (Sc O) (Ea (Ha (Ja (Ca (Pd O) (Ca (Kb O) (Ca (Kb O) ?_))))));refine Pf 2 hF (Xa (cs:=#[J ((ka:Int)),J ((kb:Int))]) bX qZ oX Ua Ua Mb) ?_;rintro b2 w hb2 hF -;refine Cb (NE [(ka:Int),(kb:Int)] (some ⟨b2,0,none⟩) 2 _ h A c _ _ (hF.rep hX) hT (hG.ext hF.same) (hF.rowS (S:=λ_=>False) 0 O (ds:=[(ka:Int),(kb:Int)].map Zd) (n:=2) (RepL.cons_mk (c1:=[J (ka:Int)]) (Rep.lit_mk (v:=J (ka:Int)) (show Ty _ from ha63)) (RepL.cons_mk (c2:=[]) (Rep.lit_mk (v:=J (kb:Int)) (show Ty _ from hb63)) RepL.nil_mk)) O sX)) (Za en_24 O O O) ?_;rw[ZJ hr hka hkb];rintro _ w ⟨rfl,hE⟩;have hF:=hF.ext hE;refine Ca (Zj (b:=true) O) (Ca (Ae O) (Ca (Pd O) ?_));refine Gb hF (J1 [] none 0 (λ_=>True) (λq hq=>by cases hq) _ (Rep.nil_slice 0 sX none) (hG.ext hF.same)) (Ra en_29 O O) ?_;intro w hF;refine Ca (Zj (b:=true) O) (Ca (Md O O) (Ea (Gy O (Ja (Ca (Pd O) (Ca (Pd O) ?_))))));refine Ka (w':=w) (v:=.agg #[.slice A h.length c,aQ]) Mb (Ca (Kb O) (Ca (Kb O) ?_));refine Cb (base1_c h hr hT ka kb k0 hka hkb he A c none 0 0 _ _ (hF.rep hX) (hG.ext hF.same)) (Ic en_36 O O O O) ?_;rintro _ w ⟨qa,rfl,hRt,hE⟩;have hV:=RX.made (w0:=w0) (ids:=[b2,b1]) hF.same.size (λx hx=>hF.lt_ids (by simpa using hx)) hRt;have hF:=hF.ext hE;clear hE hRt;refine Ca (N4 O O) (Ca (Rs O O) ?_);refine Qf hF oZ O O Yt ?_;intro w hF hE;have hV:=hV.store hE (by grind);refine Ca (Sc O) (Ea ?_);refine Cc (Bc (Sa (Me O (l:=qa.cells) O aZ oZ O (hF.cellsAll 1 O) (v:=J 0) O) ?_));exact⟨qa,O,hV.rep.weaken λb hb hl=>⟨hb.1,hl,hb.2.2.2⟩,hF.same⟩
theorem Fr{w0 w:World}{bs_:List (Nat × Obj)}(hG:Gl w0)(hF:FR w0 [] bs_ w):∀x∈bs_.map (·.1),7<=x/\x<w.heap.size:=λx hx=>by
  refine⟨?_,hF.lt_ids hx⟩;obtain⟨q,hq,rfl⟩:=nQ.1 hx;have:=(hF.own q hq).2;simp only[List.not_mem_nil,or_false]at this;exact fQ hG.size this
theorem IR{w0 w:World}{bs_:List (Nat × Obj)}(hG:Gl w0)(hF:FR w0 [] bs_ w):∀x∈bs_.map (·.1)++YV w0,7<=x/\x<w.heap.size:=λx hx=>by
  rcases mQ.1 hx with hx|hx
  ·exact Fr hG hF x hx
  have := Z6.1 hx;exact⟨this.1,Nat.lt_of_lt_of_le this.2 hF.same.size⟩
theorem XQ{w0 w w1:World}{L:List Nat}{d:D}{cs:List Value}(h:RX (wE w1) (L++YV w0) w [d] cs):Rep (NewB w0 w) w d cs:=h.rep.weaken λb hb _=>⟨by
  by_cases h8:b<7
  ·exact .inl h8
  have h1 := hb.2.2.1;simp only[mQ,not_or,Z6]at h1;exact .inr sX,hb.2.1,hb.2.2.2⟩
theorem EG(h:List Cm)(hr:Ld h=true)(hT:∀x∈h,Xm x)(ka kb k0:Nat)(hka:ka<h.length)(hkb:kb<h.length)(he:(List.range h.length).filter (Wl h ka kb)=[k0])(hK0:k0<h.length)(mv:Tree × List Cf × Int)(hmv:Ev [] h[k0].val h[ka].val h[kb].val=mv)(hat:okM [] h[k0].val h[ka].val h[kb].val->AtA [] 40 (some h[k0].val) (some h[ka].val) (some h[kb].val))(hz:∀k (hk:k<h.length),Wb h[k].val<=256/\Yd h[k].val<=16777216)(A:Option Addr)(c:Nat)(S:Nat->Prop)(w0:World)(hX:Rep S w0 (Nr h) [.slice A h.length c])(hG:Gl w0):Calls prog 12 #[.slice A h.length c,J (ka:Int),J (kb:Int),aQ] w0 (Td λv w'=>MgO mv w0 v w'):=by
 refine Ga func12 O ntmps12 Fb (Us _ _ _ _) ?_;have hF:=FR.start w0 [];refine Ja (Od (cs:=#[J 0,I [],aQ,aQ]) hF nX O ?_);rintro b1 w hb1 hF -;refine Ca (Qg O) (Ca (Sc O) (Fc (Ca (Pd O) (Ca (Kb O) (Ca (Kb O) (Ca (Pd O) ?_))))));refine Cb (PQ h hr hT ka kb k0 hka hkb he A c _ _ (hF.rep hX) (hG.ext hF.same)) (Dh en_17 O O O O O) ?_;rintro _ w ⟨qa,rfl,hRt,hE⟩;have hV:=RX.made (w0:=w0) (ids:=[b1]) hF.same.size (λx hx=>hF.lt_ids (by simpa using hx)) hRt;rw[CR hK0]at hV;have hF:=hF.ext hE;clear hE hRt;refine Ca (Ro O) (Ca (N4 O O) (Ca (Rs O O) ?_));refine Kh hF nX oZ O ?_;intro b2 w hb2 hF hE;have hV:=hV.alloc hE hb2;refine Ca (Sc O) (Ea (Ha (Ja (Ca (Kb O) (Ca (Mz O O) (Ea ?_))))));refine Pc O O (λhc0=>?_) (λhc0=>?_);exact absurd hc0 Ua;refine Ta (Ia (Ha ?_));refine Id (.of [16]) (bQ [0,1,2,3,4,5,6,7,8,9,10,11] (.act 12 (bQ [13,14,15] (.act 16 (.free 17 (.free 18 .nil)))))) hF ?_;intro w hF hE;have hV:=hV.ext hE;refine⟨λwq=>FR w0 [] _ wq,hF,?_⟩;refine Hl O (Ch aZ oZ O C0 0 O O) (Hb O (Pd O) (Hb O (Kb O) ?_));obtain⟨ad0,q0,hA0,hk0,hn0,hx0,hy0⟩:=hX.cm_elem (i:=ka) (hka);refine Qa O (v:=.pointer (some (ad0.add (ka*5)))) (λw hC=>Pa (i:=(ka:Int)) Pt O hA0 O sX sX) (Qa O (v:=.pointer (some ((ad0.add (ka*5)).add 1))) (λw hC=>Wc (a:=ad0.add (ka*5)) Un O) (Qa O (v:=.agg (q0.v.cells).toArray) (λw hC=>Ya (l:=q0.v.cells) aZ oZ O O (Zg (hC.cells0 hk0) 1 O)) (Hb O (Pd O) (Hb O (Kb O) ?_))));obtain⟨ad1,q1,hA1,hk1,hn1,hx1,hy1⟩:=hX.cm_elem (i:=kb) (hkb);refine Qa O (v:=.pointer (some (ad1.add (kb*5)))) (λw hC=>Pa (i:=(kb:Int)) Pt O hA1 O sX sX) (Qa O (v:=.pointer (some ((ad1.add (kb*5)).add 1))) (λw hC=>Wc (a:=ad1.add (kb*5)) Un O) (Qa O (v:=.agg (q1.v.cells).toArray) (λw hC=>Ya (l:=q1.v.cells) aZ oZ O O (Zg (hC.cells0 hk1) 1 O)) (Hb O (Pd O) ?_)))
 refine Qb O (D9 [] h[k0].val h[ka].val h[kb].val hat qa q0.v q1.v none 0 _ _ _ (λ_=>True) _ hV.rep (hF.rep hy0) (hF.rep hy1) (Rep.nil_slice 0 sX none) (λq hq=>by cases hq) (hz k0 hK0) (hz ka hka) (hz kb hkb) (hG.ext hF.same)) (Dh en_13 O O O O O) ?_;rintro _ w ⟨q2,Ac,cc,rfl,hR1,hR2,hE⟩;rw[hmv]at hR1 hR2 ⊢;have hV2:=NewB.rx hR1 (u:=w0) (i:=[b2,b1]++YV w0) (IR hG hF);have hC2:=NewB.rx hR2 (u:=w0) (i:=[b2,b1]++YV w0) (IR hG hF);have hF:=hF.ext hE;clear hE hR1 hR2 hV;refine⟨hF,?_⟩;refine Hb O (N4 O O) (Hb O (VK O O) (Hb O (Rs O O) ?_));refine Ko O hF oZ O O Yt ?_;intro w hF hE;have hV2:=hV2.store hE (by grind);have hC2:=hC2.store hE (by grind);refine Hb O (Qg O) (Hb O (Sc O) (Ec (Ia ?_)));refine Cc (Bc (Sa (H0 O (l:=q2.cells) O aZ oZ O (hF.cellsAll 1 O) (v:=.slice Ac mv.2.1.length cc) O (y:=J (mv.2.2)) O) ?_));exact⟨q2,Ac,cc,O,XQ hV2,XQ hC2,hF.same⟩
open Go.RowKit
theorem UH{P:Program}{w0 w:World}{Ds:List Nat}{bs_:List (Nat × Obj)}{t ty e m bytes:Nat}{A A2:Option Addr}{n k c2:Nat}{xs news:List Value}(hE:Elems P t e m bytes)
    (hF:FR w0 Ds bs_ w) (hx:xs.length=n*m) (hA:Lie w A n xs) (hk:k≠0)
    (hl:news.length=k*m) (hnews:∃a,A2=some a/\∀j u,news[j]? = some u->w.cell? (a.add j)=some u) (h1:∀u∈news,u.oneCell'=true)
    (h63:n+k<=maxLen) (hbytes:(n+k)*bytes<=140737488355328) :
    ∃A' c' sb' w',(Builtin.append_ #[t,t] ty #[.slice A n n,.slice A2 k c2]).run P w=.ok (.slice A' (n+k) c') w'/\SlB e m A' (n+k) c' (xs++news) sb'/\FR w0 Ds (bs_++(sb'++[])) w'/\Same [] w w'/\∀p∈sb',w.heap.size<=p.1:=by
  obtain⟨i,z,hi,hz,h2,h3,h4⟩:=hE.info;subst h2;subst h3;by_cases hn:n=0
  ·subst hn
   have hxs:xs=[]:=List.eq_nil_of_length_eq_zero (by simpa using hx);subst hxs;have hF':FR w0 Ds (bs_++([]++[])) w:=by simpa using hF
   obtain⟨A',c',sb',w',hr,hS,hF2,hs,hp⟩:=Sz (ty:=ty) (c2:=c2) hE.ht hi hz rfl rfl h4 hF' (SlB.zero e i.size A) hl (λ_=>hnews) h1 h63 hbytes;exact⟨A',c',sb',w',hr,hS,hF2,hs,λp hpm=>(hp p hpm).resolve_left Da⟩
  obtain⟨a0, rfl, hc⟩ := hA hn;obtain⟨a,rfl,hnw⟩:=hnews;simp only[maxLen]at h63;have hr:=run_append_grow (P:=P) w t ty e i z hE.ht hi hz a0 n n xs hx (Ob hc) a k c2 news hl hnw sX sX (growslice_fits sX hbytes);have hge:=grownCap_ge w (n+k) n e;have hcm:grownCap w (n+k) n e<=maxLen:=grownCap_le_maxLen w (n+k) n e (by simp only[maxLen];omega);have hsm:∀o,Same [] w (w.drew.alloc o):=λo=>(Same.drew w).trans (Same.alloc w.drew _);have hlen:(xs++news).length=(n+k)*i.size:=by rw[dQ,hx,hl,Nat.add_mul]
  have hF':FR w0 Ds (bs_++([]++[])) w:=by simpa using hF
  refine⟨_,_,_,_,hr,⟨hlen,.inr ⟨w.heap.size,_,rfl,rfl,hge,hcm,?_,?_⟩⟩,hF'.insert (hsm _) (heap_alloc_new w.drew _),hsm _,λp hp=>by simp only[pQ]at hp;subst hp;exact gQ _⟩
  ·simp only[Array.size_append, List.size_toArray, size_zeroCells, h4, hx, hl, <- Nat.add_mul]
   congr 1
   omega
  simp only[Array.toList_append, sQ];rw[<-sQ,<-hlen];exact List.take_left
theorem RU(l:List Int):∀d∈l.map Zd,Wd d=1:=λd hd=>by obtain⟨k,_,rfl⟩:=nQ.1 hd;rfl
theorem size_cms(l:List Cm):∀d∈l.map cmD,Wd d=5:=λd hd=>by obtain⟨k,_,rfl⟩:=nQ.1 hd;exact FH k
theorem RepL.litsI{S S':Nat->Prop}{w w':World}:∀{ks:List Int}{cs:List Value},RepL S w (ks.map Zd) cs->RepL S' w' (ks.map Zd) cs
  | [],cs,h=>by have:=RepL.nil_inv h;subst this;exact RepL.nil_mk
  | k :: ks, cs, h => by
    obtain⟨c1,c2,rfl,h1,h2⟩:=RepL.cons_inv h;obtain⟨rfl,h3⟩:=Rep.lit_inv h1;exact RepL.cons_mk (Rep.lit_mk h3) (RepL.litsI h2)
theorem BK{e:Nat}{S:Nat->Prop}{w0 w w':World}{l:List Int}{es:List Value}{v:Value}(h:D1 e 1 l.length es w v w')(hr:RepL S w0 (l.map Zd) es):∃A c,v=.slice A l.length c/\Rep (Btw w w') w' (.slice (l.map Zd)) [.slice A l.length c]/\Same [] w w':=by
  obtain⟨A,c,sb,rfl,hS,hb,hE⟩:=h;exact⟨A,c,O,hS.btw hb hr.litsI Da,hE⟩
def Iv(a b:Nat)(w:World)(k:Nat):Prop:=a<=k/\k<b/\Soft w k
structure CmAt (w:World) (x:Cm) (q:Mv) (a m b:Nat):Prop where
  n:q.n=x.par.length
  p:Rep (Iv a m w) w (.slice (x.par.map Zd)) [.slice q.A q.n q.c]
  v:Rep (Iv m b w) w (Zb x.val) q.v.cells
  le:a<=m/\m<=b/\b<=w.heap.size
structure Pl where
  q:Mv
  a:Nat
  m:Nat
  b:Nat
def CmsAt(w:World)(a0:Nat):List Cm->List Pl->Nat->Prop
  | [],pl,hi=>pl=[]/\a0<=hi
  | x::l,pl,hi=>∃p pl',pl=p::pl'/\CmAt w x p.q p.a p.m p.b/\a0<=p.a/\CmsAt w p.b l pl' hi
theorem Soft.same{E:List Nat}{w w':World}{k:Nat}(h:Soft w k)(hs:Same E w w')(hk:k∉E):Soft w' k:=by
  obtain⟨cs,T,h⟩:=h;exact⟨cs,T,(hs.block k (Ma h) hk).trans h⟩
theorem Iv.same{E:List Nat}{a b:Nat}{w w':World}{d:D}{cs:List Value}(h:Rep (Iv a b w) w d cs)(hs:Same E w w')(hE:∀k,a<=k->k<b->k∉E):Rep (Iv a b w') w' d cs :=
  (Rep.same h hs λk hk hm=>hE k hm.1 hm.2.1 hk).weaken λk hk _=>⟨hk.1,hk.2.1,hk.2.2.same hs (hE k hk.1 hk.2.1)⟩
theorem CmAt.same{E:List Nat}{w w':World}{x:Cm}{q:Mv}{a m b:Nat}(h:CmAt w x q a m b)(hs:Same E w w')(hE:∀k,a<=k->k<b->k∉E):CmAt w' x q a m b :=
  ⟨h.n,Iv.same h.p hs (λk h1 h2=>hE k h1 (by have:=h.le;omega)),Iv.same h.v hs (λk h1 h2=>hE k (by have:=h.le;omega) h2),h.le.1,h.le.2.1,fQ h.le.2.2 hs.size⟩
theorem CmsAt.le{w:World}:∀{l:List Cm}{a0:Nat}{pl:List Pl}{hi:Nat},CmsAt w a0 l pl hi->a0<=hi
  | [],_,_,_,h=>h.2
  | x::l,_,_,_,⟨p,pl',_,h1,h2,h3⟩=>by have:=h1.le;have:=CmsAt.le h3;omega
theorem CmsAt.len{w:World}:∀{l:List Cm}{a0:Nat}{pl:List Pl}{hi:Nat},CmsAt w a0 l pl hi->pl.length=l.length
  | [],_,_,_,h=>by rw[h.1];rfl
  | x::l,_,_,_,⟨p,pl',he,h1,h2,h3⟩=>by rw[he,kQ,CmsAt.len h3,kQ]
def Z_(pl:List Pl)(k:Nat):Prop:=∀p∈pl,k<p.a\/p.b<=k
theorem CmsAt.same{E:List Nat}{w w':World}:∀{l:List Cm}{a0:Nat}{pl:List Pl}{hi:Nat},CmsAt w a0 l pl hi->Same E w w'->(∀k∈E,Z_ pl k)->CmsAt w' a0 l pl hi
  | [],_,_,_,h,_,_=>h
  | x :: l, _, _, _, ⟨p, pl', he, h1, h2, h3⟩, hs, hE => by
    subst he;exact⟨p,pl',rfl,h1.same hs (λk hk1 hk2 hm=>by rcases hE k hm p Da with h|h <;> omega),h2,h3.same hs λk hk q hq=>hE k hk q (by simp[hq])⟩
theorem CmsAt.ext{w w':World}{l:List Cm}{a0:Nat}{pl:List Pl}{hi:Nat}(h:CmsAt w a0 l pl hi)(hs:Same [] w w'):CmsAt w' a0 l pl hi:=h.same hs Da
theorem CmsAt.snoc{w:World}{x:Cm}{p:Pl}{h2:Nat}:∀{l:List Cm}{a0:Nat}{pl:List Pl}{hi:Nat},CmsAt w a0 l pl hi->CmAt w x p.q p.a p.m p.b->hi<=p.a->p.b<=h2->CmsAt w a0 (l++[x]) (pl++[p]) h2
  | [], _, _, _, h, hx, h1, hb => by
    obtain⟨rfl,h0⟩:=h;exact⟨p,[],O,hx,fQ h0 h1,O,hb⟩
  | y::l,_,_,_,⟨q,pl',he,h1,h2',h3⟩,hx,h4,hb=>⟨q,pl'++[p],by rw[he];rfl,h1,h2',h3.snoc hx h4 hb⟩
theorem CmsAt.mem{w:World}:∀{l:List Cm}{a0:Nat}{pl:List Pl}{hi:Nat},CmsAt w a0 l pl hi->∀p∈pl,a0<=p.a/\p.a<=p.b/\p.b<=hi
  | [],_,_,_,h,p,hp=>by rw[h.1]at hp;cases hp
  | x :: l, _, _, _, ⟨q, pl', he, h1, h2, h3⟩, p, hp => by
    subst he;have:=h1.le;rcases oQ.1 hp with rfl|hp
    ·have:=CmsAt.le h3;omega
    have:=CmsAt.mem h3 p hp;omega
theorem CmsAt.at{w:World}:∀{l:List Cm}{a0:Nat}{pl:List Pl}{hi:Nat}(h:CmsAt w a0 l pl hi)(i:Nat)(hi':i<l.length)(hp:i<pl.length),CmAt w l[i] pl[i].q pl[i].a pl[i].m pl[i].b
  | x :: l, _, _, _, ⟨q, pl', he, h1, h2, h3⟩, i, hi', hp => by
    subst he;cases i with
    | zero=>exact h1
    | succ i=>exact CmsAt.at h3 i (by simpa using hi') (by simpa using hp)
theorem CmsAt.apart{w:World}:∀{l:List Cm}{a0:Nat}{pl:List Pl}{hi:Nat}(h:CmsAt w a0 l pl hi)(i j:Nat)(hij:i<j)(hj:j<pl.length),(pl[i]' sX).b<=pl[j].a
  | [],_,_,_,h,i,j,hij,hj=>by rw[h.1]at hj;cases hj
  | x :: l, _, _, _, ⟨q, pl', he, h1, h2, h3⟩, i, j, hij, hj => by
    subst he;cases j with
    | zero=>omega
    | succ j =>
      cases i with
      | zero=>exact (CmsAt.mem h3 _ (eQ (by simpa using hj))).1
      | succ i=>exact CmsAt.apart h3 i j sX (by simpa using hj)
def Bk(pl:List Pl):List Value:=pl.flatMap λp=>p.q.cells
theorem II(pl:List Pl)(p:Pl):Bk (pl++[p])=Bk pl++p.q.cells:=by simp[Bk]
theorem CmsAt.repL{w:World}{S:Nat->Prop}:∀{l:List Cm}{a0:Nat}{pl:List Pl}{hi:Nat},CmsAt w a0 l pl hi->(∀k,a0<=k->k<hi->Soft w k->S k)->RepL S w (l.map cmD) (Bk pl)
  | [],_,_,_,h,_=>by rw[h.1];exact RepL.nil_mk
  | x :: l, a0, _, hi, ⟨p, pl', he, h1, h2, h3⟩, hS => by
    subst he;have hle:=h1.le;have hl3:=CmsAt.le h3;exact RepL.cons_mk (F8 h1.n (h1.p.weaken λk hk _=>hS k (by have:=hk.1;omega) (by have:=hk.2.1;omega) hk.2.2) (h1.v.weaken λk hk _=>hS k (by have:=hk.1;omega) (by have:=hk.2.1;omega) hk.2.2)) (CmsAt.repL h3 λk hk1 hk2 hk3=>hS k sX hk2 hk3)
end Go.Scarf
