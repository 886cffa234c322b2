/- A part of the proof. -/
import Derived.Test.YtidlkjpohhbbcaaGreatDoorQ4
set_option linter.all false
set_option maxHeartbeats 8000000
set_option maxRecDepth 10000
namespace Go.Scarf
open Go.RowKit Go.Proofs Go.Proofs.Tryz
structure MmsP (t:List Mm):Prop where
  ok:∀m∈t,MmOk m
  n:t.length<=1000000
  sz:Nb (Lu t)<=1000000000
  mx:Kd (Lu t)<=1073741824
theorem UX{S:Nat->Prop}{w:World}{m:Mm}{g n:Nat}(h:Rep S w (.slice ([ofT m.pr,Ud m.sd].map Ob)) [W g 2 2]):Rep S w (Ob (DB m)) [J 5,I [],aQ,W g 2 2] :=
  Rep.tree_mk (ks:=[]) (xs:=[ofT m.pr,Ud m.sd]) ⟨by decide,by decide⟩ Oa (Rep.nil_slice 0 Aa none) (by rw[Je];exact h)
theorem FR.notin{w0 w:World}{Ds i:List Nat}{bs_:List (Nat × Obj)}(hF:FR w0 Ds bs_ w)(k:Nat){g:Nat}{o:Obj}(hi:bs_[k]? = some (g,o))(h:∀x∈i,x∈ids (bs_.drop (k+1))):g∉i:=λhm=>by
  obtain⟨q,hq,e⟩:=nQ.1 (h g hm);obtain⟨hk,he⟩:=List.getElem?_eq_some_iff.1 hi;obtain⟨j,hj,rfl⟩:=List.getElem_of_mem hq;rw[List.length_drop]at hj;rw[List.getElem_drop]at e;have:=List.pairwise_iff_getElem.1 hF.desc k (k+1+j) hk Aa Aa;rw[he]at this;exact this e
theorem item_kx{w0 w:World}{bs_:List (Nat × Obj)}{i:List Nat}{g:Nat}{m:Mm}{xw:Tv}(hF:FR w0 [] bs_ w)(k:Nat)(hi:bs_[k]? = some (g,.cells #[J 4,I m.pr,aQ,aQ,J xw.k,I xw.t,.slice xw.A xw.n xw.c,.slice xw.B xw.m xw.e] 36))(hp:m.pr.length<=9223372036854775807)(hW:KX i w [Ob (Ud m.sd)] xw.cells)(hg:g∉i) :
    KX i w [Ob (DB m)] [J 5,I [],aQ,W g 2 2]:=by
  have h1:Rep (Kp i w) w (Ob (ofT m.pr)) [J 4,I m.pr,aQ,aQ]:=Rep.tree_mk (ks:=[]) (xs:=[]) ⟨by decide,by decide⟩ hp (Rep.nil_slice 0 Aa none) (Rep.nil_slice 0 Aa none);have h2:=hF.rowS k hi (n:=2) (ds:=[ofT m.pr,Ud m.sd].map Ob) (RepL.cons_mk h1 hW) rfl Aa;refine RepL.cons_mk (c2:=[]) (UX (n:=0) (h2.weaken λb hb hl=>?_)) RepL.nil_mk;rcases hb with h|h
  ·exact h
  exact⟨hl,by rw[h];exact hg⟩
theorem KX.rowB{w0 w:World}{ts:List Tree}{i:List Nat}{A:Option Addr}{n c:Nat}{vals:List Value}{pre its post:List (Nat × Obj)}(hF:FR w0 [] (pre++(its++post)) w)(hS:SlB 36 4 A n c vals its)(h:KX i w (ts.map Ob) vals)(hn:ts.length=n):Rep (λ_=>True) w (.slice (ts.map Ob)) [.slice A n c] :=
  hS.repOf (λp hp=>⟨hF.memHeap (by simp[hp]),trivial⟩) h.any (by simpa using hn)
theorem HN{w0 w:World}{pre its post:List (Nat × Obj)}{i:List Nat}(hF:FR w0 [] (pre++(its++post)) w)(hi:∀x∈i,x∈ids pre\/x∈ids its):∀x∈i,w0.heap.size<=x/\x<w.heap.size:=λx hx=>by
  have:∃q∈pre++(its++post),q.1=x:=by
    rcases hi x hx with h|h
    ·obtain⟨q,hq,e⟩:=nQ.1 h;exact⟨q,by simp[hq],e⟩
    obtain⟨q,hq,e⟩:=nQ.1 h;exact⟨q,by simp[hq],e⟩
  obtain⟨q,hq,rfl⟩:=this;have ho:=hF.own q hq;exact⟨ho.2.elim id (λh=>by cases h),Ac ho.1⟩
theorem save_c(t:List Mm)(A:Option Addr)(c:Nat)(S:Nat->Prop)(w0:World)(hX:Rep S w0 (Xd t) [.slice A t.length c])(hP:MmsP t)(hG:Gl w0):Calls prog 8 #[.slice A t.length c] w0 (Yc λv w'=>v=.tuple #[I ((Ox t).1),J (Ox t).2]/\Same [] w0 w'):=by
 have htl:=hP.n;refine Fa func8 O ntmps8 Ab (Wb _) ?_;have hF:=FR.start w0 [];refine Ea (Ba (He O) (Ba (Fb O) (Da (Ga (Ea (Ba (Hd O) ?_))))));refine Pa hF (Rp t A c S _ (hF.rep hX) hP.ok (hG.ext hF.same)) (Ma G7 O O) ?_;intro w hF;refine Ba (Di O) (Da ?_);refine Jd O O (λhc0=>?_) (λhc0=>?_);have h0:Te t=false:=by simpa using hc0
 refine Ea (Ba (He O) (Ba (Fb O) (Da ?_)));refine Db (Cb (La (Oc (v:=I []) (x:=J 1) O O O) ?_));have e:Ox t=([],1):=by unfold Ox;rw[if_neg (by rw[h0];decide)]
 rw[e];exact⟨O,hF.same⟩;have h0:Te t=true:=by simpa using hc0
 refine Ka (Ha (Ea ?_));refine Pa hF (JJ none 0 0 _) (Ma SJ O O) ?_;intro w hF;refine If hF oX nZ O ?_;rintro b1 w hb1 hF -;refine Da (Ga (Ea (Ba (Hd O) (Ba (Nf zZ O) (Ba (Za O) (Da (Qa ?_)))))));refine Fc (λμ σ w=>∃(j:Nat),∃(AI:Option Addr),∃(cI:Nat),∃(its:List (Nat × Obj)),∃(vals:List Value),μ=t.length-j/\(j<=t.length)/\(SlB 36 4 AI j cI vals its)/\(KX ([b1]++ids its) w (((t.take j).map DB).map Ob) vals)/\AllEq σ [(4,V b1),(11,.slice A t.length c),(12,J ((t.length:Nat))),(13,J ((j:Int)))]/\FR w0 [] ([(b1,.cells #[J 5,I [],aQ,.slice AI j cI] 36)]++(its++[])) w) _ ⟨0,none,0,[],[],O,(Nat.zero_le _),(SlB.nil _ _),(RepL.nil_mk),Jj,hF⟩ ?_;rintro μ σ w ⟨j,AI,cI,its,vals,rfl,hj,hS,hV,hs,hF⟩;refine Cg.slots hs ?_;clear hs;intro σ;have hLC:∀x∈([b1]++ids its),w0.heap.size<=x/\x<w.heap.size:=HN (pre:=[_]) hF (by simp[ids]);refine Ea (Ba (Pg O O) (Da (Ga ?_)));refine Jb O O (λhc1=>?_) (λhc1=>?_);refine Ka (Ha (Ga (Qa (Ga ?_))));have hjl:j<t.length:=by omega
 refine Ja ?_;obtain⟨ad0,q0,hA0,hk0,hx0,hp0⟩:=hX.mm_elem (i:=j) (hjl);refine Ia (v:=.pointer (some (ad0.add (j*6)))) (Na (i:=(j:Int)) Ye O hA0 O Aa Aa) (Ia (v:=.agg #[I (t[j].pr),.bool (q0.h),J (q0.v.k),I (q0.v.t),.slice q0.v.A q0.v.n q0.v.c,.slice q0.v.B q0.v.m q0.v.e]) (Wa (l:=(Qn t[j].pr q0)) gZ qZ O O (hF.cells0 hk0)) ?_);refine If hF qX qZ O ?_;intro b2 w hb2 hF hE;have hV:=hV.ext hE;refine Da (Md ⟨[13],λwq=>FR w0 [] [(b2,.cells #[I (t[j].pr),.bool (q0.h),J (q0.v.k),I (q0.v.t),.slice q0.v.A q0.v.n q0.v.c,.slice q0.v.B q0.v.m q0.v.e] 44)] wq,[]⟩ (bQ [0,1,2,3,5,6] (cQ [4,7,8,9,10,11] (.free 12 (.act 13 .nil)))) hF ?_);intro w hF hE;have hV:=hV.ext hE;refine⟨λwq=>FR w0 [] [(b2,.cells #[I (t[j].pr),.bool (q0.h),J (q0.v.k),I (q0.v.t),.slice q0.v.A q0.v.n q0.v.c,.slice q0.v.B q0.v.m q0.v.e] 44),(b1,.cells #[J 5,I [],aQ,.slice AI j cI] 36)] wq,hF.mid 0 2,?_⟩;refine Ib O (Mb Tb O) (Ng O (Ie zQ O C0 1 O O) (Ib O (Mb Dh O) (Ng O (Ej iZ O C0 0 O O) (Ib O (Mb Xg O) (Sa O (v:=.agg (q0.cells).toArray) (λw hC=>Wa (l:=q0.cells) cZ oZ O O (hC.part 0 1 O O)) ?_)))));refine Dd O (of_c t[j].pr _) (Ma en_36 O O) ?_;rintro _ w ⟨rfl,hE⟩;have hF:=hF.ext hE;have hV:=hV.ext hE;refine⟨hF.mid 0 2,?_⟩;refine Dd O (Sw t[j].sd q0 (λb=>b<w0.heap.size) _ (hF.rep hx0.low)) (Ma BT O O) ?_;rintro _ w ⟨ct,rfl,hW,hE⟩;obtain⟨xw,rfl,-⟩:=Vg hW;have hW:KX ([b1]++ids its) _ [Ob (Ud t[j].sd)] xw.cells:=RepL.cons_mk (c2:=[]) (KX.made (i:=([b1]++ids its)) hF hE (HN (pre:=[_,_]) hF (λx hx=>(mQ.1 hx).elim (λh=>.inl (by rw[pQ.1 h];simp[ids])) .inr)) hW) RepL.nil_mk;have hV:=hV.ext hE;have hF:=hF.ext hE;refine⟨hF.mid 0 2,?_⟩;refine Jf 2 O hF (Gb (cs:=#[J 4,I (t[j].pr),aQ,aQ,J (xw.k),I (xw.t),.slice xw.A xw.n xw.c,.slice xw.B xw.m xw.e]) dX nZ oX Ua Ua Qb) ?_;intro b3 w hb3 hF hE
 have hV:=hV.ext hE;have hW:=hW.ext hE;refine⟨hF.mid 1 2,?_⟩;refine Dd O (JJ (some ⟨b3,0,none⟩) 2 2 _) (Ma SJ O O) ?_;rintro _ w ⟨rfl,hE⟩;have hF:=hF.ext hE;have hV:=hV.ext hE;have hW:=hW.ext hE;refine⟨hF.mid 1 2,?_⟩;refine Jf 1 O hF (Gb (cs:=#[J 5,I [],aQ,W b3 2 2]) dX nZ oX Ua Ua Qb) ?_;intro b4 w hb4 hF hE;have hV:=hV.ext hE;have hW:=hW.ext hE;refine⟨hF.mid 2 2,?_⟩;have hIt:=item_kx (i:=([b1]++ids its)) (g:=b3) hF 1 rfl hp0 hW (hF.notin 1 rfl (λx hx=>(mQ.1 hx).elim (λh=>by rw[pQ.1 h];simp[ids]) (λh=>by unfold ids at h;simp[ids,h])));refine IL (news:=[J 5,I [],aQ,W b3 2 2]) (len':=(j+1)) (ys:=vals++[J 5,I [],aQ,W b3 2 2]) O Np hF hS O O (O) (λ_=>⟨_,O,Jc (hF.cellsAll 0 O)⟩) (by simp[Value.oneCell']) (by simp only[maxLen];omega) (O) (O) Aa ?_;intro A1 c1 its_1 w hS1_its hF hE hnew;have hsub:∀x∈its.map (·.1),x∈([b1]++ids its):=λx hx=>List.mem_append_right _ hx;have hV:=(hV.append hIt).grow hE hnew hsub;clear hsub hIt;refine⟨hF.mid 2 2,?_⟩;refine Ib O (Mb Tb O) (Q_ (.slice _ _ _) O hF mZ O O N_.app N_ ?_);intro w hF hE;have hV:=hV.store hE Oa;refine⟨hF.sub (.cons _ (.cons _ (.cons_cons _ (.cons _ (List.nil_sublist _))))),?_⟩;refine Ic (Ya (Ha (Ja (Ba (Bi (((j+1:Nat):Int)) O O) (Ba (Za O) (Va ?_))))));refine Ta ⟨_,?_,j+1,A1,c1,its_1,vals++[J 5,I [],aQ,W b3 2 2],rfl,Aa,(hS1_its),(by rw[iQ hjl,jQ,jQ];exact hV.sub (by intro x hx;simp only[mQ]at hx ⊢;grind)),Jj,hF.drop 3⟩;omega;refine Bc (Yb O ?_);refine Ha (Ea (Xb (Bf aZ nZ O hF.F 0 O O) ?_));obtain rfl:j=t.length:=by omega
 have hrow:=KX.rowB (pre:=[_]) (its:=its) (post:=[]) (ts:=t.map DB) hF hS (by rw[List.take_length]at hV;exact hV) Oa;have hT:Rep (λ_=>True) _ (Ob (Lu t)) [J 5,I [],aQ,.slice AI t.length cI]:=Rep.tree_mk (ks:=[]) (xs:=t.map DB) ⟨by decide,by decide⟩ Oa (Rep.nil_slice 0 Aa none) (by rw[Je];exact hrow);refine Eb (DU (Lu t) (λ_=>True) _ _ hT (hG.ext hF.same) hP.sz hP.mx) (Ma en_38 O O) ?_;rintro _ w ⟨rfl,hE⟩;have hF:=hF.ext hE;have hV:=hV.ext hE;refine Ba (Ly O O) (Ba (Rj O O) (Ba (He O) (Ba (Fb O) (Da ?_))));refine Db (Cb (La (Oc (v:=I (Sm (Ae (Lu t)))) (x:=J (Is (Ae (Lu t)))) O O O) ?_));have e:Ox t=(Sm (Ae (Lu t)),Is (Ae (Lu t))):=by unfold Ox;rw[if_pos h0]
 rw[e];exact⟨O,hF.same⟩
structure Jp (S:Nat->Prop) (w:World) (ex sm:List (Nat × Obj)) (pb:Nat) (s:Str) (p:Ps):Prop where
  parts:∃(A Ar:Option Addr)(c cr:Nat)(sl:List (Nat × Obj))(vals:List Value)(sb:List (Nat × Obj)),sm=(pb,.cells (Iu s Ar cr p A c).toArray 138)::(sl++sb)/\SlB 145 7 A p.nodes.length c vals sl/\NdsAt 3 136 p.nodes vals sb/\Rep S w (Tm p.rest) [.slice Ar p.rest.length cr]
  off:Off S w (ex++sm)
  pw:(ex++sm).Pairwise (λp q=>q.1≠p.1)
  hh:∀q∈ex++sm,w.heap[q.1]? = some q.2
section
variable {S:Nat->Prop}{w w' w0:World}{ex sm sm1 sm' pre post bs_:List (Nat × Obj)}{pb:Nat}{s:Str}{p p':Ps}{E Ds:List Nat}
theorem Jp.frame(h:Jp S w ex sm pb s p)(h':Jp S w' [] sm' pb s p')(hm:Mc w sm w' sm'):Jp S w' ex sm' pb s p'/\Mc w (ex++sm) w' (ex++sm'):=by
  have hp:=List.pairwise_append.1 h.pw;have hex:∀q∈ex,q.1∉ids sm:=λq hq hi=>by
    obtain⟨r,hr,e⟩:=nQ.1 hi;exact hp.2.2 q hq r hr e
  have hlt:∀q∈ex,q.1<w.heap.size:=λq hq=>Ac (h.hh q (List.mem_append_left _ hq));have hheap:∀q∈ex,w'.heap[q.1]? = some q.2:=λq hq=>(hm.same.block q.1 (hlt q hq) (hex q hq)).trans (h.hh q (List.mem_append_left _ hq));have hx:∀q∈ex,∀r∈sm',r.1≠q.1:=λq hq r hr e=>by
    rcases hm.fresh r hr with h1|h1
    ·have:=hlt q hq;omega
    exact hex q hq (e▸h1)
  refine⟨⟨h'.parts,λx hx1=>⟨(h'.off x hx1).1,λhi=>?_⟩,?_,λq hq=>?_⟩,?_,λq hq=>?_⟩
  ·unfold ids at hi
   rw[jQ]at hi;rcases mQ.1 hi with h1|h1
   ·exact (h.off x hx1).2 (by unfold ids;rw[jQ];exact List.mem_append_left _ h1)
   exact (h'.off x hx1).2 (by simpa[ids]using h1)
  ·exact List.pairwise_append.2 ⟨hp.1,by simpa using h'.pw,λq hq r hr=>hx q hq r hr⟩
  ·rcases mQ.1 hq with h1|h1
   ·exact hheap q h1
   exact h'.hh q (by simpa using h1)
  ·exact hm.same.mono (by intro b hb _;unfold ids at hb ⊢;rw[jQ];exact List.mem_append_right _ hb)
  rcases mQ.1 hq with h1|h1
  ·exact .inr (by unfold ids;rw[jQ];exact List.mem_append_left _ (List.mem_map_of_mem h1))
  rcases hm.fresh q h1 with h2|h2
  ·exact .inl h2
  exact .inr (by unfold ids at h2 ⊢;rw[jQ];exact List.mem_append_right _ h2)
theorem Jp.ext(h:Jp S w ex sm pb s p)(hE:Same [] w w'):Jp S w' ex sm pb s p:=by
  obtain⟨A,Ar,c,cr,sl,vals,sb,h1,h2,h3,h4⟩:=h.parts;exact⟨⟨A,Ar,c,cr,sl,vals,sb,h1,h2,h3,h4.ext hE⟩,λb hb=>⟨Nat.lt_of_lt_of_le (h.off b hb).1 hE.size,(h.off b hb).2⟩,h.pw,λq hq=>(hE.block q.1 (Ac (h.hh q hq)) Oa).trans (h.hh q hq)⟩
theorem Mc.ext(hE:Same [] w w'):Mc w sm w' sm:=⟨hE.mono Oa,λq hq=>.inr (List.mem_map_of_mem hq)⟩
theorem Mc.trans{w2:World}{sm2:List (Nat × Obj)}(h:Mc w sm w' sm')(h2:Mc w' sm' w2 sm2):Mc w sm w2 sm2:=by
  have hf:∀b∈ids sm',w.heap.size<=b\/b∈ids sm:=λb hb=>by
    obtain⟨q,hq,rfl⟩:=nQ.1 hb;exact h.fresh q hq
  refine⟨⟨h2.same.os.trans h.same.os,h2.same.tape.trans h.same.tape,h2.same.output.trans h.same.output,fQ h.same.size h2.same.size,λb hb hn=>?_⟩,λq hq=>?_⟩
  ·refine (h2.same.block b (Nat.lt_of_lt_of_le hb h.same.size) λhm => ?_).trans (h.same.block b hb hn)
   rcases hf b hm with h1|h1
   ·omega
   exact hn h1
  rcases h2.fresh q hq with h1|h1
  ·exact .inl (fQ h.same.size h1)
  exact hf _ h1
theorem Jp.head{o:Obj}{sl sb:List (Nat × Obj)}{A Ar:Option Addr}{c cr:Nat}{vals:List Value}(hq:p'.nodes=p.nodes)(hoff:Off S w (ex++(pb,o)::(sl++sb)))(hpw:(ex++(pb,o)::(sl++sb)).Pairwise (λp q=>q.1≠p.1))(hh:∀q∈ex++(pb,o)::(sl++sb),w.heap[q.1]? = some q.2)
    (h1:SlB 145 7 A p.nodes.length c vals sl) (h2:NdsAt 3 136 p.nodes vals sb) (hb:w'.heap[pb]? = some (.cells (Iu s Ar cr p' A c).toArray 138)) (hE:Same [pb] w w') (h3:Rep S w' (Tm p'.rest) [.slice Ar p'.rest.length cr]) :
    ∃sm',Jp S w' ex sm' pb s p'/\Mc w (ex++(pb,o)::(sl++sb)) w' (ex++sm'):=by
  have hids:ids (ex++(pb,Obj.cells (Iu s Ar cr p' A c).toArray 138)::(sl++sb))=ids (ex++(pb,o)::(sl++sb)):=by simp[ids]
  have hpm:pb∈ids (ex++(pb,o)::(sl++sb)):=by simp[ids]
  have hne:∀q∈ex++(sl++sb),q.1≠pb:=λq hq e=>by
    have hp:=List.pairwise_append.1 hpw;rcases mQ.1 hq with h|h
    ·exact hp.2.2 q h (pb,o) List.mem_cons_self e.symm
    exact (List.pairwise_cons.1 hp.2.1).1 q h e
  refine⟨(pb,.cells (Iu s Ar cr p' A c).toArray 138)::(sl++sb),⟨⟨A,Ar,c,cr,sl,vals,sb,rfl,hq▸h1,hq▸h2,h3⟩,?_,?_,?_⟩,hE.mono (by intro b hb _;rw[pQ.1 hb];exact hpm),λq hq=>.inr (by rw[<-hids];exact List.mem_map_of_mem hq)⟩
  ·intro b hb'
   rw[hids];exact⟨Nat.lt_of_lt_of_le (hoff b hb').1 hE.size,(hoff b hb').2⟩
  ·have hp := List.pairwise_append.1 hpw
   have hc:=List.pairwise_cons.1 hp.2.1;exact List.pairwise_append.2 ⟨hp.1,List.pairwise_cons.2 ⟨hc.1,hc.2⟩,λq hq r hr=>by
     rcases oQ.1 hr with rfl|hr
     ·exact hp.2.2 q hq (pb,o) List.mem_cons_self
     exact hp.2.2 q hq r (List.mem_cons_of_mem _ hr)⟩
  intro q hq;have:q=(pb,Obj.cells (Iu s Ar cr p' A c).toArray 138)\/q∈ex++(sl++sb):=by
    rcases mQ.1 hq with h|h
    ·exact .inr (List.mem_append_left _ h)
    rcases oQ.1 h with h|h
    ·exact .inl h
    exact .inr (List.mem_append_right _ h)
  rcases this with rfl|h
  ·exact hb
  have hm:q∈ex++(pb,o)::(sl++sb):=by
    rcases mQ.1 h with h|h
    ·exact List.mem_append_left _ h
    exact List.mem_append_right _ (List.mem_cons_of_mem _ h)
  exact (hE.block q.1 (Ac (hh q hm)) (by simpa using hne q h)).trans (hh q hm)
def Jr(S:Nat->Prop)(ex:List (Nat × Obj))(sm:List (Nat × Obj))(pb:Nat)(s:Str)(w0:World)(b:Bool)(p:Ps)(v:Value)(w':World):Prop:=v=.bool b/\∃sm',Jp S w' ex sm' pb s p/\Mc w0 (ex++sm) w' (ex++sm')
theorem F9{o:Obj}{sl:List (Nat × Obj)}(h:Off S w (ex++(pb,o)::sl)):∀b,S b->b≠pb:=λb hb e=>(h b hb).2 (by subst e;simp[ids])
theorem kind_p(h:Jp S w ex sm pb s p):Calls prog 171 #[V pb] w (Yc λv w'=>v=J p.kind/\Same [] w w'):=by
  obtain⟨A,Ar,c,cr,sl,vals,sb,rfl,h1,h2,h3⟩:=h.parts;exact kind_c s p Ar A cr c pb S w (h.hh _ (List.mem_append_right _ List.mem_cons_self)) h3 (F9 h.off)
theorem V9(h:Jp S w ex sm pb s p)(e:Int):Calls prog 114 #[V pb,J e] w (Yc λv w'=>Jr S ex sm pb s w false (p.fail s.length e) v w'):=by
  obtain⟨A,Ar,c,cr,sl,vals,sb,rfl,h1,h2,h3⟩:=h.parts;have ho:=F9 h.off;refine Cm (fail_c s p Ar A cr c pb S e w (h.hh _ (List.mem_append_right _ List.mem_cons_self)) h3 ho) ?_;rintro v w' ⟨rfl,hb,hE⟩;exact⟨O,Jp.head (p:=p) O h.off h.pw h.hh h1 h2 hb hE (h3.same hE λb hb hs=>ho b hs (by simpa using hb))⟩
theorem L9(p:Ps):p.skip.nodes=p.nodes:=by unfold Ps.skip;cases p.rest <;> rfl
theorem skip_p(h:Jp S w ex sm pb s p)(hr:p.rest≠[]):Calls prog 172 #[V pb] w (Yc λv w'=>v=.tuple #[]/\∃sm',Jp S w' ex sm' pb s p.skip/\Mc w (ex++sm) w' (ex++sm')):=by
  obtain⟨A,Ar,c,cr,sl,vals,sb,rfl,h1,h2,h3⟩:=h.parts;have ho:=F9 h.off;obtain⟨t,r,hpr⟩:∃t r,p.rest=t::r:=by cases hp:p.rest with|nil=>exact absurd hp hr|cons t r=>exact⟨t,r,rfl⟩
  refine Cm (skip_c s p Ar A cr c pb S t r w (h.hh _ (List.mem_append_right _ List.mem_cons_self)) h3 ho hpr) ?_;rintro v w' ⟨rfl,Ar',cr',hb,h4,hE⟩;exact⟨O,Jp.head (p:=p) (L9 p) h.off h.pw h.hh h1 h2 hb hE h4⟩
theorem OE(h:Jp S w ex sm pb s p)(k:Int)(hk:k≠0):Calls prog 232 #[V pb,J k] w (Yc λv w'=>Jr S ex sm pb s w (decide (p.kind=k)) (if p.kind=k then p.skip else p) v w'):=by
  obtain⟨A,Ar,c,cr,sl,vals,sb,rfl,h1,h2,h3⟩:=h.parts;have ho:=F9 h.off;refine Cm (takes_c s p Ar A cr c pb S k hk w (h.hh _ (List.mem_append_right _ List.mem_cons_self)) h3 ho) ?_;rintro v w' (⟨hc,rfl,hb,hE⟩|⟨hc,rfl,Ar',cr',hb,h4,hE⟩)
  ·rw[if_neg hc]
   exact⟨by rw[decide_eq_false hc],Jp.head (p:=p) O h.off h.pw h.hh h1 h2 hb hE (h3.same hE λb hb hs=>ho b hs (by simpa using hb))⟩
  rw[if_pos hc];exact⟨by rw[decide_eq_true hc],Jp.head (p:=p) (L9 p) h.off h.pw h.hh h1 h2 hb hE h4⟩
end
def NB(l:List Nd):Prop:=l.length<=4096/\∀x∈l,x.kids.length<l.length/\x.pcs.length=x.kids.length
theorem B9(l:List Nd)(n:Nat)(k f t:Int):(addKid l n k f t).length=l.length:=by
  unfold addKid;cases l[n]? <;> simp
theorem WL(l:List Nd)(n:Nat)(k f t:Int):(addKid l n k f t).take n=l.take n:=by
  unfold addKid;cases l[n]? with
  | none=>rfl
  | some x=>exact List.take_set_of_le (gQ _)
theorem VA(l:List Nd)(n t:Nat):(setTo l n t).length=l.length:=by
  unfold setTo;cases l[n]? <;> simp
theorem YQ(l:List Nd)(n t:Nat):(setTo l n t).take n=l.take n:=by
  unfold setTo;cases l[n]? with
  | none=>rfl
  | some x=>exact List.take_set_of_le (gQ _)
theorem NB.set{l:List Nd}(h:NB l){n:Nat}{x:Nd}(h1:x.kids.length<l.length)(h2:x.pcs.length=x.kids.length):NB (l.set n x):=by
  refine⟨by rw[List.length_set];exact h.1,λy hy=>?_⟩;rw[List.length_set];rcases List.mem_or_eq_of_mem_set hy with h3|rfl
  ·exact h.2 y h3
  exact⟨h1,h2⟩
theorem NB.setTo{l:List Nd}(h:NB l)(n t:Nat):NB (setTo l n t):=by
  unfold Go.Scarf.setTo;cases hx:l[n]? with
  | none=>exact h
  | some x=>exact h.set (h.2 x (List.mem_of_getElem? hx)).1 (h.2 x (List.mem_of_getElem? hx)).2
theorem NB.addKid{l l':List Nd}(h:NB l)(h':NB l')(hp:l <+: l')(hlt:l.length<l'.length){n:Nat}(hn:n<l.length)(k f t:Int):NB (addKid l' n k f t):=by
  unfold Go.Scarf.addKid;cases hx:l'[n]? with
  | none=>exact h'
  | some x =>
    have e:l[n]? = some x:=by
      obtain⟨r,rfl⟩:=hp
      rwa [List.getElem?_append_left hn]at hx
    have h1:=h.2 x (List.mem_of_getElem? e);exact h'.set (by simp only[dQ,kQ,List.length_nil];omega) (by simp only[dQ,kQ,List.length_nil];omega)
theorem XH{l l':List Nd}(h:l <+: l'){n:Nat}(hn:n<=l.length):l'.take n=l.take n:=by
  obtain⟨r,rfl⟩:=h;exact List.take_append_of_le_length hn
theorem pre_of{l l':List Nd}(h:l'.take l.length=l):l <+: l':=by rw[<-h];exact List.take_prefix _ _
def NdOk(x:Nd):Prop:=(0<=x.k/\x.k<=6)/\x.f<=65536/\x.t<=65536/\x.kf<=65536/\x.kt<=65536/\(∀j∈x.kids,0<=j/\j<4096)/\∀q∈x.pcs,(0<=q.1/\q.1<=65536)/\0<=q.2/\q.2<=65536
def TkB(x:Tk):Prop:=x.f<=65536/\x.t<=65536
structure NP (p:Ps):Prop where
  nb:NB p.nodes
  nd:∀x∈p.nodes,NdOk x
  tk:∀x∈p.rest,TkB x
  lt:p.lt<=65536
theorem NP.skip{p:Ps}(h:NP p):NP p.skip:=by
  unfold Ps.skip;cases hr:p.rest with
  | nil=>exact h
  | cons t r =>
    have:=h.tk t (by rw[hr];exact List.mem_cons_self);exact⟨h.nb,h.nd,λx hx=>h.tk x (by rw[hr];exact List.mem_cons_of_mem _ hx),this.2⟩
theorem NP.fail{p:Ps}(h:NP p)(n:Nat)(e:Int):NP (p.fail n e):=⟨h.nb,h.nd,h.tk,h.lt⟩
theorem PT{p:Ps}(h:NP p){n:Nat}(hn:n<=65536):p.here n<=65536:=by
  unfold Ps.here;cases hr:p.rest with
  | nil=>exact hn
  | cons t r=>exact (h.tk t (by rw[hr];exact List.mem_cons_self)).1
theorem NdOk.add{l:List Nd}(h:∀x∈l,NdOk x)(n:Nat){k f t:Int}(h1:0<=k/\k<4096)(h2:0<=f/\f<=65536)(h3:0<=t/\t<=65536):∀x∈addKid l n k f t,NdOk x:=by
  unfold addKid;cases hx:l[n]? with
  | none=>exact h
  | some x =>
    intro y hy;rcases List.mem_or_eq_of_mem_set hy with h4|rfl
    ·exact h y h4
    obtain⟨a1, a2, a3, a4, a5, a6, a7⟩ := h x (List.mem_of_getElem? hx);refine⟨a1,a2,a3,a4,a5,λj hj=>?_,λq hq=>?_⟩
    ·rcases mQ.1 hj with h5|h5
     ·exact a6 j h5
     rw[pQ.1 h5];exact h1
    rcases mQ.1 hq with h5|h5
    ·exact a7 q h5
    rw[pQ.1 h5];exact⟨h2,h3⟩
theorem NdOk.setTo{l:List Nd}(h:∀x∈l,NdOk x)(n:Nat){t:Nat}(h1:t<=65536):∀x∈setTo l n t,NdOk x:=by
  unfold Go.Scarf.setTo;cases hx:l[n]? with
  | none=>exact h
  | some x =>
    intro y hy;rcases List.mem_or_eq_of_mem_set hy with h4|rfl
    ·exact h y h4
    obtain⟨a1, a2, a3, a4, a5, a6, a7⟩ := h x (List.mem_of_getElem? hx);exact⟨a1,a2,h1,a4,a5,a6,a7⟩
theorem UI(k:Int):0<=Zf k/\Zf k<=6:=by unfold Zf;(repeat' split) <;> decide
def VG(kid:Ps × List Str->Bool × Ps × List Str):Prop:=∀st,NP st.1->NP (kid st).2.1/\st.1.nodes <+: (kid st).2.1.nodes/\((kid st).1=true->st.1.nodes.length<(kid st).2.1.nodes.length)
theorem Ih(p:Ps):p.skip.nodes=p.nodes:=by unfold Ps.skip;cases p.rest <;> rfl
theorem VI{kid:Ps × List Str->Bool × Ps × List Str}(hk:VG kid){len:Nat}(hlen:len<=65536)(n:Nat)(closing:Int):∀(g:Nat)(st:Ps × List Str),NP st.1->n<st.1.nodes.length ->
    NP (Ju kid len n closing g st).2.1/\(Ju kid len n closing g st).2.1.nodes.take n=st.1.nodes.take n/\st.1.nodes.length<=(Ju kid len n closing g st).2.1.nodes.length
  | 0,(p,had),hb,hn=>by rw[Ju];exact⟨hb,rfl,gQ _⟩
  | g + 1, (p, had), hb, hn => by
    have hb:NP p:=hb;have hn:n<p.nodes.length:=hn;obtain⟨h1,h2,h3⟩:=hk (p,had) hb;have h2:p.nodes <+: (kid (p,had)).2.1.nodes:=h2;have h3:(kid (p,had)).1=true->p.nodes.length<(kid (p,had)).2.1.nodes.length:=h3;rw[Ju];dsimp only;split
    ·exact⟨h1,XH h2 (Nat.le_of_lt hn),h2.length_le⟩
    rename_i hf
    have h4:=h3 (by simpa using hf);have hh:=PT h1 hlen;have hpl:p.lt<=65536:=hb.lt;have hpn:p.nodes.length<4096:=by have:=h1.nb.1;omega
    have hN:NP { (kid (p,had)).2.1 with nodes:=addKid (kid (p,had)).2.1.nodes n (p.nodes.length:Int) (p.lt:Int) ((kid (p,had)).2.1.here len:Int) } :=
      ⟨NB.addKid hb.nb h1.nb h2 h4 hn (p.nodes.length:Int) (p.lt:Int) ((kid (p,had)).2.1.here len:Int),NdOk.add h1.nd n ⟨by omega,by omega⟩ ⟨by omega,by omega⟩ ⟨by omega,by omega⟩,h1.tk,h1.lt⟩
    have hT:(addKid (kid (p,had)).2.1.nodes n (p.nodes.length:Int) (p.lt:Int) ((kid (p,had)).2.1.here len:Int)).take n=p.nodes.take n:=by rw[WL];exact XH h2 (Nat.le_of_lt hn)
    have hL:=B9 (kid (p,had)).2.1.nodes n (p.nodes.length:Int) (p.lt:Int) ((kid (p,had)).2.1.here len:Int);have h5:=h2.length_le;split
    ·refine⟨hN.skip, ?_, ?_⟩ <;> rw[Ih]
     ·exact hT
     exact (id ( by show p.nodes.length<=(addKid _ _ _ _ _).length;omega:p.nodes.length<=(addKid (kid (p,had)).2.1.nodes n (p.nodes.length:Int) (p.lt:Int) ((kid (p,had)).2.1.here len:Int)).length))
    split
    ·exact⟨hN.fail _ _,hT,by show p.nodes.length<=(addKid _ _ _ _ _).length;omega⟩
    obtain⟨k1, k2, k3⟩ := VI hk hlen n closing g (Ps.skip { (kid (p, had)).2.1 with nodes := addKid (kid (p, had)).2.1.nodes n (p.nodes.length : Int) (p.lt : Int) ((kid (p, had)).2.1.here len : Int) }, (kid (p, had)).2.2) hN.skip (by rw[Ih];show n<(addKid _ _ _ _ _).length;omega);refine⟨k1,?_,?_⟩
    ·rw[k2,Ih];exact hT
    rw[Ih]at k3;exact fQ (fQ (Nat.le_of_lt h4) (Nat.le_of_eq hL.symm)) k3
theorem K7{kid:Ps × List Str->Bool × Ps × List Str}(hk:VG kid){len:Nat}(hlen:len<=65536)(n:Nat)(closing:Int)(st:Ps × List Str)(hb:NP st.1)(hn:n<st.1.nodes.length) :
    NP (Gk kid len n closing st).2.1/\(Gk kid len n closing st).2.1.nodes.take n=st.1.nodes.take n/\st.1.nodes.length<=(Gk kid len n closing st).2.1.nodes.length:=by
  rw[Gk];split
  ·exact⟨hb.skip,by rw[Ih],by rw[Ih];exact gQ _⟩
  exact VI hk hlen n closing _ st hb hn
def ValOk(val:Nat->Nat->Ps->Bool × Ps):Prop:=∀kf kt p,kf<=65536->kt<=65536->NP p->NP (val kf kt p).2/\p.nodes <+: (val kf kt p).2.nodes/\((val kf kt p).1=true->p.nodes.length<(val kf kt p).2.nodes.length)
theorem VD{val:Nat->Nat->Ps->Bool × Ps}(h:ValOk val):VG (λst=>(λx:Bool × Ps=>(x.1,x.2,st.2)) (val 0 0 st.1)):=λst hb=>h 0 0 st.1 Aa Aa hb
theorem YW(s:Str){val:Nat->Nat->Ps->Bool × Ps}(h:ValOk val):VG (Zz s val):=λst hb=>by
  obtain⟨p,had⟩:=st;have hb:NP p:=hb;unfold Zz;dsimp only;split
  ·exact⟨hb.fail _ _,List.prefix_refl _,λe=>(by cases e)⟩
  rename_i t r hr
  have ht:=hb.tk t (by rw[show p.rest=t::r from hr];exact List.mem_cons_self);split
  ·exact⟨hb.fail _ _,List.prefix_refl _,λe=>(by cases e)⟩
  split
  ·exact⟨hb.fail _ _,List.prefix_refl _,λe=>(by cases e)⟩
  split
  ·refine⟨hb.skip.fail _ _, ?_, λe => (by cases e)⟩
   show p.nodes <+: p.skip.nodes;rw[Ih];exact List.prefix_refl _
  have := h t.f t.t p.skip.skip ht.1 ht.2 hb.skip.skip;rw[Ih,Ih]at this;exact this
theorem Nw{s:Str}(hs:s.length<=65536):∀d:Nat,ValOk (Sg s d)
  | 0 => λkf kt p _ _ hb => by
    rw[Sg];split <;> exact⟨hb.fail _ _,List.prefix_refl _,λe=>(by cases e)⟩
  | d + 1 => λkf kt p hkf hkt hb => by
    have ih:=Nw hs d;rw[Sg];cases hr:p.rest with
    | nil=>exact⟨hb.fail _ _,List.prefix_refl _,λe=>(by cases e)⟩
    | cons t rest =>
      have ht:=hb.tk t (by rw[hr];exact List.mem_cons_self);dsimp only;split
      ·exact⟨hb.fail _ _,List.prefix_refl _,λe=>(by cases e)⟩
      split
      ·exact⟨hb.fail _ _,List.prefix_refl _,λe=>(by cases e)⟩
      rename_i hk hn
      have hq:NP { p.skip with nodes:=p.nodes++[⟨Zf t.k,t.f,t.t,kf,kt,[],[]⟩] }:=by
        refine⟨⟨by have:=hb.nb.1;simp only[dQ,kQ,List.length_nil];omega,λx hx=>?_⟩,λx hx=>?_,hb.skip.tk,hb.skip.lt⟩
        ·simp only[dQ, kQ, List.length_nil]
         rcases mQ.1 hx with h1|h1
         ·have:=hb.nb.2 x h1;omega
         rw[pQ.1 h1];simp
        rcases mQ.1 hx with h1|h1
        ·exact hb.nd x h1
        rw[pQ.1 h1];exact⟨UI _,ht.1,ht.2,hkf,hkt,by simp,by simp⟩
      have hpre:∀q:Ps,q.nodes.take p.nodes.length=p.nodes->p.nodes.length<q.nodes.length->NP q->NP { q with nodes:=setTo q.nodes p.nodes.length q.lt }/\p.nodes <+: setTo q.nodes p.nodes.length q.lt/\p.nodes.length<(setTo q.nodes p.nodes.length q.lt).length:=λq h1 h2 h3 =>
        ⟨⟨h3.nb.setTo _ _,NdOk.setTo h3.nd _ h3.lt,h3.tk,h3.lt⟩,pre_of (by rw[YQ];exact h1),by rw[VA];exact h2⟩
      have hnl:p.nodes.length<(p.nodes++[(⟨Zf t.k,t.f,t.t,kf,kt,[],[]⟩:Nd)]).length:=by simp
      have htk:(p.nodes++[(⟨Zf t.k,t.f,t.t,kf,kt,[],[]⟩:Nd)]).take p.nodes.length=p.nodes:=List.take_left;split
      ·have := K7 (VD ih) hs p.nodes.length 5 ({ p.skip with nodes := p.nodes ++ [⟨Zf t.k, t.f, t.t, kf, kt, [], []⟩] }, []) hq hnl
       have:=hpre _ (this.2.1.trans htk) (Nat.lt_of_lt_of_le hnl this.2.2) this.1;exact⟨this.1,this.2.1,λ_=>this.2.2⟩
      split
      ·have := K7 (YW s ih) hs p.nodes.length 3 ({ p.skip with nodes := p.nodes ++ [⟨Zf t.k, t.f, t.t, kf, kt, [], []⟩] }, []) hq hnl
       have:=hpre _ (this.2.1.trans htk) (Nat.lt_of_lt_of_le hnl this.2.2) this.1;exact⟨this.1,this.2.1,λ_=>this.2.2⟩
      have := hpre { p.skip with nodes := p.nodes ++ [⟨Zf t.k, t.f, t.t, kf, kt, [], []⟩] } htk hnl hq;exact⟨this.1,this.2.1,λ_=>this.2.2⟩
theorem Zk(p:Ps):p.skip.rest <:+ p.rest:=by
  unfold Ps.skip;cases hr:p.rest with
  | nil=>rw[hr];exact List.suffix_refl _
  | cons t r=>exact List.suffix_cons _ _
def J_(kid:Ps × List Str->Bool × Ps × List Str):Prop:=∀st,(kid st).2.1.rest <:+ st.1.rest
theorem LB{kid:Ps × List Str->Bool × Ps × List Str}(hk:J_ kid)(len n:Nat)(closing:Int):∀(g:Nat)(st:Ps × List Str),(Ju kid len n closing g st).2.1.rest <:+ st.1.rest
  | 0,(p,had)=>by rw[Ju];exact List.suffix_refl _
  | g + 1, (p, had) => by
    have h:=hk (p,had);rw[Ju];dsimp only;split
    ·exact h
    split
    ·exact (Zk _).trans h
    split
    ·exact h
    exact (LB hk len n closing g _).trans ((Zk _).trans h)
theorem TA{kid:Ps × List Str->Bool × Ps × List Str}(hk:J_ kid)(len n:Nat)(closing:Int)(st:Ps × List Str):(Gk kid len n closing st).2.1.rest <:+ st.1.rest:=by
  rw[Gk];split
  ·exact Zk _
  exact LB hk len n closing _ st
def AN(val:Nat->Nat->Ps->Bool × Ps):Prop:=∀kf kt p,(val kf kt p).2.rest <:+ p.rest
theorem SH{val:Nat->Nat->Ps->Bool × Ps}(h:AN val):J_ (λst=>(λx:Bool × Ps=>(x.1,x.2,st.2)) (val 0 0 st.1)):=λst=>h 0 0 st.1
theorem BQ(s:Str){val:Nat->Nat->Ps->Bool × Ps}(h:AN val):J_ (Zz s val):=λst=>by
  obtain⟨p,had⟩:=st;unfold Zz;dsimp only;split
  ·exact List.suffix_refl _
  split
  ·exact List.suffix_refl _
  split
  ·exact List.suffix_refl _
  split
  ·exact Zk p
  exact (h _ _ _).trans ((Zk _).trans (Zk _))
theorem L8(s:Str):∀d:Nat,AN (Sg s d)
  | 0=>λkf kt p=>by rw[Sg];split <;> exact List.suffix_refl _
  | d + 1 => λkf kt p => by
    have ih:=L8 s d;rw[Sg];cases hr:p.rest with
    | nil=>show p.rest <:+ [];rw[hr];exact List.suffix_refl _
    | cons t rest =>
      dsimp only;rw[<-hr];split
      ·exact List.suffix_refl _
      split
      ·exact List.suffix_refl _
      split
      ·exact (TA (SH ih) _ _ _ _).trans (Zk p)
      split
      ·exact (TA (BQ s ih) _ _ _ _).trans (Zk p)
      exact Zk p
theorem ED(s:Str)(A:Option Addr)(n c f t:Nat)(w0:World):Calls prog 116 #[.agg #[I s,.slice A n c],.agg #[J (f:Nat),J (t:Nat)]] w0 (Yc λv w'=>v=I (Gd s f t)/\Same [] w0 w'):=by
 refine Fa func116 O ntmps116 Ab (Uc _ _) ?_;have hF:=FR.start w0 [];refine Ea (Ce hF O ?_);rintro b1 w hb1 hF -;refine Ce hF O ?_;rintro b2 w hb2 hF -;refine Ba (He O) (Da (Ga (Ea (Ba (Mb M1 O) (Xb (Zg xQ O hF.F 0 O O) (Ba (Pg O O) (Ba (Dc O) ?_)))))));refine Bb (d:=8) O (λhg0=>?_) (λhg0=>?_);refine Ca (Ca (Ca (Ca (Ca (Ba (Rb O O) (Ba (Dc O) (Ca (Ca (Ca (Ca (Ca (Ca (Ba (Rb O O) ?_)))))))))))));refine Da (Yd O (Ea (Ba (He O) (Da ?_))));refine Gc (v:=I []) O O ?_
 first|exact⟨by rw[Gd,if_neg Aa],hF.same⟩|exact⟨by rw[Gd,if_pos ⟨by omega,by omega⟩],hF.same⟩|(exfalso;omega)
 refine Ba (Mb M1 O) (Xb (Zg xQ O hF.F 0 O O) (Ba (Mb Kq O) (Xb (Zg xQ O hF.F 0 O O) (Ba (Mo O O) (Ba (Pb O O) (Ba (Dc O) ?_))))));refine Bb (d:=15) O (λhg1=>?_) (λhg1=>?_);refine Ca (Ca (Ca (Ca (Ca (Ca (Ba (Rb O O) (Da (Yd O (Ea (Ba (He O) (Va ?_)))))))))));refine Ha (Gc (v:=I []) O O ?_)
 first|exact⟨by rw[Gd,if_neg Aa],hF.same⟩|exact⟨by rw[Gd,if_pos ⟨by omega,by omega⟩],hF.same⟩|(exfalso;omega)
 refine Ba (Mb Kq O) (Xb (Zg xQ O hF.F 0 O O) (Ba (Mb OR O) (Xb (Ej iZ O hF.F 1 O O) (Ba (Sk kX O) (Ba (Mo O O) (Ba (Pb O O) (Da ?_)))))));refine Jb O O (λhc0=>?_) (λhc0=>?_);refine Ea (Ba (He O) (Da ?_));refine Gc (v:=I []) O O ?_
 first|exact⟨by rw[Gd,if_neg Aa],hF.same⟩|exact⟨by rw[Gd,if_pos ⟨by omega,by omega⟩],hF.same⟩|(exfalso;omega)
 refine Ka (Ha (Ea (Ba (Mb OR O) (Xb (Ej iZ O hF.F 1 O O) (Ba (Mb M1 O) (Xb (Zg xQ O hF.F 0 O O) (Ba (Mb Kq O) (Xb (Zg xQ O hF.F 0 O O) (Ia (v:=I ((s.take t).drop f)) (Wr f t kX O O O Aa Aa) (Ba (He O) (Da ?_)))))))))));refine Gc (v:=I ((s.take t).drop f)) O O ?_
 first|exact⟨by rw[Gd,if_neg Aa],hF.same⟩|exact⟨by rw[Gd,if_pos ⟨by omega,by omega⟩],hF.same⟩|(exfalso;omega)
theorem KF(k:Int)(s:Str)(hU:k=4->UniC s)(hl:s.length<=1000000000)(w0:World)(hG:Gl w0):Calls prog 115 #[J k,I s] w0 (Yc λv w'=>v=I (Nk k s)/\Same [] w0 w'):=by
 refine Fa func115 O ntmps115 Ab (Uc _ _) ?_;have hF:=FR.start w0 [];refine Ea (Ba (He O) (Da (Ga (Ea (Ba (Za O) (Da (Qa (Ea ?_))))))));refine Ba (Of O O) (Ba (Kb O) (Da ?_));refine Jb O O (λhc0=>?_) (λhc0=>?_);refine Ea (Ba (Ad O) (Ba (He O) (Da ?_)));refine Gc (v:=I s) O O ?_;exact⟨by unfold Nk;simp_all,hF.same⟩;refine Ea (Ba (Of O O) (Ba (Kb O) (Da ?_)));refine Jb O O (λhc1=>?_) (λhc1=>?_);refine Ea (Ba (Ad O) ?_);refine Pa hF (H1 s Aa _) (Ma V7 O O) ?_;intro w hF;refine Ba (Mj O) (Ba (Gt O O) (Ba (Rj O O) ?_));refine If hF tX tZ O ?_;rintro b1 w hb1 hF -;refine Ba (Fb O) (Lb (Xb (Bf jZ tZ O hF.F 0 O O) ?_));refine Pa hF (WE (Kc s).1 (by have:=Ah s;omega) _ (hG.ext hF.same)) (Ma US O O) ?_;intro w hF;refine Ba (He O) (Da ?_);refine Gc (v:=I (Rg (Kc s).1)) O O ?_;exact⟨by unfold Nk;simp_all,hF.same⟩;refine Ea (Ba (Of O O) (Ba (Kb O) (Da ?_)));refine Jb O O (λhc2=>?_) (λhc2=>?_);refine Ea (Ba (Ad O) ?_);refine Pa hF (GB s (hU hc2) Aa _ (hG.ext hF.same)) (Ma en_178 O O) ?_;intro w hF;refine Ba (Mj O) (Ba (Ly O O) (Ba (Rj O O) (Ba (Rj O O) (Ba (He O) (Ba (Fb O) (Ba (Fb O) (Lb (Ba (Ad O) (Ba (He O) (Va ?_))))))))));refine Ha (Gc (v:=I ((Ue s).1)) O O ?_);exact⟨by unfold Nk;simp_all,hF.same⟩;refine Ka (Ya (Ha (Ea (Ba (He O) (Da ?_)))));refine Gc (v:=I []) O O ?_;exact⟨by unfold Nk;simp_all,hF.same⟩
section
variable {S:Nat->Prop}{w w' w0:World}{ex sm sm1 sm' pre post bs_:List (Nat × Obj)}{pb:Nat}{s:Str}{p p':Ps}{E Ds:List Nat}
theorem WF{α:Type}{l x:List α}{k:Nat}(h:l.take k=x):l=x++l.drop k:=by rw[<-h,List.take_append_drop]
theorem Jp.open_(h:Jp S w ex sm pb s p){n:Nat}(hn:n<p.nodes.length):∃(Ar:Option Addr)(cr g c:Nat)(v1 v2 junk:List Value)(K Q:Option Addr)(kc qc:Nat)(s1 sk sq s2:List (Nat × Obj)),
    sm=(pb,.cells (Iu s Ar cr p (some ⟨g,0,none⟩) c).toArray 138)::((g,.cells (v1++(Cs p.nodes[n] K kc Q qc++(v2++junk))).toArray 145)::(s1++(sk++(sq++s2))))/\v1.length=n*7/\NdsAt 3 136 (p.nodes.take n) v1 s1 /\
    SlB 3 1 K p.nodes[n].kids.length kc (p.nodes[n].kids.map (Value.int .i64)) sk/\SlB 136 2 Q p.nodes[n].pcs.length qc (prV p.nodes[n].pcs) sq/\NdsAt 3 136 (p.nodes.drop (n+1)) v2 s2 /\
    p.nodes.length<=c/\c<=maxLen/\(v1++(Cs p.nodes[n] K kc Q qc++(v2++junk))).length=c*7/\Rep S w (Tm p.rest) [.slice Ar p.rest.length cr]:=by
  obtain⟨A,Ar,c,cr,sl,vals,sb,rfl,h1,h2,h3⟩:=h.parts;obtain⟨K,Q,kc,qc,v1,v2,s1,sk,sq,s2,rfl,rfl,g1,g2,g3,g4⟩:=h2.split hn;rcases h1.2 with ⟨h0,-,-⟩|⟨g,cur,rfl,rfl,h4,h5,h6,h7⟩
  ·omega
  have e:cur.toList=v1++(Cs p.nodes[n] K kc Q qc++(v2++cur.toList.drop (p.nodes.length*7))):=by
    have:=WF h7;rw[sQ,sQ]at this;exact this
  have ec:cur=(v1++(Cs p.nodes[n] K kc Q qc++(v2++cur.toList.drop (p.nodes.length*7)))).toArray:=by rw[<-e]
  refine⟨Ar,cr,g,c,v1,v2,cur.toList.drop (p.nodes.length*7),K,Q,kc,qc,s1,sk,sq,s2,by rw[<-ec];rfl,?_,g1,g2,g3,g4,h4,h5,?_,h3⟩
  ·have := g1.len
   rw[this,List.length_take];congr 1;omega
  rw[<-e];simpa using h6
theorem O4{l:List Nd}{n:Nat}(hn:n<l.length){x:Nd}{g c:Nat}{v1 v2 junk:List Value}{K Q:Option Addr}{kc qc:Nat}{s1 sk sq s2:List (Nat × Obj)}(hv1:v1.length=n*7)(g1:NdsAt 3 136 (l.take n) v1 s1)(g2:SlB 3 1 K x.kids.length kc (x.kids.map (Value.int .i64)) sk)(g3:SlB 136 2 Q x.pcs.length qc (prV x.pcs) sq)
    (g4:NdsAt 3 136 (l.drop (n+1)) v2 s2) (hc:l.length<=c) (hm:c<=maxLen) (hlen:(v1++(Cs x K kc Q qc++(v2++junk))).length=c*7) :
    SlB 145 7 (some ⟨g,0,none⟩) (l.set n x).length c (v1++(Cs x K kc Q qc++v2)) [(g,.cells (v1++(Cs x K kc Q qc++(v2++junk))).toArray 145)]/\NdsAt 3 136 (l.set n x) (v1++(Cs x K kc Q qc++v2)) (s1++(sk++(sq++s2))):=by
  have hN:=nds_join hn g1 g2 g3 g4;refine⟨⟨hN.len,.inr ⟨g,_,O,O,by rw[List.length_set];exact hc,hm,by simpa using hlen,?_⟩⟩,hN⟩;rw[<-hN.len];rw[show v1++(Cs x K kc Q qc++(v2++junk))=(v1++(Cs x K kc Q qc++v2))++junk from by simp[sQ],List.take_left]
theorem DS{T g n k:Nat}{v1 nd po:List Value}{v:Value}(hh:w.heap[g]? = some (.cells (v1++(nd++po)).toArray T))(hv1:v1.length=n*7)(hk:nd[k]? = some v):w.cell? ⟨g,n*7+k,none⟩=some v:=by
  rw[Zc hh,List.getElem?_toArray,<-hv1,List.getElem?_append_right Aa,Nat.add_sub_cancel_left,List.getElem?_append_left (List.getElem?_eq_some_iff.1 hk).1];exact hk
theorem QN{n k:Nat}{v1 nd nd' po:List Value}{v:Value}(hv1:v1.length=n*7)(hk:k<nd.length)(hs:nd.set k v=nd'):putA (v1++(nd++po)).toArray (n*7+k) [v]=(v1++(nd'++po)).toArray:=by
  subst hs;rw[Iw];rw[<-hv1,List.set_append_right _ _ Aa,Nat.add_sub_cancel_left,List.set_append_left _ _ hk]
theorem Jp.toFrame{sm0:List (Nat × Obj)}(h:Jp S w ex sm pb s p)(hM:Mc w0 sm0 w (ex++sm)):FR w0 (ids sm0) (ex++sm) w:=⟨hM.same,λq hq=>⟨h.hh q hq,hM.fresh q hq⟩,h.pw⟩
theorem Jp.ofFrame{own sm0:List (Nat × Obj)}(hF:FR w0 (ids sm0) bs_ w)(h0:Off S w0 sm0)(hp:bs_.Perm (own++(ex++sm)))(hparts:∃(A Ar:Option Addr) (c cr:Nat) (sl:List (Nat × Obj)) (vals:List Value) (sb:List (Nat × Obj)),sm=(pb,.cells (Iu s Ar cr p A c).toArray 138)::(sl++sb)/\SlB 145 7 A p.nodes.length c vals sl/\NdsAt 3 136 p.nodes vals sb/\Rep S w (Tm p.rest) [.slice Ar p.rest.length cr]) :
    Jp S w ex sm pb s p/\Mc w0 sm0 w (ex++sm):=by
  have hF2:=hF.perm hp.symm;have hd:=List.pairwise_append.1 hF2.desc;refine⟨⟨hparts,λb hb=>⟨Nat.lt_of_lt_of_le (h0 b hb).1 hF.same.size,λhm=>?_⟩,hd.2.1,λq hq=>(hF2.own q (List.mem_append_right _ hq)).1⟩,hF.same,λq hq=>(hF2.own q (List.mem_append_right _ hq)).2⟩;obtain⟨q,hq,rfl⟩:=nQ.1 hm;rcases (hF2.own q (List.mem_append_right _ hq)).2 with h3|h3
  ·have:=(h0 _ hb).1;omega
  exact (h0 _ hb).2 h3
end
def spD(q:Int × Int):D:=.agg [Gj q.1,Gj q.2]
def ndD(x:Nd):D:=.agg [Gj x.k,.agg [Gj (x.f:Nat),Gj (x.t:Nat)],.agg [Gj (x.kf:Nat),Gj (x.kt:Nat)],.slice (x.kids.map Gj),.slice (x.pcs.map spD)]
section
variable {S:Nat->Prop}{w:World}
theorem okI{z:Int}(h1:-1000000000000<=z)(h2:z<=1000000000000):V4 (J z):=⟨by show (-9223372036854775808:Int)<=_;omega,by show _<=(9223372036854775807:Int);omega⟩
theorem Xn{z:Int}(h1:-1000000000000<=z)(h2:z<=1000000000000):Rep S w (Gj z) [J z]:=Rep.lit_mk (okI h1 h2)
theorem SC:∀l:List Int,(∀j∈l,-1000000000000<=j/\j<=1000000000000)->RepL S w (l.map Gj) (l.map (Value.int .i64))
  | [],_=>RepL.nil_mk
  | z::l,h=>RepL.cons_mk (c1:=[J z]) (Xn (h z List.mem_cons_self).1 (h z List.mem_cons_self).2) (SC l λj hj=>h j (List.mem_cons_of_mem _ hj))
theorem FT:∀l:List (Int × Int),(∀q∈l,(-1000000000000<=q.1/\q.1<=1000000000000)/\-1000000000000<=q.2/\q.2<=1000000000000)->RepL S w (l.map spD) (prV l)
  | [],_=>RepL.nil_mk
  | q :: l, h => by
    have h1:=h q List.mem_cons_self;exact RepL.cons_mk (c1:=[J q.1,J q.2]) (Rep.agg_mk (RepL.cons_mk (c1:=[J q.1]) (Xn h1.1.1 h1.1.2) (RepL.cons_mk (c1:=[J q.2]) (c2:=[]) (Xn h1.2.1 h1.2.2) RepL.nil_mk))) (FT l λj hj=>h j (List.mem_cons_of_mem _ hj))
theorem nd_rep{x:Nd}{K Q:Option Addr}{kc qc:Nat}{sk sq:List (Nat × Obj)}(hx:NdOk x)(hk:SlB 3 1 K x.kids.length kc (x.kids.map (Value.int .i64)) sk)(hq:SlB 136 2 Q x.pcs.length qc (prV x.pcs) sq)(h1:∀p∈sk,w.heap[p.1]? = some p.2/\S p.1)(h2:∀p∈sq,w.heap[p.1]? = some p.2/\S p.1):Rep S w (ndD x) (Cs x K kc Q qc):=by
  obtain⟨a1,a2,a3,a4,a5,a6,a7⟩:=hx;refine Rep.agg_mk (RepL.cons_mk (c1:=[_]) (c2:=[_,_,_,_,_,_]) (Xn Aa Aa) (RepL.cons_mk (c1:=[_,_]) (c2:=[_,_,_,_]) (Rep.agg_mk (RepL.cons_mk (c1:=[_]) (c2:=[_]) (Xn Aa Aa) (RepL.cons_mk (c1:=[_]) (c2:=[]) (Xn Aa Aa) RepL.nil_mk)))
    (RepL.cons_mk (c1:=[_,_]) (c2:=[_,_]) (Rep.agg_mk (RepL.cons_mk (c1:=[_]) (c2:=[_]) (Xn Aa Aa) (RepL.cons_mk (c1:=[_]) (c2:=[]) (Xn Aa Aa) RepL.nil_mk)))
      (RepL.cons_mk (c1:=[_]) (c2:=[_]) (hk.repOf h1 (SC _ λj hj=>by have:=a6 j hj;omega) Oa) (RepL.cons_mk (c1:=[_]) (c2:=[]) (hq.repOf h2 (FT _ λq hq'=>by have:=a7 q hq';omega) Oa) RepL.nil_mk)))))
theorem nds_rep{l:List Nd}{vs:List Value}{sb:List (Nat × Obj)}(h:NdsAt 3 136 l vs sb)(hok:∀x∈l,NdOk x)(hb:∀p∈sb,w.heap[p.1]? = some p.2/\S p.1):RepL S w (l.map ndD) vs:=by
  induction h with
  | nil=>exact RepL.nil_mk
  | cons hk hq _ ih =>
    exact RepL.cons_mk (nd_rep (hok _ List.mem_cons_self) hk hq (λp hp=>hb p (by simp[hp])) (λp hp=>hb p (by simp[hp]))) (ih (λy hy=>hok y (List.mem_cons_of_mem _ hy)) (λp hp=>hb p (by simp[hp])))
theorem nd_inv{x:Nd}{cs:List Value}(h:Rep S w (ndD x) cs):∃K kc Q qc,cs=Cs x K kc Q qc/\Rep S w (.slice (x.kids.map Gj)) [.slice K x.kids.length kc]/\Rep S w (.slice (x.pcs.map spD)) [.slice Q x.pcs.length qc]:=by
  obtain⟨_,_,rfl,h1,h⟩:=RepL.cons_inv (Rep.agg_inv h);obtain⟨_,_,rfl,h2,h⟩:=RepL.cons_inv h;obtain⟨_,_,rfl,h3,h⟩:=RepL.cons_inv h;obtain⟨_,_,rfl,h4,h⟩:=RepL.cons_inv h;obtain⟨_,_,rfl,h5,h⟩:=RepL.cons_inv h;obtain rfl:=RepL.nil_inv h;obtain⟨_,_,rfl,h6,h2⟩:=RepL.cons_inv (Rep.agg_inv h2);obtain⟨_,_,rfl,h7,h2⟩:=RepL.cons_inv h2;obtain rfl:=RepL.nil_inv h2;obtain⟨_,_,rfl,h8,h3⟩:=RepL.cons_inv (Rep.agg_inv h3);obtain⟨_,_,rfl,h9,h3⟩:=RepL.cons_inv h3;obtain rfl:=RepL.nil_inv h3;obtain⟨K,kc,rfl,-⟩:=Rep.slice_inv h4;obtain⟨Q,qc,rfl,-⟩:=Rep.slice_inv h5;simp only[rQ]at h4 h5;simp only[Gj,Rep]at h1 h6 h7 h8 h9;obtain⟨rfl,-⟩:=h1;obtain⟨rfl,-⟩:=h6;obtain⟨rfl,-⟩:=h7;obtain⟨rfl,-⟩:=h8;obtain⟨rfl,-⟩:=h9;exact⟨K,kc,Q,qc,by simp[Cs],h4,h5⟩
theorem NdsAt.soft{l:List Nd}{vs:List Value}{sb:List (Nat × Obj)}(h:NdsAt 3 136 l vs sb):∀q∈sb,∃cs T,q.2=.cells cs T:=by
  induction h with
  | nil=>intro q hq;cases hq
  | cons hk hq _ ih =>
    intro q hm;rcases mQ.1 hm with h1|h1
    ·obtain⟨cur,e⟩:=hk.typ1.2 q h1;exact⟨_,_,e⟩
    rcases mQ.1 h1 with h2|h2
    ·obtain⟨cur,e⟩:=hq.typ1.2 q h2;exact⟨_,_,e⟩
    exact ih q h2
theorem Jp.soft{ex sm:List (Nat × Obj)}{pb:Nat}{s:Str}{p:Ps}(h:Jp S w ex sm pb s p):∀q∈sm,∃cs T,q.2=.cells cs T:=by
  obtain⟨A,Ar,c,cr,sl,vals,sb,rfl,h1,h2,-⟩:=h.parts;intro q hq;rcases oQ.1 hq with rfl|hq
  ·exact⟨_,_,O⟩
  rcases mQ.1 hq with h3|h3
  ·obtain⟨cur,e⟩:=h1.typ1.2 q h3;exact⟨_,_,e⟩
  exact h2.soft q h3
end
end Go.Scarf
