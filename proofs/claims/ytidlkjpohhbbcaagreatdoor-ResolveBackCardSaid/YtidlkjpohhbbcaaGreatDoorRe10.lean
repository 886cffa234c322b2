/- A part of the proof. -/
import Derived.Test.YtidlkjpohhbbcaaGreatDoorQ4
import Derived.Test.YtidlkjpohhbbcaaGreatDoorRe2
set_option linter.all false
set_option maxHeartbeats 8000000
set_option maxRecDepth 10000
namespace Go.Scarf
open Go.RowKit Go.Proofs Go.Proofs.Tryz
structure MmsP (t:List Mm):Prop where
  ok:∀m∈t,MmOk m
  n:t.length<=1000000
  sz:Db (Yf t)<=1000000000
  mx:Ad (Yf t)<=1073741824
theorem LR{S:Nat->Prop}{w:World}{m:Mm}{g n:Nat}(h:Rep S w (.slice ([YU m.pr,Xe m.sd].map Jb)) [W g 2 2]):Rep S w (Jb (Ml m)) [J 5,I [],aQ,W g 2 2] :=
  Rep.tree_mk (ks:=[]) (xs:=[YU m.pr,Xe m.sd]) ⟨by decide,by decide⟩ La (Rep.nil_slice 0 Aa none) (by rw[Ge];exact h)
theorem FR.notin{w0 w:World}{Ds i:List Nat}{bs_:List (Nat × Obj)}(hF:FR w0 Ds bs_ w)(k:Nat){g:Nat}{o:Obj}(hi:bs_[k]? = some (g,o))(h:∀x∈i,x∈ids (bs_.drop (k+1))):g∉i:=λhm=>by
  obtain⟨q,hq,e⟩:=nQ.1 (h g hm);obtain⟨hk,he⟩:=List.getElem?_eq_some_iff.1 hi;obtain⟨j,hj,rfl⟩:=List.getElem_of_mem hq;rw[List.length_drop]at hj;rw[List.getElem_drop]at e;have:=List.pairwise_iff_getElem.1 hF.desc k (k+1+j) hk Aa Aa;rw[he]at this;exact this e
theorem item_kx{w0 w:World}{bs_:List (Nat × Obj)}{i:List Nat}{g:Nat}{m:Mm}{xw:Tv}(hF:FR w0 [] bs_ w)(k:Nat)(hi:bs_[k]? = some (g,.cells #[J 4,I m.pr,aQ,aQ,J xw.k,I xw.t,.slice xw.A xw.n xw.c,.slice xw.B xw.m xw.e] 36))(hp:m.pr.length<=9223372036854775807)(hW:KX i w [Jb (Xe m.sd)] xw.cells)(hg:g∉i) :
    KX i w [Jb (Ml m)] [J 5,I [],aQ,W g 2 2]:=by
  have h1:Rep (Kp i w) w (Jb (YU m.pr)) [J 4,I m.pr,aQ,aQ]:=Rep.tree_mk (ks:=[]) (xs:=[]) ⟨by decide,by decide⟩ hp (Rep.nil_slice 0 Aa none) (Rep.nil_slice 0 Aa none);have h2:=hF.rowS k hi (n:=2) (ds:=[YU m.pr,Xe m.sd].map Jb) (RepL.cons_mk h1 hW) rfl Aa;refine RepL.cons_mk (c2:=[]) (LR (n:=0) (h2.weaken λb hb hl=>?_)) RepL.nil_mk;rcases hb with h|h
  ·exact h
  exact⟨hl,by rw[h];exact hg⟩
theorem KX.rowB{w0 w:World}{ts:List Tree}{i:List Nat}{A:Option Addr}{n c:Nat}{vals:List Value}{pre its post:List (Nat × Obj)}(hF:FR w0 [] (pre++(its++post)) w)(hS:SlB 36 4 A n c vals its)(h:KX i w (ts.map Jb) vals)(hn:ts.length=n):Rep (λ_=>True) w (.slice (ts.map Jb)) [.slice A n c] :=
  hS.repOf (λp hp=>⟨hF.memHeap (by simp[hp]),trivial⟩) h.any (by simpa using hn)
theorem ZK{w0 w:World}{pre its post:List (Nat × Obj)}{i:List Nat}(hF:FR w0 [] (pre++(its++post)) w)(hi:∀x∈i,x∈ids pre\/x∈ids its):∀x∈i,w0.heap.size<=x/\x<w.heap.size:=λx hx=>by
  have:∃q∈pre++(its++post),q.1=x:=by
    rcases hi x hx with h|h
    ·obtain⟨q,hq,e⟩:=nQ.1 h;exact⟨q,by simp[hq],e⟩
    obtain⟨q,hq,e⟩:=nQ.1 h;exact⟨q,by simp[hq],e⟩
  obtain⟨q,hq,rfl⟩:=this;have ho:=hF.own q hq;exact⟨ho.2.elim id (λh=>by cases h),Mb ho.1⟩
theorem Mu(t:List Mm)(A:Option Addr)(c:Nat)(S:Nat->Prop)(w0:World)(hX:Rep S w0 (Tf t) [.slice A t.length c])(hP:MmsP t)(hG:Gl w0):Calls prog 8 #[.slice A t.length c] w0 (Oc λv w'=>v=.tuple #[I ((Am t).1),J (Am t).2]/\Same [] w0 w'):=by
 have htl:=hP.n;refine Ea func8 O ntmps8 Bb (Tb _) ?_;have hF:=FR.start w0 [];refine Da (Ba (Xf O) (Ba (Gb O) (Ca (Fa (Da (Ba (Qe O) ?_))))));refine Qa hF (Cn t A c S _ (hF.rep hX) hP.ok (hG.ext hF.same)) (Ma F2 O O) ?_;intro w hF;refine Ba (Wi O) (Ca ?_);refine He O O (λhc0=>?_) (λhc0=>?_);have h0:Bh t=false:=by simpa using hc0
 refine Da (Ba (Xf O) (Ba (Gb O) (Ca ?_)));refine Xa (Va (Ka (Jc (v:=I []) (x:=J 1) O O O) ?_));have e:Am t=([],1):=by unfold Am;rw[if_neg (by rw[h0];decide)]
 rw[e];exact⟨O,hF.same⟩;have h0:Bh t=true:=by simpa using hc0
 refine Na (Ga (Da ?_));refine Qa hF (JJ none 0 0 _) (Ma LH O O) ?_;intro w hF;refine Hf hF sX oZ O ?_;rintro b1 w hb1 hF -;refine Ca (Fa (Da (Ba (Qe O) (Ba (Qg dX O) (Ba (Cb O) (Ca (Sa ?_)))))));refine Rc (λμ σ w=>∃(j:Nat),∃(AI:Option Addr),∃(cI:Nat),∃(its:List (Nat × Obj)),∃(vals:List Value),μ=t.length-j/\(j<=t.length)/\(SlB 36 4 AI j cI vals its)/\(KX ([b1]++ids its) w (((t.take j).map Ml).map Jb) vals)/\AllEq σ [(4,V b1),(11,.slice A t.length c),(12,J ((t.length:Nat))),(13,J ((j:Int)))]/\FR w0 [] ([(b1,.cells #[J 5,I [],aQ,.slice AI j cI] 36)]++(its++[])) w) _ ⟨0,none,0,[],[],O,(Nat.zero_le _),(SlB.nil _ _),(RepL.nil_mk),Ur,hF⟩ ?_;rintro μ σ w ⟨j,AI,cI,its,vals,rfl,hj,hS,hV,hs,hF⟩;refine Cg.slots hs ?_;clear hs;intro σ;have hLC:∀x∈([b1]++ids its),w0.heap.size<=x/\x<w.heap.size:=ZK (pre:=[_]) hF (by simp[ids]);refine Da (Ba (Dl O O) (Ca (Fa ?_)));refine Lb O O (λhc1=>?_) (λhc1=>?_);refine Na (Ga (Fa (Sa (Fa ?_))));have hjl:j<t.length:=by omega
 refine Ja ?_;obtain⟨ad0,q0,hA0,hk0,hx0,hp0⟩:=hX.mm_elem (i:=j) (hjl);refine Ia (v:=.pointer (some (ad0.add (j*6)))) (Ra (i:=(j:Int)) El O hA0 O Aa Aa) (Ia (v:=.agg #[I (t[j].pr),.bool (q0.h),J (q0.v.k),I (q0.v.t),.slice q0.v.A q0.v.n q0.v.c,.slice q0.v.B q0.v.m q0.v.e]) (Za (l:=(Cr t[j].pr q0)) eZ rZ O O (hF.cells0 hk0)) ?_);refine Hf hF uX rZ O ?_;intro b2 w hb2 hF hE;have hV:=hV.ext hE;refine Ca (Dd ⟨[13],λwq=>FR w0 [] [(b2,.cells #[I (t[j].pr),.bool (q0.h),J (q0.v.k),I (q0.v.t),.slice q0.v.A q0.v.n q0.v.c,.slice q0.v.B q0.v.m q0.v.e] 44)] wq,[]⟩ (bQ [0,1,2,3,5,6] (cQ [4,7,8,9,10,11] (.free 12 (.act 13 .nil)))) hF ?_);intro w hF hE;have hV:=hV.ext hE;refine⟨λwq=>FR w0 [] [(b2,.cells #[I (t[j].pr),.bool (q0.h),J (q0.v.k),I (q0.v.t),.slice q0.v.A q0.v.n q0.v.c,.slice q0.v.B q0.v.m q0.v.e] 44),(b1,.cells #[J 5,I [],aQ,.slice AI j cI] 36)] wq,hF.mid 0 2,?_⟩;refine Hb O (Rb Xb O) (Nf O (Ff zQ O C0 1 O O) (Hb O (Rb Fo O) (Nf O (Tn fZ O C0 0 O O) (Hb O (Rb Uk O) (Ab O (v:=.agg (q0.cells).toArray) (λw hC=>Za (l:=q0.cells) bZ pZ O O (hC.part 0 1 O O)) ?_)))));refine Cd O (of_c t[j].pr _) (Ma en_36 O O) ?_;rintro _ w ⟨rfl,hE⟩;have hF:=hF.ext hE;have hV:=hV.ext hE;refine⟨hF.mid 0 2,?_⟩;refine Cd O (Qv t[j].sd q0 (λb=>b<w0.heap.size) _ (hF.rep hx0.low)) (Ma IQ O O) ?_;rintro _ w ⟨ct,rfl,hW,hE⟩;obtain⟨xw,rfl,-⟩:=Wh hW;have hW:KX ([b1]++ids its) _ [Jb (Xe t[j].sd)] xw.cells:=RepL.cons_mk (c2:=[]) (KX.made (i:=([b1]++ids its)) hF hE (ZK (pre:=[_,_]) hF (λx hx=>(mQ.1 hx).elim (λh=>.inl (by rw[pQ.1 h];simp[ids])) .inr)) hW) RepL.nil_mk;have hV:=hV.ext hE;have hF:=hF.ext hE;refine⟨hF.mid 0 2,?_⟩;refine Of 2 O hF (Fb (cs:=#[J 4,I (t[j].pr),aQ,aQ,J (xw.k),I (xw.t),.slice xw.A xw.n xw.c,.slice xw.B xw.m xw.e]) jX oZ sX Oa Oa Ib) ?_;intro b3 w hb3 hF hE
 have hV:=hV.ext hE;have hW:=hW.ext hE;refine⟨hF.mid 1 2,?_⟩;refine Cd O (JJ (some ⟨b3,0,none⟩) 2 2 _) (Ma LH O O) ?_;rintro _ w ⟨rfl,hE⟩;have hF:=hF.ext hE;have hV:=hV.ext hE;have hW:=hW.ext hE;refine⟨hF.mid 1 2,?_⟩;refine Of 1 O hF (Fb (cs:=#[J 5,I [],aQ,W b3 2 2]) jX oZ sX Oa Oa Ib) ?_;intro b4 w hb4 hF hE;have hV:=hV.ext hE;have hW:=hW.ext hE;refine⟨hF.mid 2 2,?_⟩;have hIt:=item_kx (i:=([b1]++ids its)) (g:=b3) hF 1 rfl hp0 hW (hF.notin 1 rfl (λx hx=>(mQ.1 hx).elim (λh=>by rw[pQ.1 h];simp[ids]) (λh=>by unfold ids at h;simp[ids,h])));refine KJ (news:=[J 5,I [],aQ,W b3 2 2]) (len':=(j+1)) (ys:=vals++[J 5,I [],aQ,W b3 2 2]) O Dt hF hS O O (O) (λ_=>⟨_,O,Tc (hF.cellsAll 0 O)⟩) (by simp[Value.oneCell']) (by simp only[maxLen];omega) (O) (O) Aa ?_;intro A1 c1 its_1 w hS1_its hF hE hnew;have hsub:∀x∈its.map (·.1),x∈([b1]++ids its):=λx hx=>List.mem_append_right _ hx;have hV:=(hV.append hIt).grow hE hnew hsub;clear hsub hIt;refine⟨hF.mid 2 2,?_⟩;refine Hb O (Rb Xb O) (X2 (.slice _ _ _) O hF nZ O O H8.app H8 ?_);intro w hF hE;have hV:=hV.store hE La;refine⟨hF.sub (.cons _ (.cons _ (.cons_cons _ (.cons _ (List.nil_sublist _))))),?_⟩;refine d_nil (Wa (Ga (Ja (Ba (Un (((j+1:Nat):Int)) O O) (Ba (Cb O) (Eb ?_))))));refine Qb ⟨_,?_,j+1,A1,c1,its_1,vals++[J 5,I [],aQ,W b3 2 2],rfl,Aa,(hS1_its),(by rw[iQ hjl,jQ,jQ];exact hV.sub (by intro x hx;simp only[mQ]at hx ⊢;grind)),Ur,hF.drop 3⟩;omega;refine Ic (Ec O ?_);refine Ga (Da (Yb (Ig aZ oZ O hF.F 0 O O) ?_));obtain rfl:j=t.length:=by omega
 have hrow:=KX.rowB (pre:=[_]) (its:=its) (post:=[]) (ts:=t.map Ml) hF hS (by rw[List.take_length]at hV;exact hV) La;have hT:Rep (λ_=>True) _ (Jb (Yf t)) [J 5,I [],aQ,.slice AI t.length cI]:=Rep.tree_mk (ks:=[]) (xs:=t.map Ml) ⟨by decide,by decide⟩ La (Rep.nil_slice 0 Aa none) (by rw[Ge];exact hrow);refine Ta (CQ (Yf t) (λ_=>True) _ _ hT (hG.ext hF.same) hP.sz hP.mx) (Ma en_38 O O) ?_;rintro _ w ⟨rfl,hE⟩;have hF:=hF.ext hE;have hV:=hV.ext hE;refine Ba (L1 O O) (Ba (Nh O O) (Ba (Xf O) (Ba (Gb O) (Ca ?_))));refine Xa (Va (Ka (Jc (v:=I (Bt (Wd (Yf t)))) (x:=J (Ou (Wd (Yf t)))) O O O) ?_));have e:Am t=(Bt (Wd (Yf t)),Ou (Wd (Yf t))):=by unfold Am;rw[if_pos h0]
 rw[e];exact⟨O,hF.same⟩
structure Jp (S:Nat->Prop) (w:World) (ex sm:List (Nat × Obj)) (pb:Nat) (s:Str) (p:Ps):Prop where
  parts:∃(A Ar:Option Addr)(c cr:Nat)(sl:List (Nat × Obj))(vals:List Value)(sb:List (Nat × Obj)),sm=(pb,.cells (Ym s Ar cr p A c).toArray 138)::(sl++sb)/\SlB 145 7 A p.nodes.length c vals sl/\NdsAt 3 136 p.nodes vals sb/\Rep S w (Mk p.rest) [.slice Ar p.rest.length cr]
  off:Off S w (ex++sm)
  pw:(ex++sm).Pairwise (λp q=>q.1≠p.1)
  hh:∀q∈ex++sm,w.heap[q.1]? = some q.2
section
variable {S:Nat->Prop}{w w' w0:World}{ex sm sm1 sm' pre post bs_:List (Nat × Obj)}{pb:Nat}{s:Str}{p p':Ps}{E Ds:List Nat}
theorem Jp.frame(h:Jp S w ex sm pb s p)(h':Jp S w' [] sm' pb s p')(hm:Mc w sm w' sm'):Jp S w' ex sm' pb s p'/\Mc w (ex++sm) w' (ex++sm'):=by
  have hp:=List.pairwise_append.1 h.pw;have hex:∀q∈ex,q.1∉ids sm:=λq hq hi=>by
    obtain⟨r,hr,e⟩:=nQ.1 hi;exact hp.2.2 q hq r hr e
  have hlt:∀q∈ex,q.1<w.heap.size:=λq hq=>Mb (h.hh q (List.mem_append_left _ hq));have hheap:∀q∈ex,w'.heap[q.1]? = some q.2:=λq hq=>(hm.same.block q.1 (hlt q hq) (hex q hq)).trans (h.hh q (List.mem_append_left _ hq));have hx:∀q∈ex,∀r∈sm',r.1≠q.1:=λq hq r hr e=>by
    rcases hm.fresh r hr with h1|h1
    ·have:=hlt q hq;omega
    exact hex q hq (e▸h1)
  refine⟨⟨h'.parts,λx hx1=>⟨(h'.off x hx1).1,λhi=>?_⟩,?_,λq hq=>?_⟩,?_,λq hq=>?_⟩
  ·unfold ids at hi
   rw[jQ]at hi;rcases mQ.1 hi with h1|h1
   ·exact (h.off x hx1).2 (by unfold ids;rw[jQ];exact List.mem_append_left _ h1)
   exact (h'.off x hx1).2 (by simpa[ids]using h1)
  ·exact List.pairwise_append.2 ⟨hp.1,by simpa using h'.pw,λq hq r hr=>hx q hq r hr⟩
  ·rcases mQ.1 hq with h1|h1
   ·exact hheap q h1
   exact h'.hh q (by simpa using h1)
  ·exact hm.same.mono (by intro b hb _;unfold ids at hb ⊢;rw[jQ];exact List.mem_append_right _ hb)
  rcases mQ.1 hq with h1|h1
  ·exact .inr (by unfold ids;rw[jQ];exact List.mem_append_left _ (List.mem_map_of_mem h1))
  rcases hm.fresh q h1 with h2|h2
  ·exact .inl h2
  exact .inr (by unfold ids at h2 ⊢;rw[jQ];exact List.mem_append_right _ h2)
theorem Jp.ext(h:Jp S w ex sm pb s p)(hE:Same [] w w'):Jp S w' ex sm pb s p:=by
  obtain⟨A,Ar,c,cr,sl,vals,sb,h1,h2,h3,h4⟩:=h.parts;exact⟨⟨A,Ar,c,cr,sl,vals,sb,h1,h2,h3,h4.ext hE⟩,λb hb=>⟨Nat.lt_of_lt_of_le (h.off b hb).1 hE.size,(h.off b hb).2⟩,h.pw,λq hq=>(hE.block q.1 (Mb (h.hh q hq)) La).trans (h.hh q hq)⟩
theorem Mc.ext(hE:Same [] w w'):Mc w sm w' sm:=⟨hE.mono La,λq hq=>.inr (List.mem_map_of_mem hq)⟩
theorem Mc.trans{w2:World}{sm2:List (Nat × Obj)}(h:Mc w sm w' sm')(h2:Mc w' sm' w2 sm2):Mc w sm w2 sm2:=by
  have hf:∀b∈ids sm',w.heap.size<=b\/b∈ids sm:=λb hb=>by
    obtain⟨q,hq,rfl⟩:=nQ.1 hb;exact h.fresh q hq
  refine⟨⟨h2.same.os.trans h.same.os,h2.same.tape.trans h.same.tape,h2.same.output.trans h.same.output,fQ h.same.size h2.same.size,λb hb hn=>?_⟩,λq hq=>?_⟩
  ·refine (h2.same.block b (Nat.lt_of_lt_of_le hb h.same.size) λhm => ?_).trans (h.same.block b hb hn)
   rcases hf b hm with h1|h1
   ·omega
   exact hn h1
  rcases h2.fresh q hq with h1|h1
  ·exact .inl (fQ h.same.size h1)
  exact hf _ h1
theorem Jp.head{o:Obj}{sl sb:List (Nat × Obj)}{A Ar:Option Addr}{c cr:Nat}{vals:List Value}(hq:p'.nodes=p.nodes)(hoff:Off S w (ex++(pb,o)::(sl++sb)))(hpw:(ex++(pb,o)::(sl++sb)).Pairwise (λp q=>q.1≠p.1))(hh:∀q∈ex++(pb,o)::(sl++sb),w.heap[q.1]? = some q.2)
    (h1:SlB 145 7 A p.nodes.length c vals sl) (h2:NdsAt 3 136 p.nodes vals sb) (hb:w'.heap[pb]? = some (.cells (Ym s Ar cr p' A c).toArray 138)) (hE:Same [pb] w w') (h3:Rep S w' (Mk p'.rest) [.slice Ar p'.rest.length cr]) :
    ∃sm',Jp S w' ex sm' pb s p'/\Mc w (ex++(pb,o)::(sl++sb)) w' (ex++sm'):=by
  have hids:ids (ex++(pb,Obj.cells (Ym s Ar cr p' A c).toArray 138)::(sl++sb))=ids (ex++(pb,o)::(sl++sb)):=by simp[ids]
  have hpm:pb∈ids (ex++(pb,o)::(sl++sb)):=by simp[ids]
  have hne:∀q∈ex++(sl++sb),q.1≠pb:=λq hq e=>by
    have hp:=List.pairwise_append.1 hpw;rcases mQ.1 hq with h|h
    ·exact hp.2.2 q h (pb,o) List.mem_cons_self e.symm
    exact (List.pairwise_cons.1 hp.2.1).1 q h e
  refine⟨(pb,.cells (Ym s Ar cr p' A c).toArray 138)::(sl++sb),⟨⟨A,Ar,c,cr,sl,vals,sb,rfl,hq▸h1,hq▸h2,h3⟩,?_,?_,?_⟩,hE.mono (by intro b hb _;rw[pQ.1 hb];exact hpm),λq hq=>.inr (by rw[<-hids];exact List.mem_map_of_mem hq)⟩
  ·intro b hb'
   rw[hids];exact⟨Nat.lt_of_lt_of_le (hoff b hb').1 hE.size,(hoff b hb').2⟩
  ·have hp := List.pairwise_append.1 hpw
   have hc:=List.pairwise_cons.1 hp.2.1;exact List.pairwise_append.2 ⟨hp.1,List.pairwise_cons.2 ⟨hc.1,hc.2⟩,λq hq r hr=>by
     rcases oQ.1 hr with rfl|hr
     ·exact hp.2.2 q hq (pb,o) List.mem_cons_self
     exact hp.2.2 q hq r (List.mem_cons_of_mem _ hr)⟩
  intro q hq;have:q=(pb,Obj.cells (Ym s Ar cr p' A c).toArray 138)\/q∈ex++(sl++sb):=by
    rcases mQ.1 hq with h|h
    ·exact .inr (List.mem_append_left _ h)
    rcases oQ.1 h with h|h
    ·exact .inl h
    exact .inr (List.mem_append_right _ h)
  rcases this with rfl|h
  ·exact hb
  have hm:q∈ex++(pb,o)::(sl++sb):=by
    rcases mQ.1 h with h|h
    ·exact List.mem_append_left _ h
    exact List.mem_append_right _ (List.mem_cons_of_mem _ h)
  exact (hE.block q.1 (Mb (hh q hm)) (by simpa using hne q h)).trans (hh q hm)
def Jr(S:Nat->Prop)(ex:List (Nat × Obj))(sm:List (Nat × Obj))(pb:Nat)(s:Str)(w0:World)(b:Bool)(p:Ps)(v:Value)(w':World):Prop:=v=.bool b/\∃sm',Jp S w' ex sm' pb s p/\Mc w0 (ex++sm) w' (ex++sm')
theorem C4{o:Obj}{sl:List (Nat × Obj)}(h:Off S w (ex++(pb,o)::sl)):∀b,S b->b≠pb:=λb hb e=>(h b hb).2 (by subst e;simp[ids])
theorem CN(h:Jp S w ex sm pb s p):Calls prog 171 #[V pb] w (Oc λv w'=>v=J p.kind/\Same [] w w'):=by
  obtain⟨A,Ar,c,cr,sl,vals,sb,rfl,h1,h2,h3⟩:=h.parts;exact kind_c s p Ar A cr c pb S w (h.hh _ (List.mem_append_right _ List.mem_cons_self)) h3 (C4 h.off)
theorem Rn(h:Jp S w ex sm pb s p)(e:Int):Calls prog 114 #[V pb,J e] w (Oc λv w'=>Jr S ex sm pb s w false (p.fail s.length e) v w'):=by
  obtain⟨A,Ar,c,cr,sl,vals,sb,rfl,h1,h2,h3⟩:=h.parts;have ho:=C4 h.off;refine Pj (fail_c s p Ar A cr c pb S e w (h.hh _ (List.mem_append_right _ List.mem_cons_self)) h3 ho) ?_;rintro v w' ⟨rfl,hb,hE⟩;exact⟨O,Jp.head (p:=p) O h.off h.pw h.hh h1 h2 hb hE (h3.same hE λb hb hs=>ho b hs (by simpa using hb))⟩
theorem B7(p:Ps):p.skip.nodes=p.nodes:=by unfold Ps.skip;cases p.rest <;> rfl
theorem VK(h:Jp S w ex sm pb s p)(hr:p.rest≠[]):Calls prog 172 #[V pb] w (Oc λv w'=>v=.tuple #[]/\∃sm',Jp S w' ex sm' pb s p.skip/\Mc w (ex++sm) w' (ex++sm')):=by
  obtain⟨A,Ar,c,cr,sl,vals,sb,rfl,h1,h2,h3⟩:=h.parts;have ho:=C4 h.off;obtain⟨t,r,hpr⟩:∃t r,p.rest=t::r:=by cases hp:p.rest with|nil=>exact absurd hp hr|cons t r=>exact⟨t,r,rfl⟩
  refine Pj (skip_c s p Ar A cr c pb S t r w (h.hh _ (List.mem_append_right _ List.mem_cons_self)) h3 ho hpr) ?_;rintro v w' ⟨rfl,Ar',cr',hb,h4,hE⟩;exact⟨O,Jp.head (p:=p) (B7 p) h.off h.pw h.hh h1 h2 hb hE h4⟩
theorem U3(h:Jp S w ex sm pb s p)(k:Int)(hk:k≠0):Calls prog 232 #[V pb,J k] w (Oc λv w'=>Jr S ex sm pb s w (decide (p.kind=k)) (if p.kind=k then p.skip else p) v w'):=by
  obtain⟨A,Ar,c,cr,sl,vals,sb,rfl,h1,h2,h3⟩:=h.parts;have ho:=C4 h.off;refine Pj (takes_c s p Ar A cr c pb S k hk w (h.hh _ (List.mem_append_right _ List.mem_cons_self)) h3 ho) ?_;rintro v w' (⟨hc,rfl,hb,hE⟩|⟨hc,rfl,Ar',cr',hb,h4,hE⟩)
  ·rw[if_neg hc]
   exact⟨by rw[decide_eq_false hc],Jp.head (p:=p) O h.off h.pw h.hh h1 h2 hb hE (h3.same hE λb hb hs=>ho b hs (by simpa using hb))⟩
  rw[if_pos hc];exact⟨by rw[decide_eq_true hc],Jp.head (p:=p) (B7 p) h.off h.pw h.hh h1 h2 hb hE h4⟩
end
end Go.Scarf
