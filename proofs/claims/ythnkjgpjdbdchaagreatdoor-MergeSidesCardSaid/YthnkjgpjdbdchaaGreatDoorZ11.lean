/- A part of the proof. -/
import Derived.Test.YthnkjgpjdbdchaaGreatDoorZ8
import Derived.Test.YthnkjgpjdbdchaaGreatDoorZ4
set_option linter.all false
set_option maxHeartbeats 8000000
set_option maxRecDepth 10000
namespace Go.Scarf
open Go.RowKit Go.Proofs Go.Proofs.Tryz
theorem EM(k:Int)(t:Str)(ks:List Str)(xs:List Tree)(ih:∀x∈xs,DU x)(A D:Option Addr)(c e:Nat)(w0:World)(B pb:Nat)(ls:List Str)(fs:List Int)(hT:Tb w0 B pb ls fs)(hG:Gl w0)(hpN:8<=pb)(hlf:ls.length=fs.length)(hR:Rep (λb=>b∉Wk2 w0 B pb) w0 (Wb (.node k t ks xs)) [J k,I t,.slice A ks.length c,.slice D xs.length e])(hn:Zd nodeB (.node k t ks xs)=true)(hsz:Rb (.node k t ks xs)<=1000000000)(hm:Nd (.node k t ks xs)<=1073741824)(hlen:ls.length+(Hj (.node k t ks xs)).length<=512):Calls prog 226 #[V pb,.agg #[J k,I t,.slice A ks.length c,.slice D xs.length e]] w0 (Wd λv w'=>v=.tuple #[]/\Tb w' B pb (ls++Hj (.node k t ks xs)) (fs++To (.node k t ks xs) ls.length)/\Same (Wk2 w0 B pb) w0 w'):=by
 obtain⟨hn1,hns⟩:=Se hn;have hsz1:Pb xs+1<=1000000000:=by rw[Rb]at hsz;omega
 have hm1:Jj xs<=1073741824/\Vk ks<=1073741824:=by rw[Nd]at hm;omega
 have hlp:=lab_pos (.node k t ks xs);have hRw:=hR;refine Fa func226 O ntmps226 Ib (Hd _ _) ?_;have hB:=TW.start hT;have hF:=FR.start w0 (Wk2 w0 B pb);refine Ha (YT (.pointer _) hF O ?_);intro b1 w hb1 hF hE;have hnb1:b1≠pb:=by have:=hB.lt;omega
 have hB:=hB.ext hE;have hRw:=hRw.off2_ext hE;refine Df hF O ?_;intro b2 w hb2 hF hE;have hnb2:b2≠pb:=by have:=hB.lt;omega
 have hB:=hB.ext hE;have hRw:=hRw.off2_ext hE;refine Ea (Ja ?_);have hRw2:=hRw;obtain⟨A_,c_,D_,e_,he_,-,-,hKw,hXw⟩:=hRw2.tree_inv;simp only[List.cons.injEq,Value.slice.injEq,and_true]at he_;obtain⟨-,-,⟨rfl,-,rfl⟩,⟨rfl,-,rfl⟩⟩:=he_;refine Ga (Ca (Zb Mg O) (Rc (Wr aZ O hF.F 0 O O) (Ea (Za (Ha (Ca (Gq O O) (Ca (Ic O) (Ea ?_))))))));refine Nc O O (λhc0=>?_) (λhc0=>?_);refine Ga (Rc (NV isAgg290 O hF.F 1 O O) (Ka (v:=.func (.func 251) #[] #[V b2,V b1]) (Do O O) ?_));have h5:k=5:=by assumption
 have hl5:ls.length+(Ei xs).length+1<=512:=by rw[Hj,if_pos h5,dQ,List.length_singleton]at hlen;omega
 have hl5:ls.length+(Ei xs).length<=511:=by omega
 refine Fb (LR w B pb 251 #[V b2,V b1] en_251 ls _ fs _ [91] hB.tb (XW k t ks xs A D c e w B pb ls fs hB.tb (hG.wrote2 hF.same (by have:=hT.lt;omega) hpN) hpN hlf ih hns sX sX b2 b1 (hF.heap (i:=0) O) (hF.heap (i:=1) O) (by assumption) hXw sX) (by rw[dQ];omega) (by rw[dQ,R1];omega)) (Kc VF O O O O) ?_;rintro _ w ⟨rfl,hT2,hE⟩;have hF:=hF.wrote2 hB hE (by intro z hz;simp only[oQ,List.not_mem_nil,or_false]at hz;rcases hz with rfl|rfl <;> exact⟨.inl rfl,by assumption⟩);have hB:=hB.wrote hT2 hE;refine Gb (Eb ?_);refine Jf (Od (Jh O) ?_);have h5:k=5:=by assumption
 rw[Hj,To,if_pos h5,if_pos h5,<-sQ,<-sQ];exact⟨O,hB.tb,hF.same⟩;refine Ha (Ca (Gq O O) (Ca (Ic O) (Ea ?_)));refine Nc O O (λhc1=>?_) (λhc1=>?_);refine Ga (Rc (NV isAgg290 O hF.F 1 O O) (Ka (v:=.func (.func 252) #[] #[V b2,V b1]) (Do O O) ?_));have h6:k=6:=by assumption
 have hl5:ls.length+(Gg xs ks).length+1<=512:=by rw[Hj,if_neg sX,if_pos h6,dQ,List.length_singleton]at hlen;omega
 refine Fb (LR w B pb 252 #[V b2,V b1] en_252 ls _ fs _ [123] hB.tb (nkeys_c k t ks xs A D c e w B pb ls fs hB.tb (hG.wrote2 hF.same (by have:=hT.lt;omega) hpN) hpN hlf ih hns sX sX (Tm (h6▸hn1)).2 (λs hs=>by have:=Em hs;omega) b2 b1 (hF.heap (i:=0) O) (hF.heap (i:=1) O) (by assumption) (by assumption) hXw hKw sX) (by rw[dQ];omega) (by rw[dQ,Ju];omega)) (Kc VF O O O O) ?_;rintro _ w ⟨rfl,hT2,hE⟩;have hF:=hF.wrote2 hB hE (by intro z hz;simp only[oQ,List.not_mem_nil,or_false]at hz;rcases hz with rfl|rfl <;> exact⟨.inl rfl,by assumption⟩);have hB:=hB.wrote hT2 hE;refine Gb (Eb ?_);refine Jf (Od (Jh O) ?_);have h6:k=6:=by assumption
 rw[Hj,To,if_neg sX,if_pos h6,if_neg sX,if_pos h6,<-sQ,<-sQ];exact⟨O,hB.tb,hF.same⟩;refine Kd (.of []) (.free 0 (.free 1 (.act 2 (.act 3 .nil)))) hF ?_;intro w hF hE;have hB:=hB.ext hE;have hRw:=hRw.off2_ext hE;refine⟨λwq=>FR w0 (Wk2 w0 B pb) _ wq,hF,?_⟩;refine Vi O (NV isAgg290 O C0 1 O O) (Vi O (Rf zQ oZ O C0 0 O O) ?_);refine Jb O (GQ (.node k t ks xs) _ _ [J k,I t,.slice A ks.length c,.slice D xs.length e] hRw (hG.wrote2 hF.same (by have:=hT.lt;omega) hpN) sX sX) (Ra LW O O) ?_;rintro _ w ⟨rfl,hE⟩;have hF:=hF.ext hE;have hB:=hB.ext hE;have hRw:=hRw.off2_ext hE;refine⟨hF,?_⟩;refine Jb O (LR w B pb 256 #[] en_256 ls _ fs _ (Aw (.node k t ks xs)) hB.tb (nnone_c w B pb ls fs hB.tb) sX sX) (Kc VF O O O O) ?_;rintro _ w ⟨rfl,hT2,hE⟩;have hF:=hF.wrote2 hB hE (by intro z hz;simp only[oQ,List.not_mem_nil,or_false]at hz;rcases hz with rfl|rfl <;> exact⟨.inl rfl,by assumption⟩);have hB:=hB.wrote hT2 hE;refine⟨hF,?_⟩;refine Fc (Eb ?_);refine Jf (Od (Jh O) ?_);rw[Hj,To,if_neg sX,if_neg sX,if_neg sX,if_neg sX];exact⟨O,hB.tb,hF.same⟩
theorem nodes_c(x:Tree):DU x:=Tree.ind (Q:=DU) (λk t ks xs ih=>by
  intro w0 B pb ls fs cs hT hR hG hpN hlf hn hsz hm hlen;have hR0:=hR;obtain⟨A,c,D,e,rfl,-⟩:=hR0.tree_inv;exact EM k t ks xs ih A D c e w0 B pb ls fs hT hG hpN hlf hR hn hsz hm hlen) x
def Kl(x:Tree):List Str:=Hj (Vd x)
def Gr(x:Tree):List Int:=To (Vd x) 0
theorem AV(x:Tree):(Gr x).length=(Kl x).length:=Ku _ 0
theorem Ou{x:Tree}(h:Sc x=true):Zd nodeB (Vd x)=true:=Ik (by rw[Uj (Nf h)];exact ED (Nf h))
theorem Vt{x:Tree}(h:Sc x=true):(Kl x).length<=2*Rb x:=by
  have h1:=lab_le (Vd x) (Ou h);have h2:=GE (Vd x) (Ou h);have h3:Rb (Vd x)=Rb x:=by rw[Uj (Nf h)];exact (Gy x (Ik (Nf h))).1
  unfold Kl;omega
theorem C8{x:Tree}(h:Sc x=true)(hs:Rb x<=256):Qk (Kl x) (Gr x):=PH _ (by have:=Vt h;unfold Kl at this;omega)
theorem ZB:∀(xs:List Tree),(∀x∈xs,∀s∈Hj x,s.length<=140737488355329)->∀s∈Ei xs,s.length<=140737488355329
  | [],_,s,hs=>by rw[Ei]at hs;cases hs
  | x :: xs, h, s, hs => by
    rw[Ei]at hs;rcases mQ.1 hs with h1|h1
    ·exact h x Da s h1
    exact ZB xs (λy hy=>h y (by simp[hy])) s h1
theorem VD:∀(xs:List Tree)(ks:List Str),(∀x∈xs,∀s∈Hj x,s.length<=140737488355329)->(∀k∈ks,k.length<=1073741824)->∀s∈Gg xs ks,s.length<=140737488355329
  | [],_,_,_,s,hs=>by rw[Gg]at hs;cases hs
  | x :: xs, ks, h, hk, s, hs => by
    rw[Gg]at hs;rcases mQ.1 hs with h1|h1
    ·exact h x Da s h1
    rcases oQ.1 h1 with rfl|h2
    ·have:Nd (.node 4 (ks.headD []) [] [])<=1073741824:=by
       rw[O4];cases ks with
       | nil=>simp
       | cons k ks=>exact hk k Da
     have:=U3 _ this;unfold VL;simp only[kQ];omega
    exact VD xs ks.tail (λy hy=>h y (by simp[hy])) (λk hk2=>hk k (List.mem_of_mem_tail hk2)) s h2
theorem lab_lim(x:Tree):Nd x<=1073741824->∀s∈Hj x,s.length<=140737488355329:=Tree.ind (Q:=λx=>Nd x<=1073741824->∀s∈Hj x,s.length<=140737488355329) (λk t ks xs ih hm s hs=>by
  have hm0:=hm;rw[Nd]at hm0;have hx:∀x∈xs,∀s∈Hj x,s.length<=140737488355329:=λx hx=>ih x hx (by have:=Di hx;omega);rw[Hj]at hs;split at hs
  ·rcases mQ.1 hs with h|h
   ·exact ZB xs hx s h
   rw[pQ.1 h];simp
  split at hs
  ·rcases mQ.1 hs with h|h
   ·exact VD xs ks hx (λk hk=>by have:=Em hk;omega) s h
   rw[pQ.1 h];simp
  rw[pQ.1 hs];have:=U3 _ hm;omega) x
theorem Tb.rows{w0 w:World}{B:Nat}{A:Option Addr}{e c:Nat}{ds:List D}{xs:List Value}{sb:List (Nat × Obj)}(hS:SlB e 1 A ds.length c xs sb)(hq:∀q∈sb,w.heap[q.1]? = some q.2/\B<=q.1)(hB:w0.heap.size<=B)(hr:RepL (Btw w0 w) w ds xs):Rep (Btw w0 w) w (.slice ds) [.slice A ds.length c]:=by
  refine hS.repOf (λq h=>⟨(hq q h).1,?_,Ma (hq q h).1,?_⟩) hr O
  ·have:=(hq q h).2;omega
  obtain⟨cur, he⟩ := hS.typ.2 q h;exact⟨cur,e,by rw[(hq q h).1,he]⟩
theorem HC{S:Nat->Prop}{wx:World}:∀{q:List Str},(∀s∈q,s.length<=9223372036854775807)->RepL S wx (q.map Qm) (q.map λs=>Value.string (bs s))
  | [],_=>RepL.nil_mk
  | s::q,h=>RepL.cons_mk (Rep.lit_mk (v:=I s) (h s Da)) (HC λx hx=>h x (by simp[hx]))
theorem CX(x:Tree)(S:Nat->Prop)(w0:World)(cs:List Value)(hR:Rep S w0 (Wb x) cs)(hG:Gl w0)(hsz:Rb x<=256)(hm:Nd x<=1073741824)(hx:Sc x=true):Calls prog 194 #[.agg cs.toArray] w0 (Wd λv w'=>∃A c B e,v=.tuple #[.agg #[.slice A (Kl x).length c,.slice B (Gr x).length e],J 0]/\Rep (Btw w0 w') w' (Ld (Kl x)) [.slice A (Kl x).length c]/\Rep (Btw w0 w') w' (.slice ((Gr x).map Ah)) [.slice B (Gr x).length e]/\Same [] w0 w'):=by
 have hl:cs.length=4:=hR.length.trans (Tc x);have ho:=hR.one_;refine Fa func194 O ntmps194 Ib (Zc _) ?_;have hF:=FR.start w0 [];refine Ha (Qp (v:=.agg (List.toArray cs)) (cs:=(List.toArray cs)) hF O O ?_);rintro b1 w hb1 hF -;refine Md (cs:=#[aQ,aQ]) hF zeroValue238 O ?_;rintro b2 w hb2 hF -;refine Ca (Uc O) (Ea (Ja (Ha (Ka (v:=.agg (List.toArray cs)) (Va (l:=cs) zQ oZ O hl (hF.cellsAll 1 O)) ?_))));refine Hb hF (Lg (v':=.bool true) (Ay x sX _ _ cs (hF.rep hR) (Oh x sX) (hG.ext hF.same)) (congrArg Value.bool hx)) (Ra BC O O) ?_;intro w hF;refine Ca (Jm (b:=true) O) (Ea (D4 O (Ha ?_)));refine Md (cs:=#[aQ,aQ]) hF zeroValue267 O ?_;rintro b3 w hb3 hF -;refine Jc (Ka (v:=.agg (List.toArray cs)) (Va (l:=cs) zQ oZ O hl (hF.cellsAll 2 O)) ?_);have lb3:=hF.lt (i:=0) rfl;have lb2:=hF.lt (i:=1) rfl;have lb1:=hF.lt (i:=2) rfl;refine Fb (Jt x sX _ _ cs (hF.rep hR) (Oh x sX) (hG.ext hF.same)) (Ra GJ O O) ?_;rintro _ w ⟨ct,rfl,hRt,hE⟩;have hlt:ct.length=4:=hRt.length.trans (Tc _);have hot:=hRt.one_;have hgr:=hE.size;have hF:=hF.ext hE;have hTb:Tb w w.heap.size b3 [] []:=⟨by omega,gQ _,none,0,[],none,0,[],hF.heap (i:=0) rfl,SlB.nil _ _,SlB.nil _ _,by simp⟩;have hge3:=hF.ge (i:=0) rfl;refine Fb (nodes_c (Vd x) w w.heap.size b3 [] [] ct hTb (hRt.weaken λb hb _ hw=>by rcases Fl.1 hw with rfl|⟨h1,h2,-⟩;(have:=hb.1;omega);omega) (hG.ext hF.same) (by have:=hF.ge (i:=0) rfl;have:=hG.size;omega) rfl (Ou hx) (CL x sX) (fQ (U5 x) hm) (by have:=Vt hx;unfold Kl at this;simp only[List.length_nil];omega)) (Ya SO rfl rfl rfl) ?_;obtain⟨B,hBw⟩:∃B,B=w.heap.size:=⟨_,rfl⟩;rw[<-hBw];rintro _ w ⟨rfl,hT2,hE⟩;have hBl:w0.heap.size<=B:=by have:=hF.same.size;omega
 have hb2B:b2<B:=by omega
 have hF:=(hF.drop 1).touch hE (λb hb=>by rcases Fl.1 hb with rfl|⟨-,h2,-⟩;(refine⟨λh=>absurd h sX,λz hz e=>?_⟩;have hd:=(List.pairwise_cons.1 hF.desc).1 z hz;exact hd e);(refine⟨λh=>absurd h sX,λz hz e=>?_⟩;have:z.1<B:=(by rw[hBw];exact Ma (hF.memHeap (List.mem_cons_of_mem _ hz)));omega));simp only[List.nil_append,List.length_nil]at hT2;obtain⟨-,-,P1,q1,sl,P2,q2,sf,hh,hL,hN,hrow⟩:=hT2;refine Ea (Ja (Ha (Ca (Zb Lf O) (Ca (Zb Ff O) (Ka (v:=.slice (P1) ((Kl x).length) (q1)) (Ob wQ O (Xb hh 0)) (Ca (Mf bX O) ?_))))));refine Ka (v:=.bool false) (Wf (DI O O) (by have:=Vt hx;omega)) ?_;refine Ea (D4 O (Ha (Ca (Zb Lf O) (Ka (Va (l:=[.slice (P1) ((Kl x).length) (q1),.slice (P2) ((Gr x).length) (q2)]) yQ nZ O O (T9 hh)) ?_))));refine If hF nZ O O Ih ?_;intro w hF hE;have hrow:=λq hq=>And.intro ((hE.block q.1 (Ma (hrow q hq).1) (by have:=(hrow q hq).2;simp only[pQ];omega)).trans (hrow q hq).1) (hrow q hq).2;refine Ca (Uc O) (Ea ?_);refine Cc (Bc (Ua (Ee O (l:=[.slice (P1) ((Kl x).length) (q1),.slice (P2) ((Gr x).length) (q2)]) O yQ nZ O (hF.cellsAll 0 O) (v:=J 0) O) ?_));refine⟨P1,q1,P2,q2,O,?_,?_,hF.same⟩;have:=Tb.rows (w0:=w0) (w:=w) (ds:=(Kl x).map Qm) (by rw[rQ];exact hL) (λq hq=>hrow q (by simp[hq])) hBl (HC (λs hs=>by have:=lab_lim (Vd x) (fQ (U5 x) hm) s hs;omega));rw[rQ]at this;exact this;have:=Tb.rows (w0:=w0) (w:=w) (ds:=(Gr x).map Ah) (by rw[rQ];exact hN) (λq hq=>hrow q (by simp[hq])) hBl (Ft (λs hs=>by obtain⟨i,hi,rfl⟩:=List.getElem_of_mem hs;have h1:=(C8 hx hsz).2.2 i hi hi;have:=AV x;have:=Vt hx;omega));rw[rQ]at this;exact this
end Go.Scarf
