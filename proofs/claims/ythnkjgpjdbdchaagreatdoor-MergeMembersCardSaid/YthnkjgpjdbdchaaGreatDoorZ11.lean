/- A part of the proof. -/
import Derived.Test.YthnkjgpjdbdchaaGreatDoorZ8
import Derived.Test.YthnkjgpjdbdchaaGreatDoorZ4
set_option linter.all false
set_option maxHeartbeats 8000000
set_option maxRecDepth 10000
namespace Go.Scarf
open Go.RowKit Go.Proofs Go.Proofs.Tryz
theorem NO(k:Int)(t:Str)(ks:List Str)(xs:List Tree)(ih:∀x∈xs,LW x)(A D:Option Addr)(c e:Nat)(w0:World)(B pb:Nat)(ls:List Str)(fs:List Int)(hT:Tb w0 B pb ls fs)(hG:Gl w0)(hpN:8<=pb)(hlf:ls.length=fs.length)(hR:Rep (λb=>b∉Wk2 w0 B pb) w0 (Ub (.node k t ks xs)) [J k,I t,.slice A ks.length c,.slice D xs.length e])(hn:Pd nodeB (.node k t ks xs)=true)(hsz:Mb (.node k t ks xs)<=1000000000)(hm:Qd (.node k t ks xs)<=1073741824)(hlen:ls.length+(Ij (.node k t ks xs)).length<=512):Calls prog 226 #[V pb,.agg #[J k,I t,.slice A ks.length c,.slice D xs.length e]] w0 (Be λv w'=>v=.tuple #[]/\Tb w' B pb (ls++Ij (.node k t ks xs)) (fs++Yo (.node k t ks xs) ls.length)/\Same (Wk2 w0 B pb) w0 w'):=by
 obtain⟨hn1,hns⟩:=De hn;have hsz1:Kb xs+1<=1000000000:=by rw[Mb]at hsz;omega
 have hm1:Tj xs<=1073741824/\Dm ks<=1073741824:=by rw[Qd]at hm;omega
 have hlp:=lab_pos (.node k t ks xs);have hRw:=hR;refine Ga func226 O ntmps226 Ib (Md _ _) ?_;have hB:=TW.start hT;have hF:=FR.start w0 (Wk2 w0 B pb);refine Ia (GW (.pointer _) hF O ?_);intro b1 w hb1 hF hE;have hnb1:b1≠pb:=by have:=hB.lt;omega
 have hB:=hB.ext hE;have hRw:=hRw.off2_ext hE;refine Bf hF O ?_;intro b2 w hb2 hF hE;have hnb2:b2≠pb:=by have:=hB.lt;omega
 have hB:=hB.ext hE;have hRw:=hRw.off2_ext hE;refine Ea (Ja ?_);have hRw2:=hRw;obtain⟨A_,c_,D_,e_,he_,-,-,hKw,hXw⟩:=hRw2.tree_inv;simp only[List.cons.injEq,Value.slice.injEq,and_true]at he_;obtain⟨-,-,⟨rfl,-,rfl⟩,⟨rfl,-,rfl⟩⟩:=he_;refine Fa (Ca (Bc Wf O) (Sc (Zq aZ O hF.F 0 O O) (Ea (Za (Ia (Ca (Rq O O) (Ca (Jc O) (Ea ?_))))))));refine Rc O O (λhc0=>?_) (λhc0=>?_);refine Fa (Sc (KX isAgg290 O hF.F 1 O O) (Ma (v:=.func (.func 251) #[] #[V b2,V b1]) (No O O) ?_));have h5:k=5:=by assumption
 have hl5:ls.length+(Ri xs).length+1<=512:=by rw[Ij,if_pos h5,dQ,List.length_singleton]at hlen;omega
 have hl5:ls.length+(Ri xs).length<=511:=by omega
 refine Db (XS w B pb 251 #[V b2,V b1] en_251 ls _ fs _ [91] hB.tb (nitems_c k t ks xs A D c e w B pb ls fs hB.tb (hG.wrote2 hF.same (by have:=hT.lt;omega) hpN) hpN hlf ih hns tX tX b2 b1 (hF.heap (i:=0) O) (hF.heap (i:=1) O) (by assumption) hXw tX) (by rw[dQ];omega) (by rw[dQ,X2];omega)) (Oc KH O O O O) ?_;rintro _ w ⟨rfl,hT2,hE⟩;have hF:=hF.wrote2 hB hE (by intro z hz;simp only[oQ,List.not_mem_nil,or_false]at hz;rcases hz with rfl|rfl <;> exact⟨.inl rfl,by assumption⟩);have hB:=hB.wrote hT2 hE;refine Gb (Fb ?_);refine Rf (Vd (Rh O) ?_);have h5:k=5:=by assumption
 rw[Ij,Yo,if_pos h5,if_pos h5,<-sQ,<-sQ];exact⟨O,hB.tb,hF.same⟩;refine Ia (Ca (Rq O O) (Ca (Jc O) (Ea ?_)));refine Rc O O (λhc1=>?_) (λhc1=>?_);refine Fa (Sc (KX isAgg290 O hF.F 1 O O) (Ma (v:=.func (.func 252) #[] #[V b2,V b1]) (No O O) ?_));have h6:k=6:=by assumption
 have hl5:ls.length+(Sg xs ks).length+1<=512:=by rw[Ij,if_neg tX,if_pos h6,dQ,List.length_singleton]at hlen;omega
 refine Db (XS w B pb 252 #[V b2,V b1] en_252 ls _ fs _ [123] hB.tb (nkeys_c k t ks xs A D c e w B pb ls fs hB.tb (hG.wrote2 hF.same (by have:=hT.lt;omega) hpN) hpN hlf ih hns tX tX (Lo (h6▸hn1)).2 (λs hs=>by have:=Nm hs;omega) b2 b1 (hF.heap (i:=0) O) (hF.heap (i:=1) O) (by assumption) (by assumption) hXw hKw tX) (by rw[dQ];omega) (by rw[dQ,Av];omega)) (Oc KH O O O O) ?_;rintro _ w ⟨rfl,hT2,hE⟩;have hF:=hF.wrote2 hB hE (by intro z hz;simp only[oQ,List.not_mem_nil,or_false]at hz;rcases hz with rfl|rfl <;> exact⟨.inl rfl,by assumption⟩);have hB:=hB.wrote hT2 hE;refine Gb (Fb ?_);refine Rf (Vd (Rh O) ?_);have h6:k=6:=by assumption
 rw[Ij,Yo,if_neg tX,if_pos h6,if_neg tX,if_pos h6,<-sQ,<-sQ];exact⟨O,hB.tb,hF.same⟩;refine Od (.of []) (.free 0 (.free 1 (.act 2 (.act 3 .nil)))) hF ?_;intro w hF hE;have hB:=hB.ext hE;have hRw:=hRw.off2_ext hE;refine⟨λwq=>FR w0 (Wk2 w0 B pb) _ wq,hF,?_⟩;refine Wj O (KX isAgg290 O C0 1 O O) (Wj O (Of zQ oZ O C0 0 O O) ?_);refine Qb O (GS (.node k t ks xs) _ _ [J k,I t,.slice A ks.length c,.slice D xs.length e] hRw (hG.wrote2 hF.same (by have:=hT.lt;omega) hpN) tX tX) (Ra OZ O O) ?_;rintro _ w ⟨rfl,hE⟩;have hF:=hF.ext hE;have hB:=hB.ext hE;have hRw:=hRw.off2_ext hE;refine⟨hF,?_⟩;refine Qb O (XS w B pb 256 #[] en_256 ls _ fs _ (Ay (.node k t ks xs)) hB.tb (nnone_c w B pb ls fs hB.tb) tX tX) (Oc KH O O O O) ?_;rintro _ w ⟨rfl,hT2,hE⟩;have hF:=hF.wrote2 hB hE (by intro z hz;simp only[oQ,List.not_mem_nil,or_false]at hz;rcases hz with rfl|rfl <;> exact⟨.inl rfl,by assumption⟩);have hB:=hB.wrote hT2 hE;refine⟨hF,?_⟩;refine Hc (Fb ?_);refine Rf (Vd (Rh O) ?_);rw[Ij,Yo,if_neg tX,if_neg tX,if_neg tX,if_neg tX];exact⟨O,hB.tb,hF.same⟩
theorem nodes_c(x:Tree):LW x:=Tree.ind (Q:=LW) (λk t ks xs ih=>by
  intro w0 B pb ls fs cs hT hR hG hpN hlf hn hsz hm hlen;have hR0:=hR;obtain⟨A,c,D,e,rfl,-⟩:=hR0.tree_inv;exact NO k t ks xs ih A D c e w0 B pb ls fs hT hG hpN hlf hR hn hsz hm hlen) x
def Wl(x:Tree):List Str:=Ij (Ei x)
def Wr(x:Tree):List Int:=Yo (Ei x) 0
theorem WV(x:Tree):(Wr x).length=(Wl x).length:=Aw _ 0
theorem Zv{x:Tree}(h:Nc x=true):Pd nodeB (Ei x)=true:=Uk (by rw[At (Ef h)];exact NU (Ef h))
theorem Au{x:Tree}(h:Nc x=true):(Wl x).length<=2*Mb x:=by
  have h1:=lab_le (Ei x) (Zv h);have h2:=WH (Ei x) (Zv h);have h3:Mb (Ei x)=Mb x:=by rw[At (Ef h)];exact (S4 x (Uk (Ef h))).1
  unfold Wl;omega
theorem SA{x:Tree}(h:Nc x=true)(hs:Mb x<=256):Fl (Wl x) (Wr x):=KK _ (by have:=Au h;unfold Wl at this;omega)
theorem YD:∀(xs:List Tree),(∀x∈xs,∀s∈Ij x,s.length<=140737488355329)->∀s∈Ri xs,s.length<=140737488355329
  | [],_,s,hs=>by rw[Ri]at hs;cases hs
  | x :: xs, h, s, hs => by
    rw[Ri]at hs;rcases mQ.1 hs with h1|h1
    ·exact h x Da s h1
    exact YD xs (λy hy=>h y (by simp[hy])) s h1
theorem XC:∀(xs:List Tree)(ks:List Str),(∀x∈xs,∀s∈Ij x,s.length<=140737488355329)->(∀k∈ks,k.length<=1073741824)->∀s∈Sg xs ks,s.length<=140737488355329
  | [],_,_,_,s,hs=>by rw[Sg]at hs;cases hs
  | x :: xs, ks, h, hk, s, hs => by
    rw[Sg]at hs;rcases mQ.1 hs with h1|h1
    ·exact h x Da s h1
    rcases oQ.1 h1 with rfl|h2
    ·have:Qd (.node 4 (ks.headD []) [] [])<=1073741824:=by
       rw[S5];cases ks with
       | nil=>simp
       | cons k ks=>exact hk k Da
     have:=P5 _ this;unfold FO;simp only[kQ];omega
    exact XC xs ks.tail (λy hy=>h y (by simp[hy])) (λk hk2=>hk k (List.mem_of_mem_tail hk2)) s h2
theorem lab_lim(x:Tree):Qd x<=1073741824->∀s∈Ij x,s.length<=140737488355329:=Tree.ind (Q:=λx=>Qd x<=1073741824->∀s∈Ij x,s.length<=140737488355329) (λk t ks xs ih hm s hs=>by
  have hm0:=hm;rw[Qd]at hm0;have hx:∀x∈xs,∀s∈Ij x,s.length<=140737488355329:=λx hx=>ih x hx (by have:=Ji hx;omega);rw[Ij]at hs;split at hs
  ·rcases mQ.1 hs with h|h
   ·exact YD xs hx s h
   rw[pQ.1 h];simp
  split at hs
  ·rcases mQ.1 hs with h|h
   ·exact XC xs ks hx (λk hk=>by have:=Nm hk;omega) s h
   rw[pQ.1 h];simp
  rw[pQ.1 hs];have:=P5 _ hm;omega) x
theorem Tb.rows{w0 w:World}{B:Nat}{A:Option Addr}{e c:Nat}{ds:List D}{xs:List Value}{sb:List (Nat × Obj)}(hS:SlB e 1 A ds.length c xs sb)(hq:∀q∈sb,w.heap[q.1]? = some q.2/\B<=q.1)(hB:w0.heap.size<=B)(hr:RepL (Btw w0 w) w ds xs):Rep (Btw w0 w) w (.slice ds) [.slice A ds.length c]:=by
  refine hS.repOf (λq h=>⟨(hq q h).1,?_,Oa (hq q h).1,?_⟩) hr O
  ·have:=(hq q h).2;omega
  obtain⟨cur, he⟩ := hS.typ.2 q h;exact⟨cur,e,by rw[(hq q h).1,he]⟩
theorem CF{S:Nat->Prop}{wx:World}:∀{q:List Str},(∀s∈q,s.length<=9223372036854775807)->RepL S wx (q.map Zo) (q.map λs=>Value.string (bs s))
  | [],_=>RepL.nil_mk
  | s::q,h=>RepL.cons_mk (Rep.lit_mk (v:=I s) (h s Da)) (CF λx hx=>h x (by simp[hx]))
theorem from_yes(x:Tree)(S:Nat->Prop)(w0:World)(cs:List Value)(hR:Rep S w0 (Ub x) cs)(hG:Gl w0)(hsz:Mb x<=256)(hm:Qd x<=1073741824)(hx:Nc x=true):Calls prog 194 #[.agg cs.toArray] w0 (Be λv w'=>∃A c B e,v=.tuple #[.agg #[.slice A (Wl x).length c,.slice B (Wr x).length e],J 0]/\Rep (Btw w0 w') w' (Ud (Wl x)) [.slice A (Wl x).length c]/\Rep (Btw w0 w') w' (.slice ((Wr x).map Kh)) [.slice B (Wr x).length e]/\Same [] w0 w'):=by
 have hl:cs.length=4:=hR.length.trans (Xc x);have ho:=hR.one_;refine Ga func194 O ntmps194 Ib (Id _) ?_;have hF:=FR.start w0 [];refine Ia (Js (v:=.agg (List.toArray cs)) (cs:=(List.toArray cs)) hF O O ?_);rintro b1 w hb1 hF -;refine Td (cs:=#[aQ,aQ]) hF zeroValue238 O ?_;rintro b2 w hb2 hF -;refine Ca (Yc O) (Ea (Ja (Ia (Ma (v:=.agg (List.toArray cs)) (Ya (l:=cs) zQ oZ O hl (hF.cellsAll 1 O)) ?_))));refine Hb hF (Ng (v':=.bool true) (Aq x tX _ _ cs (hF.rep hR) (Re x tX) (hG.ext hF.same)) (congrArg Value.bool hx)) (Ra Mz O O) ?_;intro w hF;refine Ca (Fk (b:=true) O) (Ea (R5 O (Ia ?_)));refine Td (cs:=#[aQ,aQ]) hF zeroValue267 O ?_;rintro b3 w hb3 hF -;refine Lc (Ma (v:=.agg (List.toArray cs)) (Ya (l:=cs) zQ oZ O hl (hF.cellsAll 2 O)) ?_);have lb3:=hF.lt (i:=0) rfl;have lb2:=hF.lt (i:=1) rfl;have lb1:=hF.lt (i:=2) rfl;refine Db (VU x tX _ _ cs (hF.rep hR) (Re x tX) (hG.ext hF.same)) (Ra en_11 O O) ?_;rintro _ w ⟨ct,rfl,hRt,hE⟩;have hlt:ct.length=4:=hRt.length.trans (Xc _);have hot:=hRt.one_;have hgr:=hE.size;have hF:=hF.ext hE;have hTb:Tb w w.heap.size b3 [] []:=⟨by omega,gQ _,none,0,[],none,0,[],hF.heap (i:=0) rfl,SlB.nil _ _,SlB.nil _ _,by simp⟩;have hge3:=hF.ge (i:=0) rfl;refine Db (nodes_c (Ei x) w w.heap.size b3 [] [] ct hTb (hRt.weaken λb hb _ hw=>by rcases Jl.1 hw with rfl|⟨h1,h2,-⟩;(have:=hb.1;omega);omega) (hG.ext hF.same) (by have:=hF.ge (i:=0) rfl;have:=hG.size;omega) rfl (Zv hx) (BJ x tX) (fQ (S6 x) hm) (by have:=Au hx;unfold Wl at this;simp only[List.length_nil];omega)) (Xa KP rfl rfl rfl) ?_;obtain⟨B,hBw⟩:∃B,B=w.heap.size:=⟨_,rfl⟩;rw[<-hBw];rintro _ w ⟨rfl,hT2,hE⟩;have hBl:w0.heap.size<=B:=by have:=hF.same.size;omega
 have hb2B:b2<B:=by omega
 have hF:=(hF.drop 1).touch hE (λb hb=>by rcases Jl.1 hb with rfl|⟨-,h2,-⟩;(refine⟨λh=>absurd h tX,λz hz e=>?_⟩;have hd:=(List.pairwise_cons.1 hF.desc).1 z hz;exact hd e);(refine⟨λh=>absurd h tX,λz hz e=>?_⟩;have:z.1<B:=(by rw[hBw];exact Oa (hF.memHeap (List.mem_cons_of_mem _ hz)));omega));simp only[List.nil_append,List.length_nil]at hT2;obtain⟨-,-,P1,q1,sl,P2,q2,sf,hh,hL,hN,hrow⟩:=hT2;refine Ea (Ja (Ia (Ca (Bc Sf O) (Ca (Bc Lf O) (Ma (v:=.slice (P1) ((Wl x).length) (q1)) (Pb wQ O (Yb hh 0)) (Ca (Tf cX O) ?_))))));refine Ma (v:=.bool false) (Gg (YS O O) (by have:=Au hx;omega)) ?_;refine Ea (R5 O (Ia (Ca (Bc Sf O) (Ma (Ya (l:=[.slice (P1) ((Wl x).length) (q1),.slice (P2) ((Wr x).length) (q2)]) yQ nZ O O (U_ hh)) ?_))));refine Pf hF nZ O O Yh ?_;intro w hF hE;have hrow:=λq hq=>And.intro ((hE.block q.1 (Oa (hrow q hq).1) (by have:=(hrow q hq).2;simp only[pQ];omega)).trans (hrow q hq).1) (hrow q hq).2;refine Ca (Yc O) (Ea ?_);refine Ec (Dc (Ua (He O (l:=[.slice (P1) ((Wl x).length) (q1),.slice (P2) ((Wr x).length) (q2)]) O yQ nZ O (hF.cellsAll 0 O) (v:=J 0) O) ?_));refine⟨P1,q1,P2,q2,O,?_,?_,hF.same⟩;have:=Tb.rows (w0:=w0) (w:=w) (ds:=(Wl x).map Zo) (by rw[rQ];exact hL) (λq hq=>hrow q (by simp[hq])) hBl (CF (λs hs=>by have:=lab_lim (Ei x) (fQ (S6 x) hm) s hs;omega));rw[rQ]at this;exact this;have:=Tb.rows (w0:=w0) (w:=w) (ds:=(Wr x).map Kh) (by rw[rQ];exact hN) (λq hq=>hrow q (by simp[hq])) hBl (Ru (λs hs=>by obtain⟨i,hi,rfl⟩:=List.getElem_of_mem hs;have h1:=(SA hx hsz).2.2 i hi hi;have:=WV x;have:=Au hx;omega));rw[rQ]at this;exact this
end Go.Scarf
