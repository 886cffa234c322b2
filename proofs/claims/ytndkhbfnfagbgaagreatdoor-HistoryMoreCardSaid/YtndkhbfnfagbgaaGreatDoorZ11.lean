/- A part of the proof. -/
import Derived.Test.YtndkhbfnfagbgaaGreatDoorZ8
import Derived.Test.YtndkhbfnfagbgaaGreatDoorZ4
set_option linter.all false
set_option maxHeartbeats 8000000
set_option maxRecDepth 10000
namespace Go.Scarf
open Go.RowKit Go.Proofs Go.Proofs.Tryz
theorem KO(k:Int)(t:Str)(ks:List Str)(xs:List Tree)(ih:∀x∈xs,LT x)(A D:Option Addr)(c e:Nat)(w0:World)(B pb:Nat)(ls:List Str)(fs:List Int)(hT:Tb w0 B pb ls fs)(hG:Gl w0)(hpN:7<=pb)(hlf:ls.length=fs.length)(hR:Rep (λb=>b∉Wk2 w0 B pb) w0 (Zb (.node k t ks xs)) [J k,I t,.slice A ks.length c,.slice D xs.length e])(hn:Af nodeB (.node k t ks xs)=true)(hsz:Wb (.node k t ks xs)<=1000000000)(hm:Yd (.node k t ks xs)<=1073741824)(hlen:ls.length+(Ni (.node k t ks xs)).length<=512):Calls prog 216 #[V pb,.agg #[J k,I t,.slice A ks.length c,.slice D xs.length e]] w0 (Td λv w'=>v=.tuple #[]/\Tb w' B pb (ls++Ni (.node k t ks xs)) (fs++Jo (.node k t ks xs) ls.length)/\Same (Wk2 w0 B pb) w0 w'):=by
 obtain⟨hn1,hns⟩:=Lf hn;have hsz1:Rb xs+1<=1000000000:=by rw[Wb]at hsz;omega
 have hm1:Tj xs<=1073741824/\Wm ks<=1073741824:=by rw[Yd]at hm;omega
 have hlp:=lab_pos (.node k t ks xs);have hRw:=hR;refine Ga func216 O ntmps216 Fb (Zc _ _) ?_;have hB:=TW.start hT;have hF:=FR.start w0 (Wk2 w0 B pb);refine Ja (EE (.pointer _) hF O ?_);intro b1 w hb1 hF hE;have hnb1:b1≠pb:=by have:=hB.lt;omega
 have hB:=hB.ext hE;have hRw:=hRw.off2_ext hE;refine Ve hF O ?_;intro b2 w hb2 hF hE;have hnb2:b2≠pb:=by have:=hB.lt;omega
 have hB:=hB.ext hE;have hRw:=hRw.off2_ext hE;refine Ea (Ha ?_);have hRw2:=hRw;obtain⟨A_,c_,D_,e_,he_,-,-,hKw,hXw⟩:=hRw2.tree_inv;simp only[List.cons.injEq,Value.slice.injEq,and_true]at he_;obtain⟨-,-,⟨rfl,-,rfl⟩,⟨rfl,-,rfl⟩⟩:=he_;refine Fa (Ca (Xb Wh O) (Yc (Xs bZ O hF.F 0 O O) (Ea (Va (Ja (Ca (Pq O O) (Ca (Hc O) (Ea ?_))))))));refine Pc O O (λhc0=>?_) (λhc0=>?_);refine Fa (Yc (GW isAgg303 O hF.F 1 O O) (Ka (v:=.func (.func 247) #[] #[V b2,V b1]) (Wn O O) ?_));have h5:k=5:=by assumption
 have hl5:ls.length+(Qh xs).length+1<=512:=by rw[Ni,if_pos h5,dQ,List.length_singleton]at hlen;omega
 have hl5:ls.length+(Qh xs).length<=511:=by omega
 refine Cb (EQ w B pb 247 #[V b2,V b1] en_247 ls _ fs _ [91] hB.tb (HX k t ks xs A D c e w B pb ls fs hB.tb (hG.wrote2 hF.same (by have:=hT.lt;omega) hpN) hpN hlf ih hns sX sX b2 b1 (hF.heap (i:=0) O) (hF.heap (i:=1) O) (by assumption) hXw sX) (by rw[dQ];omega) (by rw[dQ,W0];omega)) (Ic UE O O O O) ?_;rintro _ w ⟨rfl,hT2,hE⟩;have hF:=hF.wrote2 hB hE (by intro z hz;simp only[oQ,List.not_mem_nil,or_false]at hz;rcases hz with rfl|rfl <;> exact⟨.inl rfl,by assumption⟩);have hB:=hB.wrote hT2 hE;refine Db (Ib ?_);refine Bf (Rd (Sg O) ?_);have h5:k=5:=by assumption
 rw[Ni,Jo,if_pos h5,if_pos h5,<-sQ,<-sQ];exact⟨O,hB.tb,hF.same⟩;refine Ja (Ca (Pq O O) (Ca (Hc O) (Ea ?_)));refine Pc O O (λhc1=>?_) (λhc1=>?_);refine Fa (Yc (GW isAgg303 O hF.F 1 O O) (Ka (v:=.func (.func 248) #[] #[V b2,V b1]) (Wn O O) ?_));have h6:k=6:=by assumption
 have hl5:ls.length+(Tf xs ks).length+1<=512:=by rw[Ni,if_neg sX,if_pos h6,dQ,List.length_singleton]at hlen;omega
 refine Cb (EQ w B pb 248 #[V b2,V b1] en_248 ls _ fs _ [123] hB.tb (nkeys_c k t ks xs A D c e w B pb ls fs hB.tb (hG.wrote2 hF.same (by have:=hT.lt;omega) hpN) hpN hlf ih hns sX sX (Mp (h6▸hn1)).2 (λs hs=>by have:=Ql hs;omega) b2 b1 (hF.heap (i:=0) O) (hF.heap (i:=1) O) (by assumption) (by assumption) hXw hKw sX) (by rw[dQ];omega) (by rw[dQ,Ou];omega)) (Ic UE O O O O) ?_;rintro _ w ⟨rfl,hT2,hE⟩;have hF:=hF.wrote2 hB hE (by intro z hz;simp only[oQ,List.not_mem_nil,or_false]at hz;rcases hz with rfl|rfl <;> exact⟨.inl rfl,by assumption⟩);have hB:=hB.wrote hT2 hE;refine Db (Ib ?_);refine Bf (Rd (Sg O) ?_);have h6:k=6:=by assumption
 rw[Ni,Jo,if_neg sX,if_pos h6,if_neg sX,if_pos h6,<-sQ,<-sQ];exact⟨O,hB.tb,hF.same⟩;refine Id (.of []) (.free 0 (.free 1 (.act 2 (.act 3 .nil)))) hF ?_;intro w hF hE;have hB:=hB.ext hE;have hRw:=hRw.off2_ext hE;refine⟨λwq=>FR w0 (Wk2 w0 B pb) _ wq,hF,?_⟩;refine Hl O (GW isAgg303 O C0 1 O O) (Hl O (Ch aZ oZ O C0 0 O O) ?_);refine Qb O (PR (.node k t ks xs) _ _ [J k,I t,.slice A ks.length c,.slice D xs.length e] hRw (hG.wrote2 hF.same (by have:=hT.lt;omega) hpN) sX sX) (Ra en_249 O O) ?_;rintro _ w ⟨rfl,hE⟩;have hF:=hF.ext hE;have hB:=hB.ext hE;have hRw:=hRw.off2_ext hE;refine⟨hF,?_⟩;refine Qb O (EQ w B pb 252 #[] en_252 ls _ fs _ (Xw (.node k t ks xs)) hB.tb (nnone_c w B pb ls fs hB.tb) sX sX) (Ic UE O O O O) ?_;rintro _ w ⟨rfl,hT2,hE⟩;have hF:=hF.wrote2 hB hE (by intro z hz;simp only[oQ,List.not_mem_nil,or_false]at hz;rcases hz with rfl|rfl <;> exact⟨.inl rfl,by assumption⟩);have hB:=hB.wrote hT2 hE;refine⟨hF,?_⟩;refine Ec (Ib ?_);refine Bf (Rd (Sg O) ?_);rw[Ni,Jo,if_neg sX,if_neg sX,if_neg sX,if_neg sX];exact⟨O,hB.tb,hF.same⟩
theorem nodes_c(x:Tree):LT x:=Tree.ind (Q:=LT) (λk t ks xs ih=>by
  intro w0 B pb ls fs cs hT hR hG hpN hlf hn hsz hm hlen;have hR0:=hR;obtain⟨A,c,D,e,rfl,-⟩:=hR0.tree_inv;exact KO k t ks xs ih A D c e w0 B pb ls fs hT hG hpN hlf hR hn hsz hm hlen) x
def Il(x:Tree):List Str:=Ni (Fh x)
def Wq(x:Tree):List Int:=Jo (Fh x) 0
theorem CT(x:Tree):(Wq x).length=(Il x).length:=Vu _ 0
theorem Fv{x:Tree}(h:Kd x=true):Af nodeB (Fh x)=true:=Hm (by rw[Fs (Kj h)];exact GV (Kj h))
theorem Qt{x:Tree}(h:Kd x=true):(Il x).length<=2*Wb x:=by
  have h1:=lab_le (Fh x) (Fv h);have h2:=UF (Fh x) (Fv h);have h3:Wb (Fh x)=Wb x:=by rw[Fs (Kj h)];exact (K4 x (Hm (Kj h))).1
  unfold Il;omega
theorem Q7{x:Tree}(h:Kd x=true)(hs:Wb x<=256):Ek (Il x) (Wq x):=GH _ (by have:=Qt h;unfold Il at this;omega)
theorem TB:∀(xs:List Tree),(∀x∈xs,∀s∈Ni x,s.length<=140737488355329)->∀s∈Qh xs,s.length<=140737488355329
  | [],_,s,hs=>by rw[Qh]at hs;cases hs
  | x :: xs, h, s, hs => by
    rw[Qh]at hs;rcases mQ.1 hs with h1|h1
    ·exact h x Da s h1
    exact TB xs (λy hy=>h y (by simp[hy])) s h1
theorem MD:∀(xs:List Tree)(ks:List Str),(∀x∈xs,∀s∈Ni x,s.length<=140737488355329)->(∀k∈ks,k.length<=1073741824)->∀s∈Tf xs ks,s.length<=140737488355329
  | [],_,_,_,s,hs=>by rw[Tf]at hs;cases hs
  | x :: xs, ks, h, hk, s, hs => by
    rw[Tf]at hs;rcases mQ.1 hs with h1|h1
    ·exact h x Da s h1
    rcases oQ.1 h1 with rfl|h2
    ·have:Yd (.node 4 (ks.headD []) [] [])<=1073741824:=by
       rw[H3];cases ks with
       | nil=>simp
       | cons k ks=>exact hk k Da
     have:=M4 _ this;unfold FL;simp only[kQ];omega
    exact MD xs ks.tail (λy hy=>h y (by simp[hy])) (λk hk2=>hk k (List.mem_of_mem_tail hk2)) s h2
theorem lab_lim(x:Tree):Yd x<=1073741824->∀s∈Ni x,s.length<=140737488355329:=Tree.ind (Q:=λx=>Yd x<=1073741824->∀s∈Ni x,s.length<=140737488355329) (λk t ks xs ih hm s hs=>by
  have hm0:=hm;rw[Yd]at hm0;have hx:∀x∈xs,∀s∈Ni x,s.length<=140737488355329:=λx hx=>ih x hx (by have:=Ai hx;omega);rw[Ni]at hs;split at hs
  ·rcases mQ.1 hs with h|h
   ·exact TB xs hx s h
   rw[pQ.1 h];simp
  split at hs
  ·rcases mQ.1 hs with h|h
   ·exact MD xs ks hx (λk hk=>by have:=Ql hk;omega) s h
   rw[pQ.1 h];simp
  rw[pQ.1 hs];have:=M4 _ hm;omega) x
theorem Tb.rows{w0 w:World}{B:Nat}{A:Option Addr}{e c:Nat}{ds:List D}{xs:List Value}{sb:List (Nat × Obj)}(hS:SlB e 1 A ds.length c xs sb)(hq:∀q∈sb,w.heap[q.1]? = some q.2/\B<=q.1)(hB:w0.heap.size<=B)(hr:RepL (Btw w0 w) w ds xs):Rep (Btw w0 w) w (.slice ds) [.slice A ds.length c]:=by
  refine hS.repOf (λq h=>⟨(hq q h).1,?_,Ma (hq q h).1,?_⟩) hr O
  ·have:=(hq q h).2;omega
  obtain⟨cur, he⟩ := hS.typ.2 q h;exact⟨cur,e,by rw[(hq q h).1,he]⟩
theorem MC{S:Nat->Prop}{wx:World}:∀{q:List Str},(∀s∈q,s.length<=9223372036854775807)->RepL S wx (q.map Dq) (q.map λs=>Value.string (bs s))
  | [],_=>RepL.nil_mk
  | s::q,h=>RepL.cons_mk (Rep.lit_mk (v:=I s) (h s Da)) (MC λx hx=>h x (by simp[hx]))
theorem YX(x:Tree)(S:Nat->Prop)(w0:World)(cs:List Value)(hR:Rep S w0 (Zb x) cs)(hG:Gl w0)(hsz:Wb x<=256)(hm:Yd x<=1073741824)(hx:Kd x=true):Calls prog 192 #[.agg cs.toArray] w0 (Td λv w'=>∃A c B e,v=.tuple #[.agg #[.slice A (Il x).length c,.slice B (Wq x).length e],J 0]/\Rep (Btw w0 w') w' (Xd (Il x)) [.slice A (Il x).length c]/\Rep (Btw w0 w') w' (.slice ((Wq x).map Zd)) [.slice B (Wq x).length e]/\Same [] w0 w'):=by
 have hl:cs.length=4:=hR.length.trans (Tc x);have ho:=hR.one_;refine Ga func192 O ntmps192 Fb (Ad _) ?_;have hF:=FR.start w0 [];refine Ja (Ar (v:=.agg (List.toArray cs)) (cs:=(List.toArray cs)) hF O O ?_);rintro b1 w hb1 hF -;refine Od (cs:=#[aQ,aQ]) hF zeroValue255 O ?_;rintro b2 w hb2 hF -;refine Ca (Sc O) (Ea (Ha (Ja (Ka (v:=.agg (List.toArray cs)) (Ya (l:=cs) aZ oZ O hl (hF.cellsAll 1 O)) ?_))));refine Gb hF (Ki (v':=.bool true) (G0 x sX _ _ cs (hF.rep hR) (Hk x sX) (hG.ext hF.same)) (congrArg Value.bool hx)) (Ra CJ O O) ?_;intro w hF;refine Ca (Zj (b:=true) O) (Ea (Gy O (Ja ?_)));refine Od (cs:=#[aQ,aQ]) hF zeroValue279 O ?_;rintro b3 w hb3 hF -;refine Fc (Ka (v:=.agg (List.toArray cs)) (Ya (l:=cs) aZ oZ O hl (hF.cellsAll 2 O)) ?_);have lb3:=hF.lt (i:=0) rfl;have lb2:=hF.lt (i:=1) rfl;have lb1:=hF.lt (i:=2) rfl;refine Cb (KU x sX _ _ cs (hF.rep hR) (Hk x sX) (hG.ext hF.same)) (Ra en_211 O O) ?_;rintro _ w ⟨ct,rfl,hRt,hE⟩;have hlt:ct.length=4:=hRt.length.trans (Tc _);have hot:=hRt.one_;have hgr:=hE.size;have hF:=hF.ext hE;have hTb:Tb w w.heap.size b3 [] []:=⟨by omega,gQ _,none,0,[],none,0,[],hF.heap (i:=0) rfl,SlB.nil _ _,SlB.nil _ _,by simp⟩;have hge3:=hF.ge (i:=0) rfl;refine Cb (nodes_c (Fh x) w w.heap.size b3 [] [] ct hTb (hRt.weaken λb hb _ hw=>by rcases Jk.1 hw with rfl|⟨h1,h2,-⟩;(have:=hb.1;omega);omega) (hG.ext hF.same) (by have:=hF.ge (i:=0) rfl;have:=hG.size;omega) rfl (Fv hx) (BH x sX) (fQ (E6 x) hm) (by have:=Qt hx;unfold Il at this;simp only[List.length_nil];omega)) (Za BN rfl rfl rfl) ?_;obtain⟨B,hBw⟩:∃B,B=w.heap.size:=⟨_,rfl⟩;rw[<-hBw];rintro _ w ⟨rfl,hT2,hE⟩;have hBl:w0.heap.size<=B:=by have:=hF.same.size;omega
 have hb2B:b2<B:=by omega
 have hF:=(hF.drop 1).touch hE (λb hb=>by rcases Jk.1 hb with rfl|⟨-,h2,-⟩;(refine⟨λh=>absurd h sX,λz hz e=>?_⟩;have hd:=(List.pairwise_cons.1 hF.desc).1 z hz;exact hd e);(refine⟨λh=>absurd h sX,λz hz e=>?_⟩;have:z.1<B:=(by rw[hBw];exact Ma (hF.memHeap (List.mem_cons_of_mem _ hz)));omega));simp only[List.nil_append,List.length_nil]at hT2;obtain⟨-,-,P1,q1,sl,P2,q2,sf,hh,hL,hN,hrow⟩:=hT2;refine Ea (Ha (Ja (Ca (Xb Df O) (Ca (Xb We O) (Ka (v:=.slice (P1) ((Il x).length) (q1)) (Jb xQ O (Pb hh 0)) (Ca (Ye dX O) ?_))))));refine Ka (v:=.bool false) (Je (CQ O O) (by have:=Qt hx;omega)) ?_;refine Ea (Gy O (Ja (Ca (Xb Df O) (Ka (Ya (l:=[.slice (P1) ((Il x).length) (q1),.slice (P2) ((Wq x).length) (q2)]) zQ nZ O O (K9 hh)) ?_))));refine Qf hF nZ O O Mh ?_;intro w hF hE;have hrow:=λq hq=>And.intro ((hE.block q.1 (Ma (hrow q hq).1) (by have:=(hrow q hq).2;simp only[pQ];omega)).trans (hrow q hq).1) (hrow q hq).2;refine Ca (Sc O) (Ea ?_);refine Cc (Bc (Sa (Me O (l:=[.slice (P1) ((Il x).length) (q1),.slice (P2) ((Wq x).length) (q2)]) O zQ nZ O (hF.cellsAll 0 O) (v:=J 0) O) ?_));refine⟨P1,q1,P2,q2,O,?_,?_,hF.same⟩;have:=Tb.rows (w0:=w0) (w:=w) (ds:=(Il x).map Dq) (by rw[rQ];exact hL) (λq hq=>hrow q (by simp[hq])) hBl (MC (λs hs=>by have:=lab_lim (Fh x) (fQ (E6 x) hm) s hs;omega));rw[rQ]at this;exact this;have:=Tb.rows (w0:=w0) (w:=w) (ds:=(Wq x).map Zd) (by rw[rQ];exact hN) (λq hq=>hrow q (by simp[hq])) hBl (An (λs hs=>by obtain⟨i,hi,rfl⟩:=List.getElem_of_mem hs;have h1:=(Q7 hx hsz).2.2 i hi hi;have:=CT x;have:=Qt hx;omega));rw[rQ]at this;exact this
end Go.Scarf
