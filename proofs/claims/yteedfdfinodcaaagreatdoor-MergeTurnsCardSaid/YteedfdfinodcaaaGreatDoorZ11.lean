/- A part of the proof. -/
import Derived.Test.YteedfdfinodcaaaGreatDoorZ4
set_option linter.all false
set_option maxHeartbeats 8000000
set_option maxRecDepth 10000
set_option synthInstance.maxHeartbeats 0
set_option synthInstance.maxSize 9999
namespace Go.Scarf
open List renaming length->aL
open Go.RowKit Go.Proofs Go.Proofs.Tryz
variable {A:Option Addr}{N b e:Nat}{cs xs:List Value}{bs_ sb:List (Nat × Obj)}{v:Int}{y:Operand}{S:Nat->Prop}{a:Addr}{l:List Tree}{f:Nat->Value}
def LV(k:Int)(t:Str)(ks:List Str)(xs:List Tree)(ih:∀x∈xs,NodC x)(A D:Option Addr)(c e:Nat)(w0:World)(B pb:Nat)(ls:List Str)(fs:List Int)(hT:Tb w0 B pb ls fs)(hG:Gl w0)(hpN:8<=pb)(hlf:aL ls=aL fs)(hR:Rep (λb=>b∉Wk2 w0 B pb) w0 (Ta (.node k t ks xs)) [J k,I t,.slice A (aL ks) c,.slice D (aL xs) e])(hn:Zb nodeB (.node k t ks xs)=true)(hsz:Ka (.node k t ks xs)<=1000000000)(hm:Kb (.node k t ks xs)<=1073741824)(hlen:aL ls+aL (Yg (.node k t ks xs))<=512):Calls prog 205 #[.pointer (some ⟨pb,0,none⟩),.agg #[J k,I t,.slice A (aL ks) c,.slice D (aL xs) e]] w0 (Qb λv w'=>v=.tuple #[]/\Tb w' B pb (ls++Yg (.node k t ks xs)) (fs++Yl (.node k t ks xs) (aL ls))/\Same (Wk2 w0 B pb) w0 w'):=by
 obtain⟨hn1,hns⟩:=Yc hn;have hsz1:Qa xs+1<=1000000000:=by rw[Ka]at hsz;omega
 have hm1:Qf xs<=1073741824/\Th ks<=1073741824:=by rw[Kb]at hm;omega
 have hlp:=lab_pos<|.node k t ks xs;have hRw:=hR;refine Bc func205 ntmps205 O O ?_;have hB:=TW.start hT;have hF:=FR.start w0<|Wk2 w0 B pb;refine rn 3 ?_;intro b1 w hb1 hF hE;have hnb1:b1≠pb:=by have:=hB.lt;omega
 have hB:=hB.ext hE;have hRw:=hRw.off2_ext hE;refine rn 1 ?_;intro b2 w hb2 hF hE;have hnb2:b2≠pb:=by have:=hB.lt;omega
 have hB:=hB.ext hE;have hRw:=hRw.off2_ext hE;refine rn 3 ?_;have hRw2:=hRw;obtain⟨A_,c_,D_,e_,he_,-,-,hKw,hXw⟩:=hRw2.tree_inv;simp only[List.cons.injEq,Value.slice.injEq,and_true]at he_;obtain⟨-,-,⟨rfl,-,rfl⟩,⟨rfl,-,rfl⟩⟩:=he_;refine rn 13 ⟨λhc0=>?_,λhc0=>?_⟩;refine rn 2<|Ca (v:=.func (.func 240) #[] #[.pointer<|some ⟨b2,0,none⟩,.pointer<|some ⟨b1,0,none⟩]) Mj ?_;have h5:k=5:=qW
 have hl5:aL ls+aL (Wf xs)+1<=512:=by rw[Yg,uQ h5,dQ,List.length_singleton]at hlen;omega
 have hl5:aL ls+aL (Wf xs)<=511:=by_Om
 refine Gc (QW w B pb 240 #[.pointer<|some ⟨b2,0,none⟩,.pointer<|some ⟨b1,0,none⟩] en_240 ls _ fs _ [91] hB.tb (nitems_c k t ks xs A D c e w B pb ls fs hB.tb (hG.wrote2 hF.same wN hpN) hpN hlf ih hns kX kX b2 b1 (hF.heap (i:=0) O) (hF.heap (i:=1) O) qW hXw kX) wX (by rw[dQ,D3];omega)) ?_;rintro _ w ⟨rfl,hT2,hE⟩;have hF:=hF.wrote2 hB hE zN;have hB:=hB.wrote hT2 hE;refine rn 3 ?_;have h5:k=5:=qW
 rw[Yg,Yl,uQ h5,uQ h5,<-sQ,<-sQ];exact⟨O,hB.tb,hF.same⟩;refine rn 7 ⟨λhc1=>?_,λhc1=>?_⟩;refine rn 2<|Ca (v:=.func (.func 241) #[] #[.pointer<|some ⟨b2,0,none⟩,.pointer<|some ⟨b1,0,none⟩]) Mj ?_;have h6:k=6:=qW
 have hl5:aL ls+aL (Le xs ks)+1<=512:=by rw[Yg,tQ kX,uQ h6,dQ,List.length_singleton]at hlen;omega
 refine Gc (QW w B pb 241 #[.pointer<|some ⟨b2,0,none⟩,.pointer<|some ⟨b1,0,none⟩] en_241 ls _ fs _ [123] hB.tb (nkeys_c k t ks xs A D c e w B pb ls fs hB.tb (hG.wrote2 hF.same wN hpN) hpN hlf ih hns kX kX (Xk<|h6▸hn1).2 (λs hs=>by have:=Hi hs;omega) b2 b1 (hF.heap (i:=0) O) (hF.heap (i:=1) O) qW qW hXw hKw kX) wX (by rw[dQ,Eu];omega)) ?_;rintro _ w ⟨rfl,hT2,hE⟩;have hF:=hF.wrote2 hB hE zN;have hB:=hB.wrote hT2 hE;refine rn 3 ?_;have h6:k=6:=qW
 rw[Yg,Yl,tQ kX,uQ h6,tQ kX,uQ h6,<-sQ,<-sQ];exact⟨O,hB.tb,hF.same⟩;refine Yb (.of []) (.free 0<|.free 1<|.act 2<|.act 3 .nil) hF ?_;intro w hF hE;have hB:=hB.ext hE;have hRw:=hRw.off2_ext hE;refine⟨λwq=>FR w0 (Wk2 w0 B pb) _ wq,hF,?_⟩;refine rn 2 ?_;refine Ie (XV (.node k t ks xs) _ _ [J k,I t,.slice A (aL ks) c,.slice D (aL xs) e] hRw (hG.wrote2 hF.same wN hpN) kX kX) ?_;intro w hF hE;have hB:=hB.ext hE;have hRw:=hRw.off2_ext hE;refine Bf (QW w B pb 245 #[] en_245 ls _ fs _ (Ru<|.node k t ks xs) hB.tb (nnone_c w B pb ls fs hB.tb) kX kX) ?_;rintro _ w ⟨rfl,hT2,hE⟩;have hF:=hF.wrote2 hB hE zN;have hB:=hB.wrote hT2 hE;refine⟨hF,?_⟩;refine rn 3 ?_;rw[Yg,Yl,tQ kX,tQ kX,tQ kX,tQ kX];exact⟨O,hB.tb,hF.same⟩
def nodes_c(x:Tree):NodC x:=Tree.ind (Q:=NodC) (λk t ks xs ih=>by
  intro w0 B pb ls fs cs hT hR hG hpN hlf hn hsz hm hlen;have hR0:=hR;obtain⟨A,c,D,e,rfl,-⟩:=hR0.tree_inv;exact LV k t ks xs ih A D c e w0 B pb ls fs hT hG hpN hlf hR hn hsz hm hlen) x
def Dl(x:Tree):List Str:=Yg (Ff x)
def Su(x:Tree):List Int:=Yl (Ff x) 0
def treeF_len(x:Tree):aL (Su x)=aL (Dl x):=Gt _ 0
theorem O1{x:Tree}(h:Ob x=true):Zb nodeB (Ff x)=true:=by grind [Ei,Xq,Gj,open_sort]
theorem Ts{x:Tree}(h:Ob x=true):aL (Dl x)<=2*Ka x:=by grind [lab_le,Ff,O1,PI,Ka,Xq,Gj,An,Ei,Dl]
def N9{x:Tree}(h:Ob x=true)(hs:Ka x<=256):Ki (Dl x) (Su x):=DO _ (by have:=Ts h;unfold Dl at this;omega)
theorem NF:∀(xs:List Tree),(∀x∈xs,∀s∈Yg x,aL s<=140737488355329)->∀s∈Wf xs,aL s<=140737488355329
  | [],_,s,hs=>by rw[Wf]at hs;cases hs
  | x :: xs, h, s, hs => by
    rw[Wf]at hs;rcases mQ.1 hs with h1|h1
    ·exact h x Da s h1
    exact NF xs (λy hy=>h y zV) s h1
theorem WF:∀(xs:List Tree)(ks:List Str),(∀x∈xs,∀s∈Yg x,aL s<=140737488355329)->(∀k∈ks,aL k<=1073741824)->∀s∈Le xs ks,aL s<=140737488355329
  | [],_,_,_,s,hs=>by rw[Le]at hs;cases hs
  | x :: xs, ks, h, hk, s, hs => by
    rw[Le]at hs;rcases mQ.1 hs with h1|h1
    ·exact h x Da s h1
    rcases oQ.1 h1 with rfl|h2
    ·have:Kb (.node 4 (ks.headD []) [] [])<=1073741824:=by
       rw[C4];cases ks with
       | nil=>simp
       | cons k ks=>exact hk k Da
     have:=R3 _ this;unfold ZS;simp only[kQ];omega
    exact WF xs ks.tail (λy hy=>h y zV) (λk hk2=>hk k<|List.mem_of_mem_tail hk2) s h2
def lab_lim(x:Tree):Kb x<=1073741824->∀s∈Yg x,aL s<=140737488355329:=Tree.ind (Q:=λx=>Kb x<=1073741824->∀s∈Yg x,aL s<=140737488355329) (λk t ks xs ih hm s hs=>by
  have hm0:=hm;rw[Kb]at hm0;have hx:∀x∈xs,∀s∈Yg x,aL s<=140737488355329:=λx hx=>ih x hx (by have:=Vd hx;omega);rw[Yg]at hs;split at hs
  ·rcases mQ.1 hs with h|h
   ·exact NF xs hx s h
   rw[pQ.1 h];simp
  split at hs
  ·rcases mQ.1 hs with h|h
   ·exact WF xs ks hx (λk hk=>by have:=Hi hk;omega) s h
   rw[pQ.1 h];simp
  rw[pQ.1 hs];have:=R3 _ hm;omega) x
theorem Tb.rows{w0 w:World}{B:Nat}{c:Nat}{ds:List D}(hS:SlB e 1 A (aL ds) c xs sb)(hq:∀q∈sb,w.heap[q.1]? = some q.2/\B<=q.1)(hB:w0.heap.size<=B)(hr:RepL (Btw w0 w) w ds xs):Rep (Btw w0 w) w (.slice ds) [.slice A (aL ds) c]:=by
  refine hS.repOf (λq h=>⟨(hq q h).1,?_,Ia (hq q h).1,?_⟩) hr O
  ·grind
  obtain⟨cur, he⟩ := hS.typ.2 q h;exact⟨cur,e,by rw[(hq q h).1,he]⟩
theorem U3{S:Nat->Prop}{wx:World}:∀{q:List Str},(∀s∈q,aL s<=9223372036854775807)->RepL S wx (q.map Ai) (q.map λs=>Value.string (bs s))
  | [],_=>RepL.nil_mk
  | s::q,h=>RepL.cons_mk (Rep.lit_mk (v:=I s)<|h s Da)<|U3 λx hx=>h x jV
def from_yes(x:Tree)(S:Nat->Prop)(w0:World)(cs:List Value)(hR:Rep S w0 (Ta x) cs)(hG:Gl w0)(hsz:Ka x<=256)(hm:Kb x<=1073741824)(hx:Ob x=true):Calls prog 174 #[.agg cs.toArray] w0 (Qb λv w'=>∃A c B e,v=.tuple #[.agg #[.slice A (aL (Dl x)) c,.slice B (aL (Su x)) e],J 0]/\Rep (Btw w0 w') w' (Ya (Dl x)) [.slice A (aL (Dl x)) c]/\Rep (Btw w0 w') w' (.slice ((Su x).map Oe)) [.slice B (aL (Su x)) e]/\Same [] w0 w'):=by
 have hl:aL cs=4:=hR.length.trans<|Eb x;have ho:=hR.one_;refine Ga func174 ntmps174 ?_;intro hF;refine rn 2<|Oi (v:=.agg<|List.toArray cs) (cs:=(List.toArray cs)) hF O O ?_;rintro b1 w hb1 hF -;refine rn 1 ?_;rintro b2 w hb2 hF -;refine rn 6<|Ca (v:=.agg<|List.toArray cs) (Pa (l:=cs) oZ tZ O hl<|hF.cellsAll 1 O) ?_;refine Sa (Mk (v':=.bool true) (Bu x kX _ _ cs (hF.rep hR) (Ef x kX)<|hG.ext hF.same)<|xQ Value.bool hx) ?_;rintro w hF -;refine rn 9 ?_;rintro b3 w hb3 hF -;refine rn 4<|Ca (v:=.agg<|List.toArray cs) (Pa (l:=cs) oZ tZ O hl<|hF.cellsAll 2 O) ?_;have lb3:=hF.lt (i:=0) rfl;have lb2:=hF.lt (i:=1) rfl;have lb1:=hF.lt (i:=2) rfl;refine Gc (JG x kX _ _ cs (hF.rep hR) (Ef x kX)<|hG.ext hF.same) ?_;rintro _ w ⟨ct,rfl,hRt,hE⟩;have hlt:aL ct=4:=hRt.length.trans<|Eb _;have hot:=hRt.one_;have hgr:=hE.size;have hF:=hF.ext hE;have hTb:Tb w w.heap.size b3 [] []:=⟨by_Om,gQ _,none,0,[],none,0,[],hF.heap (i:=0) rfl,SlB.nil _ _,SlB.nil _ _,Da⟩;have hge3:=hF.ge (i:=0) rfl;refine Qd (nodes_c (Ff x) w w.heap.size b3 [] [] ct hTb (hRt.weaken λb hb _ hw=>by rcases Si.1 hw with rfl|⟨h1,h2,-⟩;(have:=hb.1;omega);omega) (hG.ext hF.same) (by have:=hF.ge (i:=0) rfl;have:=hG.size;omega) rfl (O1 hx) (G6 x kX) (fQ (Zq x) hm) (by have:=Ts hx;unfold Dl at this;simp only[aZ];omega)) (Li en_205 rfl rfl rfl) ?_;obtain⟨B,hBw⟩:∃B,B=w.heap.size:=⟨_,rfl⟩;rw[<-hBw];rintro _ w ⟨rfl,hT2,hE⟩;have hBl:w0.heap.size<=B:=by have:=hF.same.size;omega
 have hb2B:b2<B:=by_Om
 have hF:=(hF.drop 1).touch hE (λb hb=>by rcases Si.1 hb with rfl|⟨-,h2,-⟩;(refine⟨λh=>absurd h kX,λz hz e=>?_⟩;have hd:=(List.pairwise_cons.1 hF.desc).1 z hz;exact hd e);(refine⟨λh=>absurd h kX,λz hz e=>?_⟩;have:z.1<B:=(by rw[hBw];exact Ia<|hF.memHeap<|gZ _ hz);omega));simp only[lZ,aZ]at hT2;obtain⟨-,-,P1,q1,sl,P2,q2,sf,hh,hL,hN,hrow⟩:=hT2;refine rn 7<|Ca (v:=.slice (P1) (aL (Dl x)) q1) (Ma nZ<|Ua hh 0) ?_;refine rn 1 ?_;refine Ca (v:=.bool false) (Ed TB (by have:=Ts hx;omega)) ?_;refine rn 8<|Ca (Pa (l:=[.slice (P1) (aL (Dl x)) q1,.slice (P2) (aL (Su x)) q2]) isAgg223 sizeOf223 O O<|Y_ hh) ?_;refine rn 1 ?_;intro w hF hE;have hrow:=λq hq=>And.intro ((hE.block q.1 (Ia (hrow q hq).1) (by have:=(hrow q hq).2;simp only[pQ];omega)).trans (hrow q hq).1) (hrow q hq).2;refine rn 4 ⟨P1,q1,P2,q2,O,?_,?_,hF.same⟩;have:=Tb.rows (w0:=w0) (w:=w) (ds:=(Dl x).map Ai) (by rw[rQ];exact hL) (λq hq=>hrow q jB) hBl<|U3 (λs hs=>by have:=lab_lim (Ff x) (fQ (Zq x) hm) s hs;omega);rw[rQ]at this;exact this;have:=Tb.rows (w0:=w0) (w:=w) (ds:=(Su x).map Oe) (by rw[rQ];exact hN) (λq hq=>hrow q jB) hBl<|Is (λs hs=>by obtain⟨i,hi,rfl⟩:=List.getElem_of_mem hs;have h1:=(N9 hx hsz).2.2 i hi hi;have:=treeF_len x;have:=Ts hx;omega);rw[rQ]at this;exact this
def Ev(n:Int):Int × Int->List (Int × Int)->Bool
  | _,[]=>true
  | q,z::m=>!(decide (z.1<=q.1) || (decide (z.2<=q.2) || decide (n<=z.1)))&&Ev n z m
def Ay(n:Int)(m:List (Int × Int)):Bool:=Ev n (-1,-1) m&&(decide (0<=n)&&decide (n<=64))
def Jx{n x y:Int}{m:List (Int × Int)}{j:Nat}(h:j<aL m):Ev n (x,y) (m.drop j)=(!(decide (m[j].1<=x) || (decide (m[j].2<=y) || decide (n<=m[j].1)))&&Ev n (m[j].1,m[j].2) (m.drop (j+1))):=by
  rw[List.drop_eq_getElem_cons h,Ev]
theorem XK(S:Nat->Prop)(w0:World)(n:Int)(m:List (Int × Int))(A:Option Addr)(c:Nat)(hX:Rep S w0 (R5 m) [.slice A (aL m) c]):Calls prog 145 #[J n,.slice A (aL m) c] w0 (Qb λv w'=>v=.bool (Ay n m)/\Same [] w0 w'):=by
 have hXl:=hX.pairs_len;refine Ga func145 ntmps145 ?_;intro hF;refine rn 7<|Ca (w':=w0) (v:=.agg #[J<|(-1),J<|(-1)]) Gb ?_;refine rn 1 ?_;rintro b1 w hb1 hF -;refine rn 11<|Wa (λμ σ w=>∃(j:Nat),∃(x:Int),∃(y:Int),μ=aL m-j/\(j<=aL m)/\(Ev n (-1,-1) m=Ev n (x,y) (m.drop j))/\AllEq σ [(0,J n),(5,.pointer<|some ⟨b1,0,none⟩),(9,.slice A (aL m) c),(10,J<|(aL m:Nat)),(11,J<|(j:Int))]/\FR w0 [] [(b1,.cells #[J x,J y] 191)] w) _ ⟨0,-1,-1,O,kX,O,Ib,hF⟩ ?_;rintro μ σ w ⟨j,x,y,rfl,hj,hr,hzz,hF⟩;refine Tf hzz 7 ⟨λhc0=>?_,λhc0=>?_⟩;refine rn 6 ?_;obtain⟨ad0,hA0,hk0,hx0⟩:=hX.pair_elem (i:=j) kX;refine Ca (v:=.pointer<|some<|ad0.add<|j*2) (Ea (i:=(j:Int)) H9 hA0)<|Ca (v:=.agg #[J<|(m[j]).1,J<|(m[j]).2]) (Pa (l:=L0 m[j]) isAgg191 sizeOf191 O O<|hF.cells0 hk0) ?_;refine rn 1 ?_;rintro b2 w hb2 hF -;refine rn 12 ⟨λhg1=>?_,λhg1=>?_⟩;refine rn 21 ?_;exact⟨xQ Value.bool kU,hF.same⟩;refine rn 8 ⟨λhg2=>?_,λhg2=>?_⟩;refine rn 14 ?_;exact⟨xQ Value.bool kU,hF.same⟩;refine rn 8 ⟨λhc1=>?_,λhc1=>?_⟩;refine rn 6 ?_;exact⟨xQ Value.bool kU,hF.same⟩;refine rn 5 ?_;rintro w hF -;refine rn 4<|Kc (Ce<|((j+1:Nat):Int)) ?_;refine rn 2 ?_;refine Ja ⟨_,?_,j+1,m[j].1,m[j].2,O,kX,by rw[hr,Jx kX];simp_all,Ib,hF.su⟩;omega;refine rn 8 ⟨λhg3=>?_,λhg3=>?_⟩;refine rn 7 ?_;have ej:j=aL m:=by_Om
 exact⟨xQ Value.bool (by rw[Ay,hr,ej,List.drop_length,Ev];simp_all <;> omega),hF.same⟩;refine rn 7 ?_;have ej:j=aL m:=by_Om
 exact⟨xQ Value.bool (by rw[Ay,hr,ej,List.drop_length,Ev];simp_all <;> omega),hF.same⟩
abbrev TreeN:=List Str × List Int
structure GridC (w:World) (pb n m:Nat) (T1 T2:TypeId) (rb:Nat->Nat) (p:Nat->Nat->Int):Prop where
  top:∃cur,w.heap[pb]? = some (.cells cur T1)/\∀i,i<n->cur[i]? = some (.slice (some ⟨rb i,0,none⟩) m m)
  row:∀i,i<n->w.heap[rb i]? = some (.cells (Dd m (p i)) T2)
  inj:∀i j,i<n->j<n->rb i=rb j->i=j
  ne:∀i,i<n->rb i≠pb
section
variable {w w':World}{pb n m:Nat}{T1 T2:TypeId}{rb:Nat->Nat}{p:Nat->Nat->Int}
theorem GridC.rowCell(h:GridC w pb n m T1 T2 rb p){i:Nat}(hi:i<n):w.cell? ⟨pb,i,none⟩=some (.slice (some ⟨rb i,0,none⟩) m m):=by
  obtain⟨cur,h1,h2⟩:=h.top;grind [Ua]
def GridC.cell(h:GridC w pb n m T1 T2 rb p){i j:Nat}(hi:i<n)(hj:j<m):w.cell? ⟨rb i,j,none⟩=some (J (p i j)):=by rw[Ua<|h.row i hi,Pm hj]
def GridC.keep(h:GridC w pb n m T1 T2 rb p){E:List Nat}(hs:Same E w w')(h1:pb∉E)(h2:∀i,i<n->rb i∉E):GridC w' pb n m T1 T2 rb p:=by
  obtain⟨cur,h3,h4⟩:=h.top;exact⟨⟨cur,(hs.block _ (Ia h3) h1).trans h3,h4⟩,λi hi=>(hs.block _ (Ia<|h.row i hi)<|h2 i hi).trans (h.row i hi),h.inj,h.ne⟩
theorem GridC.put(h:GridC w pb n m T1 T2 rb p){i j:Nat}(hi:i<n)(hs:Same [rb i] w w')(hn:w'.heap[rb i]? = some (.cells (Dd m (Rh (p i) j v)) T2)):GridC w' pb n m T1 T2 rb (Mn p i j v):=by
  obtain⟨cur,h3,h4⟩:=h.top;refine⟨⟨cur,(hs.block _ (Ia h3) kK).trans h3,h4⟩,λa ha=>?_,h.inj,h.ne⟩;by_cases e:a=i
  ·grind [Mn]
  have : w'.heap[rb a]? = w.heap[rb a]? := hs.block _ (Ia<|h.row a ha) (by simpa using λq => e (h.inj a i ha hi q));rw[this,h.row a ha,Mn,tQ e]
end
structure Ck (w:World) (N0 cb pb rb:Nat) (la lb:List TreeN) (Aa Ab:Option Addr) (k1 k2 k3 k4:Nat) (q r:Nat->Nat) (P R:Nat->Nat->Int):Prop where
  cell:w.heap[cb]? = some (.cells #[.slice Aa (aL la) k1,.slice Ab (aL lb) k2,W pb (aL la+1) k3,W rb (aL la+1) k4] 188)
  La:Rep (λb=>b<N0) w (.slice (la.map Bo)) [.slice Aa (aL la) k1]
  Lb:Rep (λb=>b<N0) w (.slice (lb.map Bo)) [.slice Ab (aL lb) k2]
  pair:GridC w pb (aL la+1) (aL lb+1) 42 3 q P
  rest:GridC w rb (aL la+1) (aL lb+1) 42 3 r R
  lo:N0<=cb/\N0<=pb/\N0<=rb/\(∀i,i<aL la+1->N0<=q i)/\∀i,i<aL la+1->N0<=r i
  nq:∀i,i<aL la+1->q i≠cb/\q i≠pb/\q i≠rb
  nr:∀i,i<aL la+1->r i≠cb/\r i≠pb/\r i≠rb
  ne:∀i j,i<aL la+1->j<aL la+1->q i≠r j
section
variable {w w':World}{N0 cb pb rb:Nat}{la lb:List TreeN}{Aa Ab:Option Addr}{k1 k2 k3 k4:Nat}{q r:Nat->Nat}{P R:Nat->Nat->Int}
def Ck.keep(h:Ck w N0 cb pb rb la lb Aa Ab k1 k2 k3 k4 q r P R){E:List Nat}(hs:Same E w w')(he:∀b∈E,N0<=b)(h1:cb∉E)(h2:pb∉E)(h3:rb∉E)(h4:∀i,i<aL la+1->q i∉E)(h5:∀i,i<aL la+1->r i∉E):Ck w' N0 cb pb rb la lb Aa Ab k1 k2 k3 k4 q r P R :=
  have ns:∀b∈E,¬b<N0:=λb hb=>Nat.not_lt.2 (he b hb)
  ⟨(hs.block _ (Ia h.cell) h1).trans h.cell,h.La.same hs ns,h.Lb.same hs ns,h.pair.keep hs h2 h4,h.rest.keep hs h3 h5,h.lo,h.nq,h.nr,h.ne⟩
def Ck.ext(h:Ck w N0 cb pb rb la lb Aa Ab k1 k2 k3 k4 q r P R)(hs:Same [] w w'):Ck w' N0 cb pb rb la lb Aa Ab k1 k2 k3 k4 q r P R:=h.keep hs Da Da Da Da Da Da
def Ck.putP(h:Ck w N0 cb pb rb la lb Aa Ab k1 k2 k3 k4 q r P R){i j:Nat}(hi:i<aL la+1)(hs:Same [q i] w w')(hn:w'.heap[q i]? = some (.cells (Dd (aL lb+1) (Rh (P i) j v)) 3)):Ck w' N0 cb pb rb la lb Aa Ab k1 k2 k3 k4 q r (Mn P i j v) R:=by
  have ns:∀b∈[q i],¬b<N0:=λb hb=>by obtain rfl:=pQ.1 hb;exact Nat.not_lt.2<|h.lo.2.2.2.1 i hi
  have hq:=h.nq i hi;exact⟨(hs.block _ (Ia h.cell) (by simpa using λe=>hq.1 e.symm)).trans h.cell,h.La.same hs ns,h.Lb.same hs ns,h.pair.put hi hs hn,h.rest.keep hs (by simpa using λe=>hq.2.2 e.symm) (λa ha=>by simpa using λe=>h.ne i a hi ha e.symm),h.lo,h.nq,h.nr,h.ne⟩
def Ck.putR(h:Ck w N0 cb pb rb la lb Aa Ab k1 k2 k3 k4 q r P R){i j:Nat}(hi:i<aL la+1)(hs:Same [r i] w w')(hn:w'.heap[r i]? = some (.cells (Dd (aL lb+1) (Rh (R i) j v)) 3)):Ck w' N0 cb pb rb la lb Aa Ab k1 k2 k3 k4 q r P (Mn R i j v):=by
  have ns:∀b∈[r i],¬b<N0:=λb hb=>by obtain rfl:=pQ.1 hb;exact Nat.not_lt.2<|h.lo.2.2.2.2 i hi
  have hq:=h.nr i hi;exact⟨(hs.block _ (Ia h.cell) (by simpa using λe=>hq.1 e.symm)).trans h.cell,h.La.same hs ns,h.Lb.same hs ns,h.pair.keep hs (by simpa using λe=>hq.2.1 e.symm) (λa ha=>by simpa using λe=>h.ne a i ha hi e),h.rest.put hi hs hn,h.lo,h.nq,h.nr,h.ne⟩
def Ck.c0(h:Ck w N0 cb pb rb la lb Aa Ab k1 k2 k3 k4 q r P R):w.cell? ⟨cb,0,none⟩=some (.slice Aa (aL la) k1):=by
  rw[Ua h.cell];rfl
def Ck.c1(h:Ck w N0 cb pb rb la lb Aa Ab k1 k2 k3 k4 q r P R):w.cell? ⟨cb,1,none⟩=some (.slice Ab (aL lb) k2):=by
  rw[Ua h.cell];rfl
def Ck.c2(h:Ck w N0 cb pb rb la lb Aa Ab k1 k2 k3 k4 q r P R):w.cell? ⟨cb,2,none⟩=some (W pb (aL la+1) k3):=by
  rw[Ua h.cell];rfl
def Ck.c3(h:Ck w N0 cb pb rb la lb Aa Ab k1 k2 k3 k4 q r P R):w.cell? ⟨cb,3,none⟩=some (W rb (aL la+1) k4):=by
  rw[Ua h.cell];rfl
end
section
variable {Pg:Program}{R:Exit->Act->World->Prop}{n:Nat}{k:Kt}{s:Nat->Value}{w:World}{ops:List Oper}{zs:List Nat}{C:World->Prop}{order:Ord}{i:Nat}
variable {ty:TypeId}{pos:String}{aft:Array Edge}{g:Option (Nat × Bool)}{w0:World}{Ds:List Nat}{bs:List (Nat × Obj)}
theorem D9{t T:TypeId}{x:Operand}{j m:Nat}{f:Nat->Int}(hi:ops[i]? = some ⟨none,.store t x y,ty,pos,aft,g⟩)(hF:FR w0 Ds bs w)(hs:∀w,(sizeOf t).run Pg w=.ok 1 w)
    (hx:ev n s x=.pointer (some ⟨b,j,none⟩)) (hy:ev n s y=J v) (hh:w.heap[b]? = some (.cells (Dd m f) T)) (hj:j<m) (hD:b∈Ds\/w0.heap.size<=b) (hn:∀p∈bs,p.1≠b)
    (h:∀w',FR w0 Ds bs w'->Same [b] w w'->w'.heap[b]? = some (.cells (Dd m (Rh f j v)) T)->Dg Pg R n ops k zs order (λ_=>True) s w')
    (hw:Oa ops n s ⟨none,.store t x y,ty,pos,aft,g⟩=true:=by rfl) (hz:zs.contains i=true:=by rfl):Dg Pg R n ops k zs (.act i order) C s w:=by
  have hsp:=Ah b j (fz:=(0,0)) [J v] 0 w (Dd m f) hh;rw[Nat.add_zero,Gg]at hsp;refine TJ hi (Ix (l:=[J v]) hs hx hy O Io λi hi=>?_) (h (putCells w ⟨b,j,none⟩ 0 [J v]) (hF.touch hsp.2 λb' hb=>?_) hsp.2 hsp.1) hw hz
  ·obtain rfl : i = 0 := by simp at hi;omega
   rw[Wo,Ua hh];exact⟨⟨_,Pm hj⟩,Nh hh⟩
  grind
theorem x_min3{P:Program}{w:World}{ρ:Operand->Value}{dst:Option Nat}{x z:Operand}{ats:Array TypeId}{kk:IntKind}{a b c:Int}(hx:ρ x=.int kk a)(hy:ρ y=.int kk b)(hz:ρ z=.int kk c):(execOp ρ ⟨dst,.call ⟨.builtin .min,#[x,y,z],ats⟩,ty,pos,aft,g⟩).run P w=.ok (.value (.int kk (min (min a b) c))) w:=by
  have e:∀a b:Int,(if b<a then b else a)=min a b:=qK
  simp[execOp,resolve,invoke,builtin,hx,hy,hz,Builtin.min_,Builtin.min2,go_sem,e,Int.min_assoc]
end
def BI(w0:World)(N0 cb pb rb:Nat)(la lb:List TreeN)(Aa Ab:Option Addr)(k1 k2 k3 k4:Nat)(q r:Nat->Nat)(P R:Nat->Nat->Int)(hK:Ck w0 N0 cb pb rb la lb Aa Ab k1 k2 k3 k4 q r P R)(i j:Nat)(hll:aL la<=64/\aL lb<=64)(hi:i<aL la)(hj:j<aL lb)(hP:(0<=P i j/\P i j<=1000000))(hR:(0<=R (i+1) (j+1)/\R (i+1) (j+1)<=1000000)):Calls prog 143 #[.pointer (some ⟨cb,0,none⟩),J ((i:Nat):Int),J ((j:Nat):Int)] w0 (Qb λv w'=>v=J (P i j+R (i+1) (j+1))/\Same [] w0 w'):=by
 have hk3:=hK.pair;refine Ga func143 ntmps143 ?_;intro hF;refine rn 6<|Yb (.of []) (bQ [0,1,2,3,4,5,6,7,8,9,10,11,12,13,14,15,16,17,18,19,20,21,22,23] .nil) hF ?_;intro w hF hE;have hK:=hK.ext hE;refine⟨λwq=>FR w0 [] _ wq/\Ck wq N0 cb pb rb la lb Aa Ab k1 k2 k3 k4 q r P R,⟨hF,hK⟩,?_⟩;refine rn 3 ?_;refine Fa O (v:=W pb (aL la+1) k3) (λw hC=>Ma mZ hC.2.c2)<|rn 1 ?_;refine Fa O (v:=.pointer<|some ⟨pb,i,none⟩) (λw hC=>Va (i:=((i:Nat):Int)) (i) Cj O O kX kX kX)<|Fa O (v:=.slice (some ⟨q i,0,none⟩) (aL lb+1)<|aL lb+1) (λw hC=>Ma rZ<|hC.2.pair.rowCell kX) ?_;refine rn 1 ?_;refine Fa O (v:=.pointer<|some ⟨q i,j,none⟩) (λw hC=>Va (i:=((j:Nat):Int)) (j) Se O O kX kX kX)<|Fa O (v:=J<|P (i) j) (λw hC=>Ma pZ<|hC.2.pair.cell kX kX) ?_;refine rn 3 ?_;refine Fa O (v:=W rb (aL la+1) k4) (λw hC=>Ma mZ hC.2.c3)<|rn 1 ?_;refine Dv O (Ce<|((i+1:Nat):Int))<|Fa O (v:=.pointer<|some ⟨rb,i+1,none⟩) (λw hC=>Va (i:=((i+1:Nat):Int)) (i+1) Cj O O kX kX kX)<|Fa O (v:=.slice (some ⟨r<|i+1,0,none⟩) (aL lb+1)<|aL lb+1) (λw hC=>Ma rZ<|hC.2.rest.rowCell kX) ?_;refine rn 1 ?_;refine Dv O (Ce<|((j+1:Nat):Int))<|Fa O (v:=.pointer<|some ⟨r<|i+1,j+1,none⟩) (λw hC=>Va (i:=((j+1:Nat):Int)) (j+1) Se O O kX kX kX)<|Fa O (v:=J<|R (i+1)<|j+1) (λw hC=>Ma pZ<|hC.2.rest.cell kX kX)<|Dv O (Ce<|P (i) (j)+R (i+1) (j+1)) ?_;refine rn 4 ?_;exact⟨O,hF.same⟩
def Y0{w0:World}(N0 cb pb rb:Nat)(la lb:List TreeN)(Aa Ab:Option Addr)(k1 k2 k3 k4:Nat)(q r:Nat->Nat)(P R:Nat->Nat->Int)(hK:Ck w0 N0 cb pb rb la lb Aa Ab k1 k2 k3 k4 q r P R)(i j:Nat)(hll:aL la<=64/\aL lb<=64)(hla:∀i (h:i<aL la),aL la[i].1<=512)(hR:(0<=R (i+1) j/\R (i+1) j<=1000000))(hi:i<aL la:=by omega)(hj:j<=aL lb:=by omega):Calls prog 144 #[.pointer (some ⟨cb,0,none⟩),J ((i:Nat):Int),J ((j:Nat):Int)] w0 (Qb λv w'=>v=J ((aL la[i].1:Int)+R (i+1) j)/\Same [] w0 w'):=by
 have hLa0:=hK.La;refine Ga func144 ntmps144 ?_;intro hF;refine rn 6<|Yb (.of []) (bQ [0,1,2,3,4,5,6,7,8,9,10,11,12,13,14,15,16,17,18,19,20,21] .nil) hF ?_;intro w hF hE;have hK:=hK.ext hE;refine⟨λwq=>FR w0 [] _ wq/\Ck wq N0 cb pb rb la lb Aa Ab k1 k2 k3 k4 q r P R,⟨hF,hK⟩,?_⟩;refine rn 3 ?_;refine Fa O (v:=.slice Aa (aL la) k1) (λw hC=>Ma isAgg182 hC.2.c0)<|rn 1 ?_;obtain⟨ad0,P0,p0,Q0,q0,hA0,hk0,hx0,hy0⟩:=hLa0.node_elem (i:=i) kX;refine Fa O (v:=.pointer<|some<|ad0.add<|i*2) (λw hC=>Ea (i:=(i:Nat)) H5 hA0)<|Fa O (v:=.pointer<|some<|(ad0.add<|i*2).add 0) (λw hC=>Oc (a:=ad0.add<|i*2) V9)<|Fa O (v:=.slice (P0) (aL (la[i]).1) p0) (λw hC=>Ma nZ<|hC.1.cell0<|hk0 0 Up) ?_;refine rn 4 ?_;refine Fa O (v:=W rb (aL la+1) k4) (λw hC=>Ma mZ hC.2.c3)<|rn 1 ?_;refine Dv O (Ce<|((i+1:Nat):Int))<|Fa O (v:=.pointer<|some ⟨rb,i+1,none⟩) (λw hC=>Va (i:=((i+1:Nat):Int)) (i+1) Cj O O kX kX kX)<|Fa O (v:=.slice (some ⟨r<|i+1,0,none⟩) (aL lb+1)<|aL lb+1) (λw hC=>Ma rZ<|hC.2.rest.rowCell kX) ?_;refine rn 1 ?_;refine Fa O (v:=.pointer<|some ⟨r<|i+1,j,none⟩) (λw hC=>Va (i:=((j:Nat):Int)) (j) Se O O kX kX kX)<|Fa O (v:=J<|R (i+1) j) (λw hC=>Ma pZ<|hC.2.rest.cell kX kX) ?_;refine Fa O (v:=J<|(aL (la[i]).1:Int)+R (i+1) (j)) (λw hC=>Ku O O<|Od O (by have:=hla i hi;omega) (by have:=hla i hi;omega)) ?_;refine rn 4 ?_;exact⟨O,hF.same⟩
def EH(w0:World)(N0 cb pb rb:Nat)(la lb:List TreeN)(Aa Ab:Option Addr)(k1 k2 k3 k4:Nat)(q r:Nat->Nat)(P R:Nat->Nat->Int)(hK:Ck w0 N0 cb pb rb la lb Aa Ab k1 k2 k3 k4 q r P R)(i j:Nat)(hll:aL la<=64/\aL lb<=64)(hi:i<=aL la)(hj:j<aL lb)(hlb:∀j (h:j<aL lb),aL lb[j].1<=512)(hR:(0<=R i (j+1)/\R i (j+1)<=1000000)):Calls prog 206 #[.pointer (some ⟨cb,0,none⟩),J ((i:Nat):Int),J ((j:Nat):Int)] w0 (Qb λv w'=>v=J ((aL lb[j].1:Int)+R i (j+1))/\Same [] w0 w'):=by
 have hLb0:=hK.Lb;refine Ga func206 ntmps206 ?_;intro hF;refine rn 6<|Yb (.of []) (bQ [0,1,2,3,4,5,6,7,8,9,10,11,12,13,14,15,16,17,18,19,20,21] .nil) hF ?_;intro w hF hE;have hK:=hK.ext hE;refine⟨λwq=>FR w0 [] _ wq/\Ck wq N0 cb pb rb la lb Aa Ab k1 k2 k3 k4 q r P R,⟨hF,hK⟩,?_⟩;refine rn 3 ?_;refine Fa O (v:=.slice Ab (aL lb) k2) (λw hC=>Ma isAgg182 hC.2.c1)<|rn 1 ?_;obtain⟨ad0,P0,p0,Q0,q0,hA0,hk0,hx0,hy0⟩:=hLb0.node_elem (i:=j) kX;refine Fa O (v:=.pointer<|some<|ad0.add<|j*2) (λw hC=>Ea (i:=(j:Nat)) H5 hA0)<|Fa O (v:=.pointer<|some<|(ad0.add<|j*2).add 0) (λw hC=>Oc (a:=ad0.add<|j*2) V9)<|Fa O (v:=.slice (P0) (aL (lb[j]).1) p0) (λw hC=>Ma nZ<|hC.1.cell0<|hk0 0 Up) ?_;refine rn 4 ?_;refine Fa O (v:=W rb (aL la+1) k4) (λw hC=>Ma mZ hC.2.c3)<|rn 1 ?_;refine Fa O (v:=.pointer<|some ⟨rb,i,none⟩) (λw hC=>Va (i:=((i:Nat):Int)) (i) Cj O O kX kX kX)<|Fa O (v:=.slice (some ⟨r i,0,none⟩) (aL lb+1)<|aL lb+1) (λw hC=>Ma rZ<|hC.2.rest.rowCell kX) ?_;refine rn 1 ?_;refine Dv O (Ce<|((j+1:Nat):Int))<|Fa O (v:=.pointer<|some ⟨r i,j+1,none⟩) (λw hC=>Va (i:=((j+1:Nat):Int)) (j+1) Se O O kX kX kX)<|Fa O (v:=J<|R (i)<|j+1) (λw hC=>Ma pZ<|hC.2.rest.cell kX kX) ?_;refine Fa O (v:=J<|(aL (lb[j]).1:Int)+R (i) (j+1)) (λw hC=>Ku O O<|Od O (by have:=hlb j hj;omega) (by have:=hlb j hj;omega)) ?_;refine rn 4 ?_;exact⟨O,hF.same⟩
abbrev Eo(x:TreeN):Nat:=aL x.1
abbrev pN(x y:TreeN):Nat:=F0 x.1 x.2 y.1 y.2
theorem al_max{xs ys:List TreeN}(hx:∀x∈xs,Eo x<=512)(hy:∀y∈ys,Eo y<=512):al Eo pN xs ys<=512*(aL xs+aL ys):=by
  induction xs with
  | nil =>
    induction ys with
    | nil=>exact gQ _
    | cons y ys ih=>grind [OV]
  | cons x xs ih =>
    have h1:=hx x Da;have h2:=ih λz hz=>hx z zG;have h3:=CT (sz:=Eo) (p:=pN) x xs ys;grind
def Rep.node_block{w:World}{l:List TreeN}{ad:Addr}{len c:Nat}(h:Rep S w (.slice (l.map Bo)) [.slice (some ad) len c])(hi:0<aL l):S ad.block:=by
  rw[Rep]at h;obtain⟨A,c',he,_,_,hr⟩:=h;simp only[List.cons.injEq,Value.slice.injEq,and_true]at he;obtain⟨ad',hA,es,hc,hl⟩:=hr (by intro e;rw[List.map_eq_nil_iff]at e;subst e;simp at hi);rw[<-he.1]at hA;obtain rfl:=lQ hA;have hlen:=hl.length;have hpos:0<aL es:=by
    rw[hlen]
    match l,hi with
    | x :: l, _ =>
      simp[Rc.sizeL,Bo,Rc,Ya];omega
  exact (hc 0 hpos).2
def cellKeep{w w':World}{E:List Nat}(hE:Same E w w'){v:Value}(hb:a.block∉E)(h:w.cell? a=some v):w'.cell? a=some v:=by
  rw[<-h];exact World.cell?_of_block (w:=w)<|hE.block _ (World.block_lt_of_cell? _ _ h) hb
theorem FR.repD{w0 w:World}{Ds:List Nat}{d:D}(hF:FR w0 Ds bs_ w)(hR:Rep S w0 d cs)(hS:∀b,S b->b<w0.heap.size/\b∉Ds):Rep S w d cs:=hR.same hF.same (λb hb hs=>(hS b hs).2 hb)
theorem FR.cellsD{w0 w:World}{Ds:List Nat}{m:Nat}(hF:FR w0 Ds bs_ w)(hb:a.block∉Ds)(h:∀j (hj:j<aL cs),w0.cell? ((a.add m).add j)=some cs[j]):∀j (hj:j<aL cs),w.cell? ((a.add m).add j)=some cs[j]:=λj hj =>
  cellKeep hF.same (by rw[Yh,Yh];exact hb) (h j hj)
def cleast_c(w0:World)(N0 cb pb rb:Nat)(la lb:List TreeN)(Aa Ab:Option Addr)(k1 k2 k3 k4:Nat)(q r:Nat->Nat)(P R:Nat->Nat->Int)(hK:Ck w0 N0 cb pb rb la lb Aa Ab k1 k2 k3 k4 q r P R)(i j:Nat)(hll:aL la<=64/\aL lb<=64)(hi:i<=aL la)(hj:j<=aL lb)(hN0:N0<=w0.heap.size)(hRa:∀x∈la,Ki x.1 x.2)(hRb:∀x∈lb,Ki x.1 x.2)(hla:∀x∈la,Eo x<=512)(hlb:∀x∈lb,Eo x<=512)(hR1:i<aL la->R (i+1) j=((al Eo pN (la.drop (i+1)) (lb.drop (j)):Nat):Int))(hR2:j<aL lb->R i (j+1)=((al Eo pN (la.drop (i)) (lb.drop (j+1)):Nat):Int))(hR3:i<aL la->j<aL lb->R (i+1) (j+1)=((al Eo pN (la.drop (i+1)) (lb.drop (j+1)):Nat):Int)):Calls prog 175 #[.pointer (some ⟨cb,0,none⟩),J ((i:Nat):Int),J ((j:Nat):Int)] w0 (Qb λv w'=>∃P':Nat->Nat->Int,v=J ((al Eo pN (la.drop (i)) (lb.drop (j)):Nat):Int)/\Ck w' N0 cb pb rb la lb Aa Ab k1 k2 k3 k4 q r P' R/\(∀(h1:i<aL la)(h2:j<aL lb),P' i j=((pN la[i] lb[j]:Nat):Int))/\(∀a b,¬(a=i/\b=j)->P' a b=P a b)/\Same (Rows q (aL la+1)) w0 w'):=by
 have hL0:=hK.La;have hL1:=hK.Lb;have hlo:=hK.lo;have hS0:∀b,b<N0->b<w0.heap.size/\b∉Rows q (aL la+1):=λb hb=>⟨by_Om,λhm=>by obtain⟨i,hi,rfl⟩:=Jn.1 hm;have:=hlo.2.2.2.1 i hi;omega⟩;have hmx:∀x y,al Eo pN (la.drop x) (lb.drop y)<=65536:=λx y=>fQ (al_max (λz hz=>hla z<|List.mem_of_mem_drop hz) λz hz=>hlb z<|List.mem_of_mem_drop hz) (by simp only[yQ];omega);have hQ1:i<aL la->0<=R (i+1) j/\R (i+1) j<=1000000:=λh=>by have h1:=hmx (i+1) j;rw[hR1 h];omega
 have hQ2:j<aL lb->0<=R i (j+1)/\R i (j+1)<=1000000:=λh=>by have h1:=hmx i<|j+1;rw[hR2 h];omega
 have hQ3:i<aL la->j<aL lb->0<=R (i+1) (j+1)/\R (i+1) (j+1)<=1000000:=λh h2=>by have h1:=hmx (i+1)<|j+1;rw[hR3 h h2];omega
 refine Bc func175 ntmps175 O O ?_;have hF:=FR.start w0<|Rows q<|aL la+1;refine rn 6<|Yb (.of []) (bQ [0,1,2,3,4,5,6,7,8,9,10,11] .nil) hF ?_;intro w hF hE;have hK:=hK.ext hE;refine⟨λwq=>FR w0 (Rows q<|aL la+1) _ wq/\Ck wq N0 cb pb rb la lb Aa Ab k1 k2 k3 k4 q r P R,⟨hF,hK⟩,?_⟩;refine rn 3 ?_;refine Fa O (v:=.slice Aa (aL la) k1) (λw hC=>Ma isAgg182 hC.2.c0)<|rn 4 ?_;refine Fa O (v:=.slice Ab (aL lb) k2) (λw hC=>Ma isAgg182 hC.2.c1)<|rn 14 ⟨λhg0=>?_,λhg0=>?_⟩
 ·
  refine rn 8 ⟨λhc0=>?_,λhc0=>?_⟩
  ·
   refine rn 6 ?_;exact⟨P,xQ (Value.int .i64) (by obtain rfl:i=aL la:=kX;obtain rfl:j=aL lb:=kX;rw[List.drop_length,List.drop_length];rfl),hK,λh1 _=>absurd h1 kX,λ_ _ _=>rfl,hF.same⟩
  refine rn 9 ⟨λhc1=>?_,λhc1=>?_⟩
  ·
   refine rn 5<|Sa (EH _ N0 cb pb rb la lb Aa Ab k1 k2 k3 k4 q r P R hK i j hll kX kX (λj h=>hlb _<|eQ h)<|hQ2 kX) ?_;intro w hF hE;have hK:=hK.ext hE;refine rn 4 ?_;exact⟨P,xQ (Value.int .i64) jF,hK,λh1 _=>absurd h1 kX,λ_ _ _=>rfl,hF.same⟩
  refine rn 9 ⟨λhc2=>?_,λhc2=>?_⟩
  ·
   refine rn 5<|Sa (Y0 N0 cb pb rb la lb Aa Ab k1 k2 k3 k4 q r P R hK i j hll (λj h=>hla _<|eQ h)<|hQ1 kX) ?_;intro w hF hE;have hK:=hK.ext hE;refine rn 4 ?_;exact⟨P,xQ (Value.int .i64) jY,hK,λ_ h2=>absurd h2 kX,λ_ _ _=>rfl,hF.same⟩
  refine rn 4 ?_;have hi1:i<aL la:=by_Om
  have hj1:j<aL lb:=by_Om
  have hcb:pN la[i] lb[j]<=aL la[i].1+aL lb[j].1:=(Yu (ls:=la[i].1) (fs:=la[i].2) (gs:=lb[j].1) (hs:=lb[j].2)).1;have q1:aL la[i].1<=512:=hla _<|eQ hi1;have q2:aL lb[j].1<=512:=hlb _<|eQ hj1;have hLa0:=hL0;have hLb0:=hL1;refine Yb (.of [27]) (bQ [0,1,2,3,4,5,6,7,8,9,10,11,12,13,14,15,16,17,18,19,20,21]<|.act 22<|bQ [23,24,26]<|.alt 25 (.act 27 .nil)<|.act 27<|.act 25 .nil) hF ?_;intro w hF hE;have hK:=hK.ext hE;refine⟨λwq=>FR w0 (Rows q<|aL la+1) _ wq/\Ck wq N0 cb pb rb la lb Aa Ab k1 k2 k3 k4 q r P R,⟨hF,hK⟩,?_⟩;refine rn 3 ?_;refine Fa O (v:=W pb (aL la+1) k3) (λw hC=>Ma mZ hC.2.c2)<|rn 1 ?_;refine Fa O (v:=.pointer<|some ⟨pb,i,none⟩) (λw hC=>Va (i:=((i:Nat):Int)) (i) Cj O O kX kX kX)<|Fa O (v:=.slice (some ⟨q i,0,none⟩) (aL lb+1)<|aL lb+1) (λw hC=>Ma rZ<|hC.2.pair.rowCell kX) ?_;refine rn 4 ?_;refine Fa O (v:=.slice Aa (aL la) k1) (λw hC=>Ma isAgg182 hC.2.c0)<|rn 1 ?_;obtain⟨ad1,P1,p1,Q1,q1,hA1,hk1,hx1,hy1⟩:=hLa0.node_elem (i:=i) kX;refine Fa O (v:=.pointer<|some<|ad1.add<|i*2) (λw hC=>Ea (i:=(i:Nat)) H5 hA1) ?_;refine Fa O (λw hC=>Pa (l:=[.slice (P1) (aL (la[i]).1) p1,.slice (Q1) (aL (la[i]).2) q1]) isAgg223 sizeOf223 O O<|hC.1.cellsD (by have h_:=hLa0;rw[hA1]at h_;exact λhm=>(hS0 _<|Rep.node_block h_ kX).2 hm) hk1) ?_;refine rn 3 ?_;refine Fa O (v:=.slice Ab (aL lb) k2) (λw hC=>Ma isAgg182 hC.2.c1)<|rn 1 ?_;obtain⟨ad2,P2,p2,Q2,q2,hA2,hk2,hx2,hy2⟩:=hLb0.node_elem (i:=j) kX;refine Fa O (v:=.pointer<|some<|ad2.add<|j*2) (λw hC=>Ea (i:=(j:Nat)) H5 hA2) ?_;refine Fa O (λw hC=>Pa (l:=[.slice (P2) (aL (lb[j]).1) p2,.slice (Q2) (aL (lb[j]).2) q2]) isAgg223 sizeOf223 O O<|hC.1.cellsD (by have h_:=hLb0;rw[hA2]at h_;exact λhm=>(hS0 _<|Rep.node_block h_ kX).2 hm) hk2) ?_
  refine Bf (VN _ _ _ la[i].1 la[i].2 P1 Q1 p1 q1 (hF.repD hx1 hS0) (hF.repD hy1 hS0) lb[j].1 lb[j].2 P2 Q2 p2 q2 (hF.repD hx2 hS0) (hF.repD hy2 hS0) (hRa _<|eQ _) (hRb _<|eQ _)) ?_;rintro _ w ⟨rfl,hE⟩;have hF:=hF.ext hE;have hK:=hK.ext hE;refine⟨⟨hF,hK⟩,?_⟩;refine rn 2<|Fa O (v:=.pointer<|some ⟨q i,j,none⟩) (λw hC=>Va (i:=((j:Nat):Int)) (j) Se O O kX kX kX) ?_
  repeat' first
   |refine Yq ?_ ?_
   |
    refine Qh 25 ?_
    first|refine Qn rfl (v:=J 0) (Zk rfl rfl) (⟨hF,hK⟩) ?_|refine Qn rfl (v:=J 0) (Zk rfl rfl) (trivial) ?_
   |refine Qh 27<|D9 O hF uZ O O (hK.pair.row i kX) kX (.inl<|Jn.2 ⟨i,by_Om,O⟩) Da ?_;intro w hF hE hnew;have hK:=hK.putP kX hE hnew|refine rn 7 ?_;refine Sa (BI _ N0 cb pb rb la lb Aa Ab k1 k2 k3 k4 q r (Mn P i j ((pN la[i] lb[j]:Nat):Int)) R hK i j hll kX kX (by rw[Tq];omega)<|hQ3 kX kX) ?_;intro w hF hE;have hK:=hK.ext hE;refine rn 3<|Sa (Y0 N0 cb pb rb la lb Aa Ab k1 k2 k3 k4 q r (Mn P i j ((pN la[i] lb[j]:Nat):Int)) R hK i j hll (λj h=>hla _<|eQ h)<|hQ1 kX) ?_;intro w hF hE;have hK:=hK.ext hE;refine rn 3<|Sa (EH _ N0 cb pb rb la lb Aa Ab k1 k2 k3 k4 q r (Mn P i j ((pN la[i] lb[j]:Nat):Int)) R hK i j hll kX kX (λj h=>hlb _<|eQ h)<|hQ2 kX) ?_;intro w hF hE;have hK:=hK.ext hE;refine Ca (v:=J<|min (min ((Mn P i j ((pN la[i] lb[j]:Nat):Int)) i j+R (i+1) (j+1))<|(aL la[i].1:Int)+R (i+1) j)<|(aL lb[j].1:Int)+R i (j+1)) (x_min3 O O O)<|rn 4 ?_;exact⟨Mn P i j ((pN la[i] lb[j]:Nat):Int),xQ (Value.int .i64) zU,hK,λ_ _=>Tq _ _ _ _,λa b h=>O0 h,hF.same⟩
 refine rn 17 ⟨λhc1=>?_,λhc1=>?_⟩
 ·
  refine rn 5<|Sa (EH _ N0 cb pb rb la lb Aa Ab k1 k2 k3 k4 q r P R hK i j hll kX kX (λj h=>hlb _<|eQ h)<|hQ2 kX) ?_;intro w hF hE;have hK:=hK.ext hE;refine rn 4 ?_;exact⟨P,xQ (Value.int .i64) jF,hK,λh1 _=>absurd h1 kX,λ_ _ _=>rfl,hF.same⟩
 refine rn 9 ⟨λhc2=>?_,λhc2=>?_⟩
 ·
  refine rn 5<|Sa (Y0 N0 cb pb rb la lb Aa Ab k1 k2 k3 k4 q r P R hK i j hll (λj h=>hla _<|eQ h)<|hQ1 kX) ?_;intro w hF hE;have hK:=hK.ext hE;refine rn 4 ?_;exact⟨P,xQ (Value.int .i64) jY,hK,λ_ h2=>absurd h2 kX,λ_ _ _=>rfl,hF.same⟩
 refine rn 4 ?_;have hi1:i<aL la:=by_Om
 have hj1:j<aL lb:=by_Om
 have hcb:pN la[i] lb[j]<=aL la[i].1+aL lb[j].1:=(Yu (ls:=la[i].1) (fs:=la[i].2) (gs:=lb[j].1) (hs:=lb[j].2)).1;have q1:aL la[i].1<=512:=hla _<|eQ hi1;have q2:aL lb[j].1<=512:=hlb _<|eQ hj1;have hLa0:=hL0;have hLb0:=hL1;refine Yb (.of [27]) (bQ [0,1,2,3,4,5,6,7,8,9,10,11,12,13,14,15,16,17,18,19,20,21]<|.act 22<|bQ [23,24,26]<|.alt 25 (.act 27 .nil)<|.act 27<|.act 25 .nil) hF ?_;intro w hF hE;have hK:=hK.ext hE;refine⟨λwq=>FR w0 (Rows q<|aL la+1) _ wq/\Ck wq N0 cb pb rb la lb Aa Ab k1 k2 k3 k4 q r P R,⟨hF,hK⟩,?_⟩;refine rn 3 ?_;refine Fa O (v:=W pb (aL la+1) k3) (λw hC=>Ma mZ hC.2.c2)<|rn 1 ?_;refine Fa O (v:=.pointer<|some ⟨pb,i,none⟩) (λw hC=>Va (i:=((i:Nat):Int)) (i) Cj O O kX kX kX)<|Fa O (v:=.slice (some ⟨q i,0,none⟩) (aL lb+1)<|aL lb+1) (λw hC=>Ma rZ<|hC.2.pair.rowCell kX) ?_;refine rn 4 ?_;refine Fa O (v:=.slice Aa (aL la) k1) (λw hC=>Ma isAgg182 hC.2.c0)<|rn 1 ?_;obtain⟨ad3,P3,p3,Q3,q3,hA3,hk3,hx3,hy3⟩:=hLa0.node_elem (i:=i) kX;refine Fa O (v:=.pointer<|some<|ad3.add<|i*2) (λw hC=>Ea (i:=(i:Nat)) H5 hA3) ?_;refine Fa O (λw hC=>Pa (l:=[.slice (P3) (aL (la[i]).1) p3,.slice (Q3) (aL (la[i]).2) q3]) isAgg223 sizeOf223 O O<|hC.1.cellsD (by have h_:=hLa0;rw[hA3]at h_;exact λhm=>(hS0 _<|Rep.node_block h_ kX).2 hm) hk3) ?_;refine rn 3 ?_;refine Fa O (v:=.slice Ab (aL lb) k2) (λw hC=>Ma isAgg182 hC.2.c1)<|rn 1 ?_;obtain⟨ad4,P4,p4,Q4,q4,hA4,hk4,hx4,hy4⟩:=hLb0.node_elem (i:=j) kX;refine Fa O (v:=.pointer<|some<|ad4.add<|j*2) (λw hC=>Ea (i:=(j:Nat)) H5 hA4) ?_;refine Fa O (λw hC=>Pa (l:=[.slice (P4) (aL (lb[j]).1) p4,.slice (Q4) (aL (lb[j]).2) q4]) isAgg223 sizeOf223 O O<|hC.1.cellsD (by have h_:=hLb0;rw[hA4]at h_;exact λhm=>(hS0 _<|Rep.node_block h_ kX).2 hm) hk4) ?_
 refine Bf (VN _ _ _ la[i].1 la[i].2 P3 Q3 p3 q3 (hF.repD hx3 hS0) (hF.repD hy3 hS0) lb[j].1 lb[j].2 P4 Q4 p4 q4 (hF.repD hx4 hS0) (hF.repD hy4 hS0) (hRa _<|eQ _) (hRb _<|eQ _)) ?_;rintro _ w ⟨rfl,hE⟩;have hF:=hF.ext hE;have hK:=hK.ext hE;refine⟨⟨hF,hK⟩,?_⟩;refine rn 2<|Fa O (v:=.pointer<|some ⟨q i,j,none⟩) (λw hC=>Va (i:=((j:Nat):Int)) (j) Se O O kX kX kX) ?_
 repeat' first
  |refine Yq ?_ ?_
  |
   refine Qh 25 ?_
   first|refine Qn rfl (v:=J 0) (Zk rfl rfl) (⟨hF,hK⟩) ?_|refine Qn rfl (v:=J 0) (Zk rfl rfl) (trivial) ?_
  |refine Qh 27<|D9 O hF uZ O O (hK.pair.row i kX) kX (.inl<|Jn.2 ⟨i,by_Om,O⟩) Da ?_;intro w hF hE hnew;have hK:=hK.putP kX hE hnew|refine rn 7 ?_;refine Sa (BI _ N0 cb pb rb la lb Aa Ab k1 k2 k3 k4 q r (Mn P i j ((pN la[i] lb[j]:Nat):Int)) R hK i j hll kX kX (by rw[Tq];omega)<|hQ3 kX kX) ?_;intro w hF hE;have hK:=hK.ext hE;refine rn 3<|Sa (Y0 N0 cb pb rb la lb Aa Ab k1 k2 k3 k4 q r (Mn P i j ((pN la[i] lb[j]:Nat):Int)) R hK i j hll (λj h=>hla _<|eQ h)<|hQ1 kX) ?_;intro w hF hE;have hK:=hK.ext hE;refine rn 3<|Sa (EH _ N0 cb pb rb la lb Aa Ab k1 k2 k3 k4 q r (Mn P i j ((pN la[i] lb[j]:Nat):Int)) R hK i j hll kX kX (λj h=>hlb _<|eQ h)<|hQ2 kX) ?_;intro w hF hE;have hK:=hK.ext hE;refine Ca (v:=J<|min (min ((Mn P i j ((pN la[i] lb[j]:Nat):Int)) i j+R (i+1) (j+1))<|(aL la[i].1:Int)+R (i+1) j)<|(aL lb[j].1:Int)+R i (j+1)) (x_min3 O O O)<|rn 4 ?_;exact⟨Mn P i j ((pN la[i] lb[j]:Nat):Int),xQ (Value.int .i64) zU,hK,λ_ _=>Tq _ _ _ _,λa b h=>O0 h,hF.same⟩
def V7(l:List Tree):Nat:=(l.map λx=>aL (Dl x)).sum
def Jg(x:Tree):TreeN:=(Dl x,Su x)
def Pe(l:List Tree):Int:=if l.all Ob=true then (if 64<aL l then 6 else if 512<V7 l then 6 else 0) else 1
theorem BE{j:Nat}(h:j<aL l):V7 (l.take (j+1))=V7 (l.take j)+aL (Dl l[j]):=by
  unfold V7;rw[iQ h,jQ,List.sum_append];grind
theorem totL_take(l:List Tree)(j:Nat):V7 (l.take j)<=V7 l:=by
  unfold V7
  conv=>rhs;rw[<-List.take_append_drop j l]
  grind
theorem PQ{j:Nat}{h:j<aL l}(hr:Ob l[j]=false):Pe l=1:=by grind [Pe]
theorem X4{j:Nat}(hs:∀i (h:i<aL l),i<j->Ob l[i]=true)(hj:aL l<=j):l.all Ob=true:=by
  rw[List.all_eq_true];intro x hx;obtain⟨i,hi,rfl⟩:=List.getElem_of_mem hx;grind
theorem JV{j:Nat}(hs:∀i (h:i<aL l),i<j->Ob l[i]=true)(hj:∀h:j<aL l,Ob l[j]=true):∀i (h:i<aL l),i<j+1->Ob l[i]=true:=λi h h2=>by
  grind
def JR{j:Nat}(h:j<aL l):(l.take (j+1)).map (λx=>Bo (Jg x))=(l.take j).map (λx=>Bo (Jg x))++[Bo (Dl l[j],Su l[j])]:=by
  rw[iQ h,jQ];rfl
def Zm(x:Tree):Prop:=Sz x/\Ka x<=256/\Kb x<=16777216
theorem OX(l:List Tree)(A:Option Addr)(c:Nat)(S:Nat->Prop)(w0:World)(hG:Gl w0)(hX:Rep S w0 (.slice (Rb l)) [.slice A (aL l) c])(hok:∀x∈l,Zm x):Calls prog 141 #[.slice A (aL l) c] w0 (Qb λv w'=>(Pe l≠0/\v=.tuple #[aQ,J (Pe l)]/\Same [] w0 w')\/(Pe l=0/\∃(A':Option Addr)(c':Nat),v=.tuple #[.slice A' (aL l) c',J 0]/\Rep (Btw w0 w') w' (.slice ((l.map Jg).map Bo)) [.slice A' (aL l) c']/\Same [] w0 w')):=by
 have hXl:=hX.slice_len;rw[Ii]at hXl;refine Ga func141 ntmps141 ?_;intro hF;refine rn 15<|Wa (λμ σ w=>∃(j:Nat),μ=aL l-j/\(j<=aL l)/\(∀i (h:i<aL l),i<j->Ob l[i]=true)/\AllEq σ [(0,.slice A (aL l) c),(12,.slice A (aL l) c),(13,J<|(aL l:Nat)),(14,J<|(j:Int))]/\FR w0 [] [] w) _ ⟨0,O,kX,λi _ h=>by omega,ae4,hF⟩ ?_;rintro μ σ w ⟨j,rfl,hj,hs_,hzz,hF⟩;refine Tf hzz 7 ⟨λhc0=>?_,λhc0=>?_⟩;refine rn 6 ?_;obtain⟨ad0,cs0,hA0,hl0,hk0,hx0⟩:=hX.tree_elem (i:=j) kX;have ho0:=hx0.one_;refine Ca (v:=.pointer<|some<|ad0.add<|j*4) (Ea (i:=(j:Int)) Ad hA0)<|Ca (v:=.agg<|List.toArray cs0) (Pa (l:=cs0) oZ tZ O hl0<|hF.cells0 hk0) ?_;refine Ho (l:=cs0) hF iX jA wM (v:=.agg<|List.toArray cs0) O O (ho0) O ?_;rintro b1 w hb1 hF -;refine rn 4<|Ca (v:=.agg<|List.toArray cs0) (Pa (l:=cs0) oZ tZ O hl0<|hF.cellsAll 0 O) ?_;refine Sa (Bu l[j] (fQ (hok _<|List.getElem_mem (l:=l) (n:=j) kX).2.1 Ra) _ _ cs0 (hF.rep hx0) (hok _<|List.getElem_mem (l:=l) (n:=j) kX).1 (hG.ext hF.same)) ?_;rintro w hF -;refine rn 4 ⟨λhc1=>?_,λhc1=>?_⟩;refine rn 7 ?_;have he:Pe l=1:=PQ (j:=j) (h:=by omega) qB;exact .inl ⟨by rw[he];decide,by rw[he],hF.same⟩;refine rn 4<|Kc (Ce<|((j+1:Nat):Int)) ?_;refine rn 2<|Ja ⟨_,?_,j+1,O,kX,JV hs_ (λ_=>by simp_all),Ib,hF.drop 1⟩;omega;refine rn 11 ⟨λhc2=>?_,λhc2=>?_⟩;refine rn 7 ?_;have he:Pe l=6:=by rw[Pe,uQ<|X4 hs_ kX,uQ kX]
 exact .inl ⟨by rw[he];decide,by rw[he],hF.same⟩;refine rn 21 ?_;have hall:∀i (h:i<aL l),Ob l[i]=true:=λi h=>hs_ i h kX;refine Wa (λμ σ w=>∃(j:Nat),∃(A1:Option Addr),∃(c1:Nat),∃(so:List (Nat × Obj)),∃(vals:List Value),μ=aL l-j/\(j<=aL l)/\(SlB 223 2 A1 j c1 vals so)/\(RX w0 ([]++so.map (·.1)) w ((l.take j).map λx=>Bo<|Jg x) vals)/\(V7 (l.take j)<=512)/\AllEq σ [(6,.slice A1 j c1),(7,J<|512-((V7 (l.take j):Nat):Int)),(25,.slice A (aL l) c),(26,J<|(aL l:Nat)),(27,J<|(j:Int))]/\FR w0 [] ([]++(so++[])) w) _ ⟨0,none,0,[],[],O,cZ _,SlB.nil _ _,RX.nil,by simp[V7],ae5,hF⟩ ?_;rintro μ σ w ⟨j,A1,c1,so,vals,rfl,hj,hS,hDX,ht_,hzz,hF⟩;refine Tf hzz 7 ⟨λhc3=>?_,λhc3=>?_⟩;refine rn 6 ?_;obtain⟨ad1,cs1,hA1,hl1,hk1,hx1⟩:=hX.tree_elem (i:=j) kX;have ho1:=hx1.one_;refine Ca (v:=.pointer<|some<|ad1.add<|j*4) (Ea (i:=(j:Int)) Ad hA1)<|Ca (v:=.agg<|List.toArray cs1) (Pa (l:=cs1) oZ tZ O hl1<|hF.cells0 hk1) ?_;refine Ho (l:=cs1) hF iX rB (by rw[hl1];rfl) (v:=.agg<|List.toArray cs1) O O (ho1) O ?_;intro b2 w hb2 hF hE;have hDX:=hDX.alloc hE hb2;refine rn 4<|Ca (v:=.agg<|List.toArray cs1) (Pa (l:=cs1) oZ tZ O hl1<|hF.cellsAll 0 O) ?_;refine Gc (from_yes l[j] _ _ cs1 (hF.rep hx1) (hG.ext hF.same) (hok _<|List.getElem_mem (l:=l) (n:=j) kX).2.1 (fQ (hok _<|List.getElem_mem (l:=l) (n:=j) kX).2.2 Ra) (hall j kX)) ?_;rintro _ w ⟨A5,c5,B5,e5,rfl,hL_,hN_,hE⟩;have hRt:=rep_node (x:=(Dl l[j],Su l[j])) hL_ hN_;have hYX:=RX.made (ids:=[b2]++so.map (·.1)) hF.same.size (λx hx=>hF.lt_ids qK) hRt;have hDX:=hDX.ext hE;have hF:=hF.ext hE;clear hE hRt hL_ hN_;refine rn 4 ?_;intro b3 w hb3 hF hE;have hDX:=hDX.alloc hE hb3;have hYX:=hYX.alloc hE hb3;refine rn 9 ?_;refine Ca (v:=J<|512-((V7 (l.take<|j+1):Nat):Int)) (Ux O O<|Od (by rw[BE kX];omega) (by have h1:=Ts<|hall j kX;have h2:=(hok _<|List.getElem_mem (l:=l) (n:=j) kX).2.1;rw[BE kX];omega) kX) ?_
 refine rn 7<|Ca (v:=.bool false) (Ed Q7 Ra) ?_;refine rn 7 ⟨λhc4=>?_,λhc4=>?_⟩;refine rn 7 ?_;have he:Pe l=6:=by have h1:=totL_take l<|j+1;rw[Pe,uQ<|X4 (j:=aL l) (λi h _=>hall i h)<|gQ _,tQ kX,uQ kX]
 exact .inl ⟨by rw[he];decide,by rw[he],hF.same⟩;refine rn 6 ?_;intro b4 w hb4 hF hE;have hDX:=hDX.alloc hE hb4;have hYX:=hYX.alloc hE hb4;refine LC hS (len':=j+1) (ys:=vals++[.slice (A5) (aL (Dl l[j])) c5,.slice (B5) (aL (Su l[j])) e5]) (O) (O) ?_;intro A2 c2 o_2 w hS2_o hF hE hnew;have hDX:=hDX.app (l:=[b4,b3,b2]) hE hnew;have hYX:=hYX.app (l:=[b4,b3,b2]) hE hnew;refine rn 5<|Kc (Ce<|((j+1:Nat):Int)) ?_;refine rn 2 ?_;refine Ja ⟨_,?_,j+1,A2,c2,o_2,vals++[.slice A5 (aL (Dl l[j])) c5,.slice B5 (aL (Su l[j])) e5],O,kX,qW,by rw[JR kX];exact (hDX.append hYX).sub qK,kX,Ib,hF.drop 3⟩;omega;refine rn 10 ?_;have ej:j=aL l:=by_Om
 subst ej;rw[List.take_length]at hDX ht_;have he:Pe l=0:=by rw[Pe,uQ<|X4 (j:=aL l) (λi h _=>hall i h)<|gQ _,tQ kX,tQ kX]
 have hrep:=hS.rep (pre:=[]) (post:=[]) hF hDX Da;exact .inr ⟨he,A1,c1,O,by rw[List.map_map];exact hrep,hF.same⟩
def Zr(M x:Nat)(q:Nat->Nat):List Value:=(List.range x).map λi=>Value.slice (some ⟨q i,0,none⟩) M M
def JB(M x b:Nat)(q:Nat->Nat):Zr M x q++[W b M M]=Zr M (x+1) (Pv q x b):=by
  unfold Zr;rw[List.range_succ,jQ]
  congr 1
  ·exact List.map_congr_left λi hi=>by have:=List.mem_range.1 hi;simp[Pv,show ¬i=x by omega]
  simp[Pv]
def RowsOk.grow{w0 w w':World}{i m:Nat}{q:Nat->Nat}{ids ids' E:List Nat}(h:RowsOk w0 w i m q ids)(hs:Same E w w')(he:∀b∈E,b∈ids)(hi:∀b∈ids',b∈ids\/w.heap.size<=b):RowsOk w0 w' i m q ids' :=
  ⟨(h.step hs he).row,h.inj,λk hk=>⟨(h.new k hk).1,λhm=>(hi _ hm).elim (h.new k hk).2 λh2=>by have:=Ia<|h.row k hk;omega⟩⟩
structure R0 (w0 w:World) (x M:Nat) (q r:Nat->Nat) (ids:List Nat):Prop where
  rq:RowsOk w0 w x M q ids
  rr:RowsOk w0 w x M r ids
  ne:∀i j,i<x->j<x->q i≠r j
section
variable {w0 w w':World}{x M:Nat}{q r:Nat->Nat}{ids ids' E:List Nat}
def R0.step(h:R0 w0 w x M q r ids)(hs:Same E w w')(he:∀b∈E,b∈ids):R0 w0 w' x M q r ids:=⟨h.rq.step hs he,h.rr.step hs he,h.ne⟩
def R0.grow(h:R0 w0 w x M q r ids)(hs:Same E w w')(he:∀b∈E,b∈ids)(hi:∀b∈ids',b∈ids\/w.heap.size<=b):R0 w0 w' x M q r ids':=⟨h.rq.grow hs he hi,h.rr.grow hs he hi,h.ne⟩
def R0.off(h:R0 w0 w x M q r ids)(hb:b=w.heap.size):∀k,k<x->q k≠b/\r k≠b:=λk hk=>by have h1:=Ia<|h.rq.row k hk;have h2:=Ia<|h.rr.row k hk;constructor <;> omega
theorem R0.put{L sp sr:List (Nat × Obj)}{bp br b1 i j:Nat}(h:R0 w0 w x M q r ([b1]++(sp.map (·.1)++sr.map (·.1))))(hF:FR w0 [] L w)(h6:∀k,k<x->q k≠bp/\r k≠bp)(h7:∀k,k<x->q k≠br/\r k≠br)
    [HsF L bp i (.cells (Dd M λ_=>0) 3)] [HsF L br j (.cells (Dd M λ_=>0) 3)] [NeF L bp b1] [DsF L bp sp] [DsF L bp sr] [NeF L br b1] [DsF L br sp] [DsF L br sr] [NeF L bp br]:R0 w0 w (x+1) M (Pv q x bp) (Pv r x br) ([b1]++(sp.map (·.1)++sr.map (·.1))):=by
  have h5:bp≠br:=hF.ne;have hm:∀{b:Nat},b≠b1->b∉sp.map (·.1)->b∉sr.map (·.1)->b∉[b1]++(sp.map (·.1)++sr.map (·.1)):=qK
  refine⟨h.rq.put hF.hp hF.gp (hm hF.ne hF.ds hF.ds) λk hk=>(h6 k hk).1,h.rr.put hF.hp hF.gp (hm hF.ne hF.ds hF.ds) λk hk=>(h7 k hk).2,λi j hi hj=>?_⟩;have e1:∀k,Pv q x bp k=if k=x then bp else q k:=λ_=>rfl
  have e2:∀k,Pv r x br k=if k=x then br else r k:=λ_=>rfl
  rw[e1,e2];split <;> split
  ·exact h5
  ·exact λe=>(h6 j kX).2 e.symm
  ·exact (h7 i kX).1
  exact h.ne i j kX kX
theorem FR.apart{Ds:List Nat}{pre rest:List (Nat × Obj)}(hF:FR w0 Ds (pre++rest) w){i:Nat}{o:Obj}(hi:pre[i]? = some (b,o)):b∉rest.map (·.1):=λh=>by
  obtain⟨z,hz,e⟩:=nQ.1 h;exact (List.pairwise_append.1 hF.desc).2.2 (b,o) (List.mem_of_getElem? hi) z hz e
theorem SlB.one{n c:Nat}(h:SlB e 1 A n c xs sb)(hn:0<n):∃g cur,A=some ⟨g,0,none⟩/\sb=[(g,.cells cur e)]/\∀i (hi:i<aL xs),cur[i]? = some xs[i]:=by
  obtain⟨hl,h⟩:=h;grind
end
section
variable {la lb:List TreeN}{P P' R:Nat->Nat->Int}{i j:Nat}
def RD(la lb:List TreeN)(R:Nat->Nat->Int)(i j:Nat):Prop:=∀a b,a<=aL la->b<=aL lb->(aL la-a<i\/(aL la-a=i/\aL lb-b<j))->R a b=((al Eo pN (la.drop a) (lb.drop b):Nat):Int)
def PD(la lb:List TreeN)(P:Nat->Nat->Int)(i j:Nat):Prop:=∀a b (h1:a<aL la) (h2:b<aL lb),(aL la-a<i\/(aL la-a=i/\aL lb-b<j))->P a b=((pN la[a] lb[b]:Nat):Int)
theorem RD.step(h:RD la lb R i j)(hi:i<=aL la)(hj:j<=aL lb):RD la lb (Mn R (aL la-i) (aL lb-j) ((al Eo pN (la.drop (aL la-i)) (lb.drop (aL lb-j)):Nat):Int)) i (j+1):=λa b ha hb hc=>by
  by_cases e:a=aL la-i/\b=aL lb-j
  ·grind [Tq]
  rw[O0 e];exact h a b ha hb kX
def RD.row(h:RD la lb R i (aL lb+1)):RD la lb R (i+1) 0:=λa b ha hb hc=>h a b ha hb kX
theorem PD.step(h:PD la lb P i j)(hn:∀(h1:aL la-i<aL la) (h2:aL lb-j<aL lb),P' (aL la-i) (aL lb-j)=((pN la[aL la-i] lb[aL lb-j]:Nat):Int))(ho:∀a b,¬(a=aL la-i/\b=aL lb-j)->P' a b=P a b):PD la lb P' i (j+1):=λa b ha hb hc=>by
  by_cases e:a=aL la-i/\b=aL lb-j
  ·grind
  rw[ho a b e];exact h a b ha hb kX
def PD.row(h:PD la lb P i (aL lb+1)):PD la lb P (i+1) 0:=λa b ha hb hc=>h a b ha hb kX
end
theorem reckon_c(S S':Nat->Prop)(w0:World)(la lb:List TreeN)(Aa Ab:Option Addr)(k1 k2:Nat)(hLa:Rep S w0 (.slice (la.map Bo)) [.slice Aa (aL la) k1])(hLb:Rep S' w0 (.slice (lb.map Bo)) [.slice Ab (aL lb) k2])(hll:aL la<=64/\aL lb<=64)(hRa:∀x∈la,Ki x.1 x.2)(hRb:∀x∈lb,Ki x.1 x.2)(hla:∀x∈la,Eo x<=512)(hlb:∀x∈lb,Eo x<=512):Calls prog 142 #[.slice Aa (aL la) k1,.slice Ab (aL lb) k2] w0 (Qb λv w'=>∃(cb pb rb kP kR:Nat)(q r:Nat->Nat)(P R:Nat->Nat->Int),v=.pointer (some ⟨cb,0,none⟩)/\Ck w' w0.heap.size cb pb rb la lb Aa Ab k1 k2 kP kR q r P R/\(∀a b,a<=aL la->b<=aL lb->R a b=((al Eo pN (la.drop a) (lb.drop b):Nat):Int))/\(∀a b (h1:a<aL la) (h2:b<aL lb),P a b=((pN la[a] lb[b]:Nat):Int))/\Same [] w0 w'):=by
 refine Ga func142 ntmps142 ?_;intro hF;refine rn 9<|Ca (w':=w0) (v:=.agg #[.slice Aa (aL la) k1,.slice Ab (aL lb) k2,aQ,aQ]) Gb ?_;refine rn 1 ?_;rintro b1 w hb1 hF -;refine rn 8<|Kc (Ce<|((aL la+1:Nat):Int)) ?_;refine rn 4 (Wa (λμ σ w=>∃(x:Nat),∃(AP:Option Addr),∃(kP:Nat),∃(sp:List (Nat × Obj)),∃(AR:Option Addr),∃(kR:Nat),∃(sr:List (Nat × Obj)),∃(q:Nat->Nat),∃(r:Nat->Nat),μ=aL la+1-x/\(x<=aL la+1)/\(SlB 42 1 AP x kP (Zr (aL lb+1) x q) sp)/\(SlB 42 1 AR x kR (Zr (aL lb+1) x r) sr)/\(R0 w0 w (x) (aL lb+1) q r ([b1]++(sp.map (·.1)++sr.map (·.1))))/\AllEq σ [(0,.slice Aa (aL la) k1),(1,.slice Ab (aL lb) k2),(5,.pointer<|some ⟨b1,0,none⟩),(14,J<|((aL la+1:Nat):Int)),(15,J<|(x:Int))]/\FR w0 [] ([(b1,.cells #[.slice Aa (aL la) k1,.slice Ab (aL lb) k2,.slice AP x kP,.slice AR x kR] 188)]++(sp++(sr++[]))) w) _ ⟨0,none,0,[],none,0,[],λ_=>0,λ_=>0,O,cZ _,SlB.nil _ _,SlB.nil _ _,⟨⟨λk hk=>absurd hk kX,λk l hk=>absurd hk kX,λk hk=>absurd hk kX⟩,⟨λk hk=>absurd hk kX,λk l hk=>absurd hk kX,λk hk=>absurd hk kX⟩,λi j hi=>absurd hi kX⟩,Ib,hF⟩ ?_);rintro μ σ w ⟨x,AP,kP,sp,AR,kR,sr,q,r,rfl,hx,hSp,hSr,hW,hzz,hF⟩;refine Tf hzz 7 ⟨λhc0=>?_,λhc0=>?_⟩
 ·
  refine rn 2 ?_;have hq0:=hx;refine rn 1 (Sc (λσ w=>∃(AS:Option Addr),∃(kS:Nat),∃(sp2:List (Nat × Obj)),∃(AT:Option Addr),∃(kT:Nat),∃(sr2:List (Nat × Obj)),∃(q2:Nat->Nat),∃(r2:Nat->Nat),(SlB 42 1 AS (x+1) kS (Zr (aL lb+1) (x+1) q2) sp2)/\(SlB 42 1 AT (x+1) kT (Zr (aL lb+1) (x+1) r2) sr2)/\(R0 w0 w (x+1) (aL lb+1) q2 r2 ([b1]++(sp2.map (·.1)++sr2.map (·.1))))/\AllEq σ [(0,.slice Aa (aL la) k1),(1,.slice Ab (aL lb) k2),(5,.pointer<|some ⟨b1,0,none⟩),(14,J<|((aL la+1:Nat):Int)),(15,J<|(x:Int))]/\FR w0 [] ([(b1,.cells #[.slice Aa (aL la) k1,.slice Ab (aL lb) k2,.slice (AS) (x+1) kS,.slice (AT) (x+1) kT] 188)]++(sp2++(sr2++[]))) w) ?_ ?_)
  ·
   refine rn 1<|c_drawP (.of [27,24]) [0,1,2,3,4,6,7,8,12,13,14,16,17,18] (.free 5<|.free 15<|.alt 9 (.alt 10 (.alt 11 (cQ [19,20,21,22]<|.free 23<|.act 24<|.act 25<|.free 26<|.act 27 .nil)<|.act 19<|.alt 11 (cQ [20,21,22]<|.free 23<|.act 24<|.act 25<|.free 26<|.act 27 .nil)<|cQ [20,11,21,22]<|.free 23<|.act 24<|.act 25<|.free 26<|.act 27 .nil)<|.act 19<|.alt 10 (.alt 11 (cQ [20,21,22]<|.free 23<|.act 24<|.act 25<|.free 26<|.act 27 .nil)<|cQ [20,11,21,22]<|.free 23<|.act 24<|.act 25<|.free 26<|.act 27 .nil)<|cQ [20,10,11,21,22]<|.free 23<|.act 24<|.act 25<|.free 26<|.act 27 .nil)<|.act 19<|.alt 9 (.alt 10 (.alt 11 (cQ [20,21,22]<|.free 23<|.act 24<|.act 25<|.free 26<|.act 27 .nil)<|cQ [20,11,21,22]<|.free 23<|.act 24<|.act 25<|.free 26<|.act 27 .nil)<|cQ [20,10,11,21,22]<|.free 23<|.act 24<|.act 25<|.free 26<|.act 27 .nil)<|cQ [20,9,10,11,21,22]<|.free 23<|.act 24<|.act 25<|.free 26<|.act 27 .nil) hF ?_;intro w hF hE;have hW:=hW.step hE Da;refine LX O (ymp O)<|LX O (ymp O)<|LX O (ymp O)<|LX O (ync O)<|LX O (yfa XL O)<|LX O (yml O)<|LX O (yln underlying182 O)<|LX O (Ce<|((aL lb+1:Nat):Int))<|LX O (ymp O)<|LX O (ync O)<|LX O (yfa VK O)<|LX O (yml O)<|LX O (yln underlying182 O)<|LX O (Ce<|((aL lb+1:Nat):Int)) ?_;refine p_nil ⟨λwq=>FR w0 [] [(b1,.cells #[.slice Aa (aL la) k1,.slice Ab (aL lb) k2,.slice AP x kP,.slice AR x kR] 188)] wq,hF.mid 0 1,?_⟩;refine rn 2 ?_
   repeat' first
    |refine Yq ?_ ?_|refine Qh 9<|rn 1 ⟨by_Om,?_⟩;intro b301 w hb301 hF hE;have hnb301:=hW.off hb301;have hW:=hW.step hE Da|refine Qh 10<|rn 1 ?_;intro b302 w hb302 hF hE;have hW:=hW.step hE Da|refine Qh 11<|X7 hSp (len':=x+1) (ys:=Zr (aL lb+1) (x+1)<|Pv q x b301) (O) (JB _ _ _ _) ?_;intro A303 c303 p_303 w hS303_p hF hE hnew;have hW:=hW.grow (ids':=[b1]++(p_303.map (·.1)++sr.map (·.1))) hE qK qK|refine Qh 19<|rn 1 ⟨by_Om,?_⟩;intro b304 w hb304 hF hE;have hnb304:=hW.off hb304;have hW:=hW.step hE Da|refine Qh 20<|rn 1 ?_;intro b305 w hb305 hF hE;have hW:=hW.step hE Da|refine Qh 21<|X7 hSr (len':=x+1) (ys:=Zr (aL lb+1) (x+1)<|Pv r x b304) (O) (JB _ _ _ _) ?_;intro A306 c306 r_306 w hS306_r hF hE hnew;have hW:=hW.grow (ids':=[b1]++(p_303.map (·.1)++r_306.map (·.1))) hE qK qK|refine Qh 24<|rn 1 ?_;intro w hF hE;have hW:=hW.step hE Da|refine Qh 27<|rn 1 ?_;intro w hF hE;have hW:=hW.step hE Da|refine rn 2 ?_;exact Ja ⟨A303,c303,p_303,A306,c306,r_306,Pv q x b301,Pv r x b304,hS303_p,hS306_r,hW.put hF hnb301 hnb304,Ib,hF.su⟩|refine rn 1 ?_
  rintro σ w ⟨AS,kS,sp2,AT,kT,sr2,q2,r2,hSp2,hSr2,hW,hzz,hF⟩;refine Kq hzz 2<|Kc (Ce<|((x+1:Nat):Int)) ?_;refine rn 2<|Ja ⟨_,?_,x+1,AS,kS,sp2,AT,kT,sr2,q2,r2,O,kX,hSp2,hSr2,hW,Ib,hF⟩;omega
 refine rn 4 ?_;obtain rfl:x=aL la+1:=by_Om
 obtain⟨pb,cup,rfl,rfl,hcp⟩:=hSp.one kX;obtain⟨rb,cur_,rfl,rfl,hcr⟩:=hSr.one kX;have hap:=FR.apart (pre:=[_]) (rest:=[_,_]) (i:=0) hF rfl;have hpr:pb≠rb:=Xt hF.desc (i:=1) (j:=2) rfl rfl Ra;simp only[jZ,List.map_nil,oQ,List.not_mem_nil,or_false,not_or]at hap;have hnq:=λk hk=>(hW.rq.new k hk).2;have hnr:=λk hk=>(hW.rr.new k hk).2;simp only[jZ,List.map_nil,mQ,oQ,List.not_mem_nil,or_false,not_or]at hnq hnr;have hK:Ck w w0.heap.size b1 pb rb la lb Aa Ab k1 k2 kP kR q r (λ_ _=>0) (λ_ _=>0):=⟨hF.heap (i:=0) rfl,(hF.rep hLa.old).weaken (λb hb _=>hb.2),(hF.rep hLb.old).weaken (λb hb _=>hb.2),⟨⟨cup,hF.heap (i:=1) rfl,λi hi=>by rw[hcp i (by simpa[Zr]using hi)];simp[Zr]⟩,hW.rq.row,hW.rq.inj,λi hi=>(hnq i hi).2.1⟩,⟨⟨cur_,hF.heap (i:=2) rfl,λi hi=>by rw[hcr i (by simpa[Zr]using hi)];simp[Zr]⟩,hW.rr.row,hW.rr.inj,λi hi=>(hnr i hi).2.2⟩,⟨hF.ge (i:=0) rfl,hF.ge (i:=1) rfl,hF.ge (i:=2) rfl,λi hi=>(hW.rq.new i hi).1,λi hi=>(hW.rr.new i hi).1⟩,hnq,hnr,hW.ne⟩;have hF:=hF.clear;clear hcp hcr hnq hnr hap hpr hW hSp hSr;refine rn 3<|Kc (Ce<|((aL la+1:Nat):Int)) ?_;refine rn 4<|Wa (λμ σ w=>∃(i:Nat),∃(P:Nat->Nat->Int),∃(R:Nat->Nat->Int),μ=aL la+1-i/\(i<=aL la+1)/\(Ck w w0.heap.size b1 pb rb la lb Aa Ab k1 k2 kP kR q r P R)/\(RD la lb R i 0)/\(PD la lb P i 0)/\AllEq σ [(0,.slice Aa (aL la) k1),(1,.slice Ab (aL lb) k2),(5,.pointer<|some ⟨b1,0,none⟩),(46,J<|((aL la+1:Nat):Int)),(47,J<|(i:Int))]/\FR w0 [] [] w) _ ⟨0,_,_,O,cZ _,hK,λa b _ _ h=>by omega,λa b _ _ h=>by omega,Ib,hF⟩ ?_;rintro μ σ w ⟨i,P,R,rfl,hi,hK,hRD,hPD,hzz,hF⟩;refine Tf hzz 7 ⟨λhc1=>?_,λhc1=>?_⟩
 ·
  refine rn 14<|Kc (Ce<|((aL lb+1:Nat):Int)) ?_;refine rn 4<|Wa (λμ σ w=>∃(j:Nat),∃(P:Nat->Nat->Int),∃(R:Nat->Nat->Int),μ=aL lb+1-j/\(j<=aL lb+1)/\(Ck w w0.heap.size b1 pb rb la lb Aa Ab k1 k2 kP kR q r P R)/\(RD la lb R i j)/\(PD la lb P i j)/\AllEq σ [(0,.slice Aa (aL la) k1),(1,.slice Ab (aL lb) k2),(5,.pointer<|some ⟨b1,0,none⟩),(6,J<|(i:Int)),(46,J<|((aL la+1:Nat):Int)),(47,J<|(i:Int)),(52,J<|((aL lb+1:Nat):Int)),(53,J<|(j:Int))]/\FR w0 [] [] w) _ ⟨0,P,R,O,cZ _,hK,hRD,hPD,Ib,hF⟩ ?_;rintro μ σ w ⟨j,P,R,rfl,hj,hK,hRD,hPD,hzz,hF⟩;refine Tf hzz 7 ⟨λhc2=>?_,λhc2=>?_⟩
  ·
   refine rn 10<|Yb (.of [25]) (bQ [0,1,2,3,4,5,6,7,8,9,10,11,12,13,14,15,16,17,18,19,20,21,22]<|.act 23<|.free 24<|.act 25 .nil) hF ?_;intro w hF hE;have hK:=hK.ext hE;refine⟨λwq=>FR w0 [] _ wq/\∃P_,Ck wq w0.heap.size b1 pb rb la lb Aa Ab k1 k2 kP kR q r P_ R,⟨hF,⟨_,hK⟩⟩,?_⟩;refine rn 3 ?_;refine Fa rfl (v:=W rb (aL la+1) kR) (λw hC=>Ma mZ (hx:=rfl) (by obtain⟨_,h_⟩:=hC.2;exact h_.c3)) ?_;refine rn 3<|Dv O (W5<|((aL la-i:Nat):Int))<|Fa O (v:=.pointer<|some ⟨rb,aL la-i,none⟩) (λw hC=>Va (i:=((aL la-i:Nat):Int)) (aL la-i) Cj O O kX kX kX) ?_;refine Fa rfl (v:=.slice (some ⟨r<|aL la-i,0,none⟩) (aL lb+1)<|aL lb+1) (λw hC=>Ma rZ (hx:=rfl) (by obtain⟨_,h_⟩:=hC.2;exact h_.rest.rowCell kX)) ?_;refine rn 3<|Dv O (W5<|((aL lb-j:Nat):Int)) ?_;refine rn 4<|Dv O (W5<|((aL la-i:Nat):Int)) ?_;refine rn 3<|Dv O (W5<|((aL lb-j:Nat):Int)) ?_;refine Bf (cleast_c _ w0.heap.size b1 pb rb la lb Aa Ab k1 k2 kP kR q r P R hK (aL la-i) (aL lb-j) hll kX kX hF.same.size hRa hRb hla hlb (λh=>hRD _ _ kX kX kX) (λh=>hRD _ _ kX kX kX) λh h2=>hRD _ _ kX kX kX) ?_;rintro _ w ⟨P2,rfl,hK2,hPn,hPo,hE⟩;have hF:=hF.touch hE (λb hb=>by obtain⟨i,hi,rfl⟩:=Jn.1 hb;exact⟨λh=>absurd h (by have:=hK.lo.2.2.2.1 i hi;omega),Da⟩);clear hK hE;have hK:=hK2;clear hK2;refine⟨⟨hF,⟨_,hK⟩⟩,?_⟩;refine Fa O (v:=.pointer<|some ⟨r<|aL la-i,aL lb-j,none⟩) (λw hC=>Va (i:=((aL lb-j:Nat):Int)) (aL lb-j) Se O O kX kX kX)<|D9 O hF uZ O O (hK.rest.row (aL la-i) kX) kX (.inr<|hK.lo.2.2.2.2 _ kX) Da ?_;intro w hF hE hnew;have hK:=hK.putR kX hE hnew;refine rn 4<|Kc (Ce<|((j+1:Nat):Int)) ?_;refine rn 2<|Ja ⟨_,?_,j+1,P2,_,O,kX,hK,hRD.step kX kX,hPD.step hPn hPo,Ib,hF⟩
   omega
  refine rn 4<|Kc (Ce<|((i+1:Nat):Int)) ?_;refine rn 2 ?_;refine Ja ⟨_,?_,i+1,P,R,rfl,kX,hK,((by obtain rfl:j=aL lb+1:=kX;exact hRD.row)),((by obtain rfl:j=aL lb+1:=kX;exact hPD.row)),Ib,hF⟩;omega
 refine rn 9 ?_;obtain rfl:i=aL la+1:=by_Om
 exact⟨b1,pb,rb,kP,kR,q,r,P,R,O,hK,λa b ha hb=>hRD a b ha hb kX,λa b h1 h2=>hPD a b h1 h2 kX,hF.same⟩
def IA:Nat->Nat->Nat->List TreeN->List TreeN->List (Int × Int)
  | 0,_,_,_,_=>[]
  | f + 1, i, j, x :: xs, y :: ys =>
    if al Eo pN (x::xs) (y::ys)=pN x y+al Eo pN xs ys then ((i:Int),(j:Int))::IA f (i+1) (j+1) xs ys
    else if al Eo pN (x::xs) (y::ys)=Eo x+al Eo pN xs (y::ys) then IA f (i+1) j xs (y::ys)
    else IA f i (j+1) (x::xs) ys
  | _+1,_,_,_,_=>[]
theorem Uw:∀(f g:Nat)(i j:Nat)(xs ys:List TreeN),aL xs+aL ys<=f->aL xs+aL ys<=g->IA f i j xs ys=IA g i j xs ys
  | 0, g, i, j, xs, ys, h, _ => by
    obtain rfl:xs=[]:=List.eq_nil_of_length_eq_zero kX;cases g <;> rfl
  | f + 1, 0, i, j, xs, ys, _, h => by
    obtain rfl:xs=[]:=List.eq_nil_of_length_eq_zero kX;rfl
  | f+1,g+1,i,j,[],ys,_,_=>rfl
  | f+1,g+1,i,j,x::xs,[],_,_=>rfl
  | f + 1, g + 1, i, j, x :: xs, y :: ys, h1, h2 => by
    simp only[kQ]at h1 h2;rw[IA,IA,Uw f g (i+1) (j+1) xs ys kX kX,Uw f g (i+1) j xs (y::ys) wW wW,Uw f g i (j+1) (x::xs) ys wW wW]
def pth(i j:Nat)(xs ys:List TreeN):List (Int × Int):=IA (aL xs+aL ys) i j xs ys
section
variable {la lb:List TreeN}{i j:Nat}
theorem Wz(h1:i<aL la)(h2:j<aL lb):pth i j (la.drop i) (lb.drop j) =
    if al Eo pN (la.drop i) (lb.drop j)=pN la[i] lb[j]+al Eo pN (la.drop (i+1)) (lb.drop (j+1)) then ((i:Int),(j:Int))::pth (i+1) (j+1) (la.drop (i+1)) (lb.drop (j+1))
    else if al Eo pN (la.drop i) (lb.drop j)=Eo la[i]+al Eo pN (la.drop (i+1)) (lb.drop j) then pth (i+1) j (la.drop (i+1)) (lb.drop j)
    else pth i (j+1) (la.drop i) (lb.drop (j+1)):=by
  unfold pth;rw[List.drop_eq_getElem_cons h1,List.drop_eq_getElem_cons h2];rw[show (aL (la[i]::la.drop (i+1)))+aL (lb[j]::lb.drop (j+1))=(aL (la.drop<|i+1)+aL (lb.drop<|j+1)+1)+1 by simp only[kQ];omega,IA];grind [Uw]
def L1(h:¬(i<aL la/\j<aL lb):=by omega):pth i j (la.drop i) (lb.drop j)=[]:=by
  unfold pth;by_cases h1:aL la<=i
  ·rw[List.drop_eq_nil_of_le h1]
   generalize (aL ([]:List TreeN))+aL (lb.drop j)=f;cases f <;> rfl
  rw[List.drop_eq_nil_of_le (show aL lb <= j by omega)];generalize (aL (la.drop i))+aL ([]:List TreeN)=f;cases f
  ·rfl
  cases la.drop i <;> rfl
theorem Yz(n m:Nat):∀(f i j:Nat)(xs ys:List TreeN),i+aL xs<=n->j+aL ys<=m->∀z∈IA f i j xs ys,(i:Int)<=z.1/\z.1<(n:Int)/\(j:Int)<=z.2/\z.2<(m:Int)
  | 0,_,_,_,_,_,_,z,hz=>by cases hz
  | f+1,i,j,[],_,_,_,z,hz=>by cases hz
  | f+1,i,j,_::_,[],_,_,z,hz=>by cases hz
  | f + 1, i, j, x :: xs, y :: ys, h1, h2, z, hz => by
    simp only[kQ]at h1 h2;rw[IA]at hz;split at hz
    ·rcases oQ.1 hz with rfl|hz
     ·simp only;omega
     have:=Yz n m f (i+1) (j+1) xs ys kX kX z hz;omega
    split at hz
    ·have:=Yz n m f (i+1) j xs (y::ys) kX wW z hz;omega
    have:=Yz n m f i (j+1) (x::xs) ys wW kX z hz;omega
end
theorem E4{S:Nat->Prop}{w:World}:∀{m:List (Int × Int)},(∀z∈m,(-9223372036854775808<=z.1/\z.1<=9223372036854775807)/\(-9223372036854775808<=z.2/\z.2<=9223372036854775807))->RepL S w (m.map FF) (KB m)
  | [],_=>by rw[List.map_nil,RepL];rfl
  | z :: m, h => by
    rw[jZ,RepL];exact⟨L0 z,KB m,O,rep_pair (h z Da).1 (h z Da).2,E4 λy hy=>h y zV⟩
theorem CF(l:List Tree)(A:Option Addr)(c:Nat)(S:Nat->Prop)(w0:World)(hG:Gl w0)(hX:Rep S w0 (.slice (Rb l)) [.slice A (aL l) c])(hok:∀x∈l,Zm x) :
    Calls prog 141 #[.slice A (aL l) c] w0 (Qb λv w'=>∃V,v=.tuple #[V,J (Pe l)]/\Same [] w0 w'):=by grind [Bk,OX]
theorem WD(l:List Tree)(la:List TreeN)(hl:la=l.map Jg)(he:Pe l=0)(A:Option Addr)(c:Nat)(S:Nat->Prop)(w0:World)(hG:Gl w0)(hX:Rep S w0 (.slice (Rb l)) [.slice A (aL l) c])(hok:∀x∈l,Zm x) :
    Calls prog 141 #[.slice A (aL l) c] w0 (Qb λv w'=>∃(A':Option Addr)(c':Nat),v=.tuple #[.slice A' (aL la) c',J 0]/\Rep (Btw w0 w') w' (.slice (la.map Bo)) [.slice A' (aL la) c']/\Same [] w0 w'):=by grind [Bk,OX]
def SS(a b:List Tree):Int:=if Pe a=1\/Pe b=1 then 1 else if Pe a=0/\Pe b=0 then 0 else 6
theorem E2(h:Pe l=0):(∀x∈l,Ob x=true)/\aL l<=64/\V7 l<=512:=by grind [Pe]
def MO(h:Pe l=0)(hok:∀x∈l,Zm x):(∀x∈l.map Jg,Ki x.1 x.2)/\∀x∈l.map Jg,Eo x<=512:=by
  have hy:=E2 h;constructor
  ·intro x hx
   obtain⟨t,ht,rfl⟩:=nQ.1 hx;exact N9 (hy.1 t ht) (hok t ht).2.1
  intro x hx;obtain⟨t,ht,rfl⟩:=nQ.1 hx;have h1:=Ts<|hy.1 t ht;have h2:=(hok t ht).2.1;show (aL (Dl t))<=512;omega
def CkLt(N1 cb pb rb n:Nat)(q r:Nat->Nat):Prop:=cb<N1/\pb<N1/\rb<N1/\∀i,i<n+1->q i<N1/\r i<N1
section
variable {w w':World}{N0 N1 cb pb rb:Nat}{la lb:List TreeN}{Aa Ab:Option Addr}{k1 k2 k3 k4:Nat}{q r:Nat->Nat}{P R:Nat->Nat->Int}
def Ck.lt(h:Ck w N0 cb pb rb la lb Aa Ab k1 k2 k3 k4 q r P R):CkLt w.heap.size cb pb rb (aL la) q r:=by
  obtain⟨_,h1,_⟩:=h.pair.top;obtain⟨_,h2,_⟩:=h.rest.top;exact⟨Ia h.cell,Ia h1,Ia h2,λi hi=>⟨Ia<|h.pair.row i hi,Ia<|h.rest.row i hi⟩⟩
theorem Ck.apart(h:Ck w N0 cb pb rb la lb Aa Ab k1 k2 k3 k4 q r P R)(hl:CkLt N1 cb pb rb (aL la) q r){E:List Nat}(hs:Same E w w')(he:∀b∈E,N1<=b):Ck w' N0 cb pb rb la lb Aa Ab k1 k2 k3 k4 q r P R:=by
  have hlo:=h.lo;have nl:∀x,x<N1->x∉E:=qK
  exact h.keep hs (λb hb=>by have:=he b hb;have:=hl.1;omega) (nl _ hl.1) (nl _ hl.2.1) (nl _ hl.2.2.1) (λi hi=>nl _ (hl.2.2.2 i hi).1) λi hi=>nl _ (hl.2.2.2 i hi).2
end
theorem rows_no(S S':Nat->Prop)(w0:World)(hG:Gl w0)(x y:List Tree)(A B:Option Addr)(c e:Nat)(hX:Rep S w0 (.slice (Rb x)) [.slice A (aL x) c])(hY:Rep S' w0 (.slice (Rb y)) [.slice B (aL y) e])(hokx:∀z∈x,Zm z)(hoky:∀z∈y,Zm z)(hne:¬(Pe x=0/\Pe y=0)):Calls prog 108 #[.slice A (aL x) c,.slice B (aL y) e] w0 (Qb λv w'=>v=.tuple #[aQ,J 0,J (SS x y)]/\Same [] w0 w'):=by
 refine Ga func108 ntmps108 ?_;intro hF;refine rn 10<|Gc (CF x _ _ _ _ (hG.ext hF.same) (hF.rep hX) hokx) ?_;rintro _ w ⟨V0,rfl,hE⟩;have hF:=hF.ext hE;refine rn 10<|Gc (CF y _ _ _ _ (hG.ext hF.same) (hF.rep hY) hoky) ?_;rintro _ w ⟨V1,rfl,hE⟩;have hF:=hF.ext hE;refine rn 15 ⟨λhg0=>?_,λhg0=>?_⟩;refine rn 15 ?_;exact⟨by rw[SS,uQ qB],hF.same⟩;refine rn 7 ⟨λhc0=>?_,λhc0=>?_⟩;refine rn 8 ?_;exact⟨by rw[SS,uQ qB],hF.same⟩;refine rn 6 ⟨λhg1=>?_,λhg1=>?_⟩;refine rn 15 ?_;exact⟨by rw[SS,tQ qB,tQ qB],hF.same⟩;refine rn 7 ⟨λhc1=>?_,λhc1=>?_⟩;refine rn 8 ?_;exact⟨by rw[SS,tQ qB,tQ qB],hF.same⟩;exact absurd hne qB
def rows_yes(S S':Nat->Prop)(w0:World)(hG:Gl w0)(x y:List Tree)(A B:Option Addr)(c e:Nat)(hX:Rep S w0 (.slice (Rb x)) [.slice A (aL x) c])(hY:Rep S' w0 (.slice (Rb y)) [.slice B (aL y) e])(hokx:∀z∈x,Zm z)(hoky:∀z∈y,Zm z)(la lb:List TreeN)(hla:la=x.map Jg)(hlb:lb=y.map Jg)(hex:Pe x=0)(hey:Pe y=0):Calls prog 108 #[.slice A (aL x) c,.slice B (aL y) e] w0 (Qb λv w'=>∃(Az:Option Addr)(cz:Nat),v=.tuple #[.slice Az (aL (pth 0 0 la lb)) cz,J ((al Eo pN la lb:Nat):Int),J 0]/\Rep (Btw w0 w') w' (R5 (pth 0 0 la lb)) [.slice Az (aL (pth 0 0 la lb)) cz]/\Same [] w0 w'):=by
 have hRa:(∀x∈la,Ki x.1 x.2)/\∀x∈la,Eo x<=512:=by rw[hla];exact MO hex hokx
 have hRb:(∀x∈lb,Ki x.1 x.2)/\∀x∈lb,Eo x<=512:=by rw[hlb];exact MO hey hoky
 have hll:aL la<=64/\aL lb<=64:=by rw[hla,hlb,rQ,rQ];exact⟨(E2 hex).2.1,(E2 hey).2.1⟩
 refine Ga func108 ntmps108 ?_;intro hF;refine rn 10<|Gc (WD x la hla hex _ _ _ _ (hG.ext hF.same) (hF.rep hX) hokx) ?_;rintro _ w ⟨T0,t0,rfl,hT0,hE⟩;have hF:=hF.ext hE;refine rn 10<|Gc (WD y lb hlb hey _ _ _ _ (hG.ext hF.same) (hF.rep hY) hoky) ?_;rintro _ w ⟨T1,t1,rfl,hT1,hE⟩;have hF:=hF.ext hE;have hT0:=hT0.ext hE;refine rn 12<|Ca (v:=.bool false) (Ed Xn Ra) ?_;refine rn 2<|Ca (v:=.bool false) (Ed Xn Ra) ?_;refine rn 8<|Ca (v:=.bool false) (Ed Q7 Ra) ?_;refine rn 2<|Ca (v:=.bool false) (Ed Q7 Ra) ?_;refine rn 12 ?_;obtain⟨N0,hN0⟩:∃N,N=w.heap.size:=⟨_,rfl⟩;refine Gc (reckon_c _ _ _ la lb T0 T1 t0 t1 hT0 hT1 hll hRa.1 hRb.1 hRa.2 hRb.2) ?_;rintro _ w ⟨cb,pb,rb,k3,k4,q,r,P,R,rfl,hK,hR0,hP0,hE⟩;rw[<-hN0]at hK;have hF:=hF.ext hE;have hlt:=hK.lt;obtain⟨N1,hN1⟩:∃N,N=w.heap.size:=⟨_,rfl⟩;rw[<-hN1]at hlt;have hNw:N1<=w.heap.size:=Nat.le_of_eq hN1;clear hE hN0 hN1 hT0 hT1;have hmx:∀x y,al Eo pN (la.drop x) (lb.drop y)<=65536:=λx y=>fQ (al_max (λz hz=>hRa.2 z<|List.mem_of_mem_drop hz) λz hz=>hRb.2 z<|List.mem_of_mem_drop hz) (by simp only[yQ];omega);have hRq:∀a b,a<=aL la->b<=aL lb->0<=R a b/\R a b<=1000000:=λa b ha hb=>by have h1:=hmx a b;rw[hR0 a b ha hb];omega
 have hPq:∀a b (h1:a<aL la) (h2:b<aL lb),0<=P a b/\P a b<=1000000:=λa b h1 h2=>by have h3:pN la[a] lb[b]<=aL la[a].1+aL lb[b].1:=(Yu (ls:=la[a].1) (fs:=la[a].2) (gs:=lb[b].1) (hs:=lb[b].2)).1;have h4:aL la[a].1<=512:=hRa.2 _<|eQ h1;have h5:aL lb[b].1<=512:=hRb.2 _<|eQ h2;rw[hP0 a b h1 h2];omega
 refine rn 16<|Wa (λμ σ w=>∃(i:Nat),∃(j:Nat),∃(Ao:Option Addr),∃(co:Nat),∃(so:List (Nat × Obj)),∃(acc:List (Int × Int)),μ=aL la+aL lb-(i+j)/\(i<=aL la)/\(j<=aL lb)/\(SlB 191 2 Ao (aL acc) co (KB acc) so)/\(Ck w N0 cb pb rb la lb T0 T1 t0 t1 k3 k4 q r P R)/\(N1<=w.heap.size)/\(∀z∈so,N1<=z.1)/\(acc++pth i j (la.drop i) (lb.drop j)=pth 0 0 la lb)/\(aL acc<=i)/\AllEq σ [(7,.slice T0 (aL la) t0),(9,.slice T1 (aL lb) t1),(11,.pointer<|some ⟨cb,0,none⟩),(12,.slice Ao (aL acc) co),(13,J<|(i:Int)),(14,J<|(j:Int))]/\FR w0 [] ([]++(so++[])) w) _ ⟨0,0,none,0,[],[],O,cZ _,cZ _,SlB.nil _ _,hK,hNw,Da,Da,cZ _,Ib,hF⟩ ?_;rintro μ σ w ⟨i,j,Ao,co,so,acc,rfl,hi,hj,hSo,hK,hNw,hso,hac,hal,hzz,hF⟩;refine Tf hzz 9 ⟨λhg0=>?_,λhg0=>?_⟩;refine rn 8 ⟨λhc2=>?_,λhc2=>?_⟩;refine rn 8<|Ca (v:=W rb (aL la+1) k4) (Ma mZ hK.c3) ?_;refine rn 1<|Ca (v:=.pointer<|some ⟨rb,i,none⟩) (Va (i:=((i:Nat):Int)) (i) Cj O O kX kX kX)<|Ca (v:=.slice (some ⟨r i,0,none⟩) (aL lb+1)<|aL lb+1) (Ma rZ<|hK.rest.rowCell kX) ?_;refine rn 1<|Ca (v:=.pointer<|some ⟨r i,j,none⟩) (Va (i:=((j:Nat):Int)) (j) Se O O kX kX kX)<|Ca (v:=J<|R i j) (Ma pZ<|hK.rest.cell kX kX) ?_;refine rn 8<|Sa (BI _ N0 cb pb rb la lb T0 T1 t0 t1 k3 k4 q r P R hK i j hll kX kX (hPq i j kX kX)<|hRq (i+1) (j+1) kX kX) ?_;intro w hF hE;have hK:=hK.ext hE;have hNw:=fQ hNw hE.size;refine rn 5 ⟨λhc3=>?_,λhc3=>?_⟩;refine rn 5<|Ca (w':=w) (v:=.agg #[J<|(i:Int),J<|(j:Int)]) Gb ?_;refine rn 1 ?_;intro b1 w hb1 hF hE;have hK:=hK.ext hE;have hNw:=fQ hNw hE.size;refine LC hSo (len':=aL (acc++[((i:Int),(j:Int))])) (ys:=KB<|acc++[((i:Int),(j:Int))]) Da (by simp[KB]) ?_;intro A1 c1 o_1 w hS1_o hF hE hnew;have hK:=hK.apart hlt hE (λb hb_=>by obtain⟨z,hz,rfl⟩:=nQ.1 hb_;exact hso z hz)
 have hso:=λz hz=>(hnew z hz).elim (λh=>by obtain⟨z2,hz2,e⟩:=nQ.1 h;rw[<-e];exact hso z2 hz2) (λh=>fQ hNw h);have hNw:=fQ hNw hE.size;refine rn 5<|Kc (Ce<|((i+1:Nat):Int)) ?_;refine rn 1<|Kc (Ce<|((j+1:Nat):Int)) ?_;refine rn 5 ?_;refine Ja ⟨_,?_,i+1,j+1,A1,c1,o_1,acc++[((i:Int),(j:Int))],O,kX,kX,hS1_o,hK,hNw,hso,by rw[sQ,List.singleton_append,<-hac,Wz (la:=la) (lb:=lb) (i:=i) (j:=j) kX kX,uQ jW],by simp only[dQ,kQ,aZ];omega,Ib,hF.su⟩;omega;refine rn 5<|Sa (Y0 N0 cb pb rb la lb T0 T1 t0 t1 k3 k4 q r P R hK i j hll (λj h=>hRa.2 _<|eQ h)<|hRq (i+1) j kX kX) ?_;intro w hF hE;have hK:=hK.ext hE;have hNw:=fQ hNw hE.size;refine rn 5 ⟨λhc4=>?_,λhc4=>?_⟩;refine rn 2<|Kc (Ce<|((i+1:Nat):Int)) ?_;refine rn 4 ?_;refine Ja ⟨_,?_,i+1,j,Ao,co,so,acc,O,kX,kX,hSo,hK,hNw,hso,by rw[<-hac,Wz (la:=la) (lb:=lb) (i:=i) (j:=j) kX kX,tQ jW,uQ kV],kX,Ib,hF⟩;omega;refine rn 2<|Kc (Ce<|((j+1:Nat):Int)) ?_;refine rn 4 ?_;refine Ja ⟨_,?_,i,j+1,Ao,co,so,acc,O,kX,kX,hSo,hK,hNw,hso,by rw[<-hac,Wz (la:=la) (lb:=lb) (i:=i) (j:=j) kX kX,tQ jW,tQ kV],kX,Ib,hF⟩;omega;refine rn 3<|Yb (.of []) (bQ [0,1,2,3,4,5,6,7,8,9,10,11] .nil) hF ?_;intro w hF hE;have hK:=hK.ext hE;have hNw:=fQ hNw hE.size;refine⟨λwq=>FR w0 [] [] wq/\Ck wq N0 cb pb rb la lb T0 T1 t0 t1 k3 k4 q r P R,⟨hF.sub<|List.nil_sublist _,hK⟩,?_⟩
 refine rn 4 ?_;refine Fa O (v:=W rb (aL la+1) k4) (λw hC=>Ma mZ hC.2.c3)<|Fa O (v:=.pointer<|some ⟨rb,0,none⟩) (λw hC=>Va (i:=0) 0 Cj O O Ra kX kX)<|Fa O (v:=.slice (some ⟨r 0,0,none⟩) (aL lb+1)<|aL lb+1) (λw hC=>Ma rZ<|hC.2.rest.rowCell kX)<|Fa O (v:=.pointer<|some ⟨r 0,0,none⟩) (λw hC=>Va (i:=0) 0 Se O O Ra kX kX)<|Fa O (v:=J<|R 0 0) (λw hC=>Ma pZ<|hC.2.rest.cell kX kX) ?_;refine rn 6 ?_;have he:acc=pth 0 0 la lb:=by rw[<-hac,L1,qQ]
 have hin:=Yz (aL la) (aL lb) (aL la+aL lb) 0 0 la lb kX kX;rw[he]at hSo;have hrep:=hSo.rep (w0:=w0) (pre:=[]) (post:=[]) hF (RX.plain (ids:=[]) λS=>E4 (m:=pth 0 0 la lb) (λz hz=>by have:=hin z hz;omega)) Da;exact⟨Ao,co,by rw[he,hR0 0 0 kX kX];rfl,hrep,hF.same⟩;refine rn 11<|Yb (.of []) (bQ [0,1,2,3,4,5,6,7,8,9,10,11] .nil) hF ?_;intro w hF hE;have hK:=hK.ext hE;have hNw:=fQ hNw hE.size;refine⟨λwq=>FR w0 [] [] wq/\Ck wq N0 cb pb rb la lb T0 T1 t0 t1 k3 k4 q r P R,⟨hF.sub<|List.nil_sublist _,hK⟩,?_⟩;refine rn 4 ?_;refine Fa O (v:=W rb (aL la+1) k4) (λw hC=>Ma mZ hC.2.c3)<|Fa O (v:=.pointer<|some ⟨rb,0,none⟩) (λw hC=>Va (i:=0) 0 Cj O O Ra kX kX)<|Fa O (v:=.slice (some ⟨r 0,0,none⟩) (aL lb+1)<|aL lb+1) (λw hC=>Ma rZ<|hC.2.rest.rowCell kX)<|Fa O (v:=.pointer<|some ⟨r 0,0,none⟩) (λw hC=>Va (i:=0) 0 Se O O Ra kX kX)<|Fa O (v:=J<|R 0 0) (λw hC=>Ma pZ<|hC.2.rest.cell kX kX) ?_;refine rn 6 ?_;have he:acc=pth 0 0 la lb:=by rw[<-hac,L1,qQ]
 have hin:=Yz (aL la) (aL lb) (aL la+aL lb) 0 0 la lb kX kX;rw[he]at hSo;have hrep:=hSo.rep (w0:=w0) (pre:=[]) (post:=[]) hF (RX.plain (ids:=[]) λS=>E4 (m:=pth 0 0 la lb) (λz hz=>by have:=hin z hz;omega)) Da;exact⟨Ao,co,by rw[he,hR0 0 0 kX kX];rfl,hrep,hF.same⟩
def Zl(N:Nat)(f:Nat->Value):Array Value:=((List.range N).map f).toArray
def qQq(N:Nat)(f:Nat->Value):(Zl N f).size=N:=by simp[Zl]
def ZE{k:Nat}(h:k<N):(Zl N f)[k]? = some (f k):=by simp[Zl,h]
def Ny(f:Nat->Value)(k:Nat)(v:Value):Nat->Value:=λx=>if x=k then v else f x
def NW(f:Nat->Value)(k:Nat)(v:Value):Ny f k v k=v:=uQ rfl
def setV_ne{k x:Nat}{v:Value}(h:x≠k):Ny f k v x=f x:=tQ h
theorem setV_self{k:Nat}{v:Value}(h:f k=v):Ny f k v=f:=by grind [Ny]
theorem valsA_put{k:Nat}(u v:Value):putA (Zl N (Ny f k u)) k [v]=Zl N (Ny f k v):=by grind [putA,Zl,Ny]
theorem valsA_nil(N:Nat):(List.replicate N (Value.slice none 0 0)).toArray=Zl N λ_=>aQ:=by grind [Zl]
def rng(j k:Nat):List Int:=(List.range' j (k-j)).map λi:Nat=>(i:Int)
def rng_self(j:Nat):rng j j=[]:=by simp[rng]
def J8(j k:Nat):aL (rng j k)=k-j:=by simp[rng]
def rng_succ{j k:Nat}(h:j<=k):rng j (k+1)=rng j k++[(k:Int)]:=by
  unfold rng;rw[show k+1-j=k-j+1 by omega,List.range'_1_concat,jQ,show j+(k-j)=k by omega];rfl
theorem rng_max(j k:Nat):rng j (max j k)=rng j k:=by grind [rng]
theorem rng_in{j k:Nat}:∀z∈rng j k,(j:Int)<=z/\z<(k:Int):=λz hz=>by
  obtain⟨i,hi,rfl⟩:=nQ.1 hz;grind
def fill_c(w0:World)(N g ob jb vb tt j:Nat)(hd:Nat->Value)(acc:List Int)(A:Option Addr)(c:Nat)(sg:List (Nat × Obj))(hg:g<N)(hN:N<=65)(hto:tt<=64)(hj1:j<=1000)(hlen:aL acc<=100000)(hob:w0.heap[ob]? = some (.cells (Zl N hd) 42))(hjb:w0.heap[jb]? = some (.cells #[J (j:Nat)] 3))(hvb:w0.heap[vb]? = some (.cells #[W ob N N] 110))(hh:hd g=.slice A (aL acc) c)(hS:SlB 3 1 A (aL acc) c (IVs acc) sg)(hsg:∀z∈sg,w0.heap[z.1]? = some z.2/\z.1≠ob/\z.1≠jb/\z.1≠vb)(hne:jb≠ob/\vb≠ob/\vb≠jb):Calls prog 146 #[J ((g:Nat):Int),J ((tt:Nat):Int),.pointer (some ⟨jb,0,none⟩),.pointer (some ⟨vb,0,none⟩)] w0 (Qb λv w'=>∃(A':Option Addr)(c':Nat)(sg':List (Nat × Obj)),v=.tuple #[]/\w'.heap[ob]? = some (.cells (Zl N (Ny hd g (.slice A' (aL (acc++rng j tt)) c'))) 42)/\w'.heap[jb]? = some (.cells #[J ((max j tt:Nat):Int)] 3)/\w'.heap[vb]? = some (.cells #[W ob N N] 110)/\SlB 3 1 A' (aL (acc++rng j tt)) c' (IVs (acc++rng j tt)) sg'/\(∀z∈sg',w'.heap[z.1]? = some z.2/\z.1≠ob/\z.1≠jb/\z.1≠vb/\(z.1∈sg.map (·.1)\/w0.heap.size<=z.1))/\Same ([ob,jb,vb]++sg.map (·.1)) w0 w'):=by
 refine Bc func146 ntmps146 O O ?_;have hF:FR w0 ([ob,jb,vb]++sg.map (·.1)) ([(ob,.cells (Zl N<|Ny hd g<|.slice A (aL acc) c) 42),(jb,.cells #[J<|(j:Nat)] 3),(vb,.cells #[W ob N N] 110)]++(sg++[])) w0:=FR.open_ (λz hz=>by simp only[qQ,mQ,oQ,List.not_mem_nil,or_false]at hz ⊢;rcases hz with (rfl|rfl|rfl)|hz;(exact⟨by rw[setV_self hh];exact hob,Da⟩);(exact⟨hjb,Da⟩);(exact⟨hvb,Da⟩);(exact⟨(hsg z hz).1,.inr<|List.mem_map_of_mem hz⟩)) (by rw[qQ,List.pairwise_append];refine⟨by simp[hne.1,hne.2.1,hne.2.2],hS.pw,λz hz y hy=>?_⟩;have h:=hsg y hy;simp only[oQ,List.not_mem_nil,or_false]at hz;rcases hz with rfl|rfl|rfl;(exact h.2.1);(exact h.2.2.1);(exact h.2.2.2));refine rn 1 (Wa (λμ σ w=>∃(q:Nat),∃(Ax:Option Addr),∃(cx:Nat),∃(so:List (Nat × Obj)),∃(ac:List Int),μ=tt-q/\(j<=q/\(q<=tt\/q=j))/\(SlB 3 1 Ax (aL ac) cx (IVs ac) so)/\(ac=acc++rng j q)/\(∀z∈so,z.1∈sg.map (·.1)\/w0.heap.size<=z.1)/\(w0.heap.size<=w.heap.size)/\AllEq σ [(0,J<|(g:Nat)),(1,J<|(tt:Nat)),(2,.pointer<|some ⟨jb,0,none⟩),(3,.pointer<|some ⟨vb,0,none⟩)]/\FR w0 ([ob,jb,vb]++sg.map (·.1)) ([(ob,.cells (Zl N<|Ny hd g<|.slice Ax (aL ac) cx) 42),(jb,.cells #[J<|(q:Nat)] 3),(vb,.cells #[W ob N N] 110)]++(so++[])) w) _ ⟨j,A,c,sg,acc,O,kX,hS,by rw[rng_self,qQ],λz hz=>.inl<|List.mem_map_of_mem hz,hF.same.size,Ib,hF⟩ ?_);rintro μ σ w ⟨q,Ax,cx,so,ac,rfl,hq,hSo,hac,hso,hF0,hzz,hF⟩;refine Tf hzz 9 ⟨λhc0=>?_,λhc0=>?_⟩;refine rn 4<|Yb (.of [10]) (bQ [0,1,2,3,4,5,6]<|.act 7<|.act 8<|.free 9<|.act 10 .nil) hF ?_;intro w hF hE;have hF0:=fQ hF0 hE.size;refine⟨λwq=>FR w0 ([ob,jb,vb]++sg.map (·.1)) [(ob,.cells (Zl N<|Ny hd g<|.slice Ax (aL ac) cx) 42),(jb,.cells #[J<|(q:Nat)] 3),(vb,.cells #[W ob N N] 110)] wq,hF.mid 0 3,?_⟩;refine rn 4<|Fa O (v:=.pointer<|some ⟨ob,g,none⟩) (λw hC=>Va (i:=((g:Nat):Int)) (g) Cj O O kX kX kX) ?_
 refine Fa O (v:=.slice Ax (aL ac) cx) (λw hC=>Ma rZ (hx:=O) (by rw[Ua<|hC.heap (i:=0) O,ZE hg,NW]))<|rn 2 ?_;intro b1 w hb1 hF hE;have hF0:=fQ hF0 hE.size;refine X7 hSo (len':=aL (ac++[(q:Int)])) (ys:=IVs<|ac++[(q:Int)]) Da (by simp[IVs]) ?_ (h63:=by simp only[maxLen];have:=xQ List.length hac;simp only[dQ,J8]at this;omega) (hbytes:=by have:=xQ List.length hac;simp only[dQ,J8]at this;omega);intro A0 c0 o_0 w hS0_o hF hE hnew;have hso:∀z∈o_0,z.1∈sg.map (·.1)\/w0.heap.size<=z.1:=λz hz=>(hnew z hz).elim (λh=>by obtain⟨z2,hz2,e⟩:=nQ.1 h;rw[<-e];exact hso z2 hz2) (λh=>.inr<|fQ hF0 h);have hF0:=fQ hF0 hE.size;refine Fa O (v:=.pointer<|some ⟨ob,g,none⟩) (λw hC=>Va (i:=((g:Nat):Int)) (g) Cj O O kX kX kX) ?_;refine EO O 1 (l:=[.slice A0 (aL (ac++[(q:Int)])) c0]) (cs':=Zl N<|Ny hd g<|.slice A0 (aL (ac++[(q:Int)])) c0) hF sizeOf42 O O O Io O (by rw[qQq];simp only[List.length_singleton];omega) (valsA_put _ _) ?_;intro w hF hE;have hF0:=fQ hF0 hE.size;have hF:FR w0 ([ob,jb,vb]++sg.map (·.1)) ([(b1,.cells #[J<|(q:Nat)] 3),(ob,.cells (Zl N<|Ny hd g<|.slice A0 (aL (ac++[(q:Int)])) c0) 42),(jb,.cells #[J<|(q:Nat)] 3),(vb,.cells #[W ob N N] 110)]++(o_0++[])) w:=hF;refine rn 5<|Kc (Ce<|((q+1:Nat):Int)) ?_;refine rn 1 ?_;intro w hF hE;have hF0:=fQ hF0 hE.size;refine rn 1<|Ja ⟨_,?_,q+1,A0,c0,o_0,ac++[(q:Int)],O,kX,hS0_o,by rw[rng_succ kX,hac,sQ],hso,hF.same.size,Ib,hF.su⟩;omega;refine rn 2 ?_;obtain rfl:q=max j tt:=by_Om
 rw[rng_max]at hac;subst hac;have hps:=FR.apart (pre:=[_,_,_]) (rest:=so++[]) (i:=0) hF rfl;have hpj:=FR.apart (pre:=[_,_,_]) (rest:=so++[]) (i:=1) hF rfl;have hpv:=FR.apart (pre:=[_,_,_]) (rest:=so++[]) (i:=2) hF rfl;rw[qQ]at hps hpj hpv;exact⟨Ax,cx,so,O,hF.heap (i:=0) O,hF.heap (i:=1) O,hF.heap (i:=2) O,hSo,λz hz=>⟨(hF.own z zG).1,λe=>hps<|e▸List.mem_map_of_mem hz,λe=>hpj<|e▸List.mem_map_of_mem hz,λe=>hpv<|e▸List.mem_map_of_mem hz,hso z hz⟩,hF.same⟩
end Go.Scarf
