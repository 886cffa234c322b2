/- A part of the proof. -/
import Derived.Test.YtbhneplafiapdaaGreatDoorE1
set_option linter.all false
set_option maxHeartbeats 8000000
set_option maxRecDepth 10000
namespace Go.Scarf
open Go.RowKit Go.Proofs Go.Proofs.Tryz
theorem MI{α:Type}{a b:List α}{j:Nat}(h:∀i (h:i<a.length) (h2:i<b.length),i<j->a[i]=b[i])(hl:a.length=b.length)(hj:a.length<=j):a=b:=List.ext_getElem hl λi h1 h2=>h i h1 h2 Ca
theorem Z_{α:Type}{a b:List α}{j:Nat}{h1:j<a.length}{h2:j<b.length}(hq:∀i (h:i<a.length) (h2:i<b.length),i<j->a[i]=b[i])(h:a[j]=b[j]):∀i (h:i<a.length) (h2:i<b.length),i<j+1->a[i]=b[i]:=λi h3 h4 h5=>by
  by_cases e:i=j
  ·subst e;exact h
  exact hq i h3 h4 Ca
theorem K6(S S':Nat->Prop)(w0:World)(a b:List Int)(A B:Option Addr)(c e:Nat)(hX:Rep S w0 (.slice (a.map Lc)) [.slice A a.length c])(hY:Rep S' w0 (.slice (b.map Lc)) [.slice B b.length e]):Calls prog 16 #[.slice A a.length c,.slice B b.length e] w0 (Pd λv w'=>v=.bool (decide (a=b))/\Same [] w0 w'):=by
 have hXl:=hX.slice_len;have hYl:=hY.slice_len;rw[rQ]at hXl hYl;refine Ia func16 O ntmps16 Kb (Rd _ _) ?_;have hF:=FR.start w0 [];refine Ka (Da (Ob O) (Ea (Ha (Ka (Da (Od O) (Da (Bh gZ O) (Da (Od O) (Da (Bh gZ O) (Da (Ey O O) (Db ?_))))))))));refine Fa (Uc O O (λhc0=>?_) (λhc0=>?_));refine Ka (Da (Ob O) (Ea ?_));refine Yc (v:=.bool false) O O ?_;exact⟨congrArg Value.bool (decide_eq_false λq=>by subst q;omega).symm,hF.same⟩;refine Sa (Fa (Ha (Ka (Da (Gd O) (Ea (Wa ?_))))));have hll:a.length=b.length:=by omega
 refine Xc (λμ σ w=>∃(j:Nat),μ=a.length-j/\(j<=a.length)/\(∀i (h:i<a.length) (h2:i<b.length),i<j->a[i]=b[i])/\AllEq σ [(0,.slice A a.length c),(1,.slice B b.length e),(5,J ((j:Int)))]/\FR w0 [] [] w) _ ⟨0,O,Ca,(λi _ _ h=>by omega),V4,hF⟩ ?_;rintro μ σ w ⟨j,rfl,hj,hq,hs,hF⟩;refine Cg.slots hs ?_;clear hs;intro σ;refine Ha (Ka (Da (Bc O) (Da (Od O) (Da (Bh gZ O) (Da (Um O O) (Ea ?_))))));refine Uc O O (λhc1=>?_) (λhc1=>?_);refine Sa (Fa (Ha (Wa (Ha ?_))));refine Nf (zs:=.of []) (bQ [0,1,2,3,4,5,6,7,8] .nil) hF ?_;intro w hF;refine Hc O (Od O) (Hc O (Bc O) ?_);obtain⟨ad0,hA0,hk0,hx0⟩:=hX.int_elem (i:=j) Ca;refine Vb O (v:=.pointer (some (ad0.add (j*1)))) (λw hC=>Ta (i:=(j:Int)) Dh O hA0 O Ca Ca) (Vb O (v:=J (a[j])) (λw hC=>Zc wQ O (hC.cell0 hk0)) (Hc O (Od O) (Hc O (Bc O) ?_)));obtain⟨ad1,hA1,hk1,hx1⟩:=hY.int_elem (i:=j) Ca;refine Vb O (v:=.pointer (some (ad1.add (j*1)))) (λw hC=>Ta (i:=(j:Int)) Dh O hA1 O Ca Ca) (Vb O (v:=J (b[j])) (λw hC=>Zc wQ O (hC.cell0 hk1)) (Hc O (Ey O O) (Qd (Fa ?_))));refine Uc O O (λhc2=>?_) (λhc2=>?_);refine Ka (Da (Ob O) (Ea ?_));refine Yc (v:=.bool false) O O ?_;exact⟨congrArg Value.bool (decide_eq_false λq=>by subst q;exact absurd rfl (by assumption)).symm,hF.same⟩;refine Sa (Qb (Fa (Ja (Da (Bc O) (Da (A5 (((j+1:Nat):Int)) O O) (Da (Gd O) (Db ?_)))))));refine Dc ⟨_,?_,j+1,O,Ca,(Z_ hq (Classical.not_not.1 (by assumption))),V4,hF⟩;omega;refine Nc (Fc O ?_);refine Fa (Ka (Da (Ob O) (Ea ?_)));refine Yc (v:=.bool true) O O ?_;exact⟨congrArg Value.bool (decide_eq_true (MI hq hll Ca)).symm,hF.same⟩
def JR(k:Str):Str:=107::WC (.node 4 k [] [])
mutual
def ED:Tree->List Str
  | .node k t ks xs=>if k=5 then RJ xs++[[91]] else if k=6 then CK xs ks++[[123]] else [WC (.node k t ks xs)]
def RJ:List Tree->List Str
  | []=>[]
  | x::xs=>ED x++RJ xs
def CK:List Tree->List Str->List Str
  | [],_=>[]
  | x::xs,ks=>ED x++(JR (ks.headD [])::CK xs ks.tail)
end
mutual
def TL:Tree->Nat->List Int
  | .node k _ ks xs,b=>if k=5 then AJ xs b++[(b:Int)] else if k=6 then HJ xs ks b++[(b:Int)] else [(b:Int)]
def AJ:List Tree->Nat->List Int
  | [],_=>[]
  | x::xs,b=>TL x b++AJ xs (b+(ED x).length)
def HJ:List Tree->List Str->Nat->List Int
  | [],_,_=>[]
  | x::xs,ks,b=>TL x b++((b:Int)::HJ xs ks.tail (b+(ED x).length+1))
end
def Beh(fs:List Int)(b:Nat):Prop:=∀j (h:j<fs.length),b<=j->(b:Int)<=fs[j]
theorem Beh.all(fs:List Int):Beh fs fs.length:=λj hj h=>by omega
section
variable {w w' w0:World}{Ds E:List Nat}{bs_:List (Nat × Obj)}{B pb:Nat}{ls ls':List Str}{fs fs':List Int}
def MJ:Obj->Bool
  | .cells _ e _=>e==9 || e==3
  | _=>false
def Nj(w:World)(b:Nat):Bool:=match w.heap[b]? with|some o=>MJ o|none=>false
def Wk2(w:World)(B pb:Nat):List Nat:=pb::(List.range w.heap.size).filter λb=>decide (B<=b)&&Nj w b
theorem Nn{x:Nat}:x∈Wk2 w B pb↔x=pb\/(x<w.heap.size/\B<=x/\Nj w x=true):=by simp[Wk2]
theorem ZA{b:Nat}{o:Obj}(h:w.heap[b]? = some o):Nj w b=MJ o:=by simp[Nj,h]
def HS(ls:List Str):List Value:=ls.map λs=>Value.string (bs s)
def XQ(fs:List Int):List Value:=fs.map λn=>Value.int .i64 n
theorem SlB.typ{e m n c:Nat}{A:Option Addr}{xs:List Value}{sb:List (Nat × Obj)}(h:SlB e m A n c xs sb):sb.length<=1/\∀q∈sb,∃cur,q.2=.cells cur e:=by
  rcases h.2 with ⟨-,-,rfl⟩|⟨g,cur,-,rfl,-⟩
  ·exact⟨by simp,λq hq=>by cases hq⟩
  exact⟨by simp,λq hq=>by simp only[pQ]at hq;subst hq;exact⟨cur,rfl⟩⟩
structure Tb (w:World) (B pb:Nat) (ls:List Str) (fs:List Int):Prop where
  lt:pb<B
  le:B<=w.heap.size
  ex:∃(A:Option Addr)(c:Nat)(sl:List (Nat × Obj))(A':Option Addr)(c':Nat)(sf:List (Nat × Obj)),w.heap[pb]? = some (.cells #[.slice A ls.length c,.slice A' fs.length c'] 302) /\
    SlB 9 1 A ls.length c (HS ls) sl/\SlB 3 1 A' fs.length c' (XQ fs) sf/\∀q∈sl++sf,w.heap[q.1]? = some q.2/\B<=q.1
theorem Tb.ltw(h:Tb w B pb ls fs):pb<w.heap.size:=Nat.lt_of_lt_of_le h.lt h.le
theorem Tb.len(h:Tb w B pb ls fs):∃A c A' c',w.heap[pb]? = some (.cells #[.slice A ls.length c,.slice A' fs.length c'] 302):=by
  obtain⟨-,-,A,c,sl,A',c',sf,h1,-⟩:=h;exact⟨A,c,A',c',h1⟩
theorem Wk2.step{x:Nat}(hs:Same (Wk2 w B pb) w w')(hx:x∈Wk2 w' B pb):x∈Wk2 w B pb\/w.heap.size<=x:=by
  by_cases h:x<w.heap.size
  ·by_cases hm : x ∈ Wk2 w B pb
   ·exact .inl hm
   rcases Nn.1 hx with rfl|⟨h1, h2, h3⟩
   ·exact .inl (Nn.2 (.inl O))
   refine absurd (Nn.2 (.inr ⟨h, h2, ?_⟩)) hm;rw[Nj,<-hs.block x h hm];exact h3
  exact .inr Ca
theorem Tb.same(h:Tb w B pb ls fs)(hs:Same E w w')(hp:pb∉E)(he:∀x∈E,B<=x->Nj w x=false):Tb w' B pb ls fs:=by
  have hlt:=h.ltw;obtain⟨h1,h2,A,c,sl,A',c',sf,h3,h4,h5,h6⟩:=h;refine⟨h1,fQ h2 hs.size,A,c,sl,A',c',sf,(hs.block pb hlt hp).trans h3,h4,h5,λq hq=>?_⟩;obtain⟨h7,h8⟩:=h6 q hq;have ht:Nj w q.1=true:=by
    rw[ZA h7];rcases mQ.1 hq with hq|hq
    ·obtain⟨cur,e⟩:=h4.typ.2 q hq;rw[e];rfl
    obtain⟨cur,e⟩:=h5.typ.2 q hq;rw[e];rfl
  refine⟨(hs.block q.1 (Qa h7) (λhm=>?_)).trans h7,h8⟩;rw[he q.1 hm h8]at ht;cases ht
theorem Tb.ext(h:Tb w B pb ls fs)(hs:Same [] w w'):Tb w' B pb ls fs:=h.same hs Pa Pa
structure TW (w0:World) (Ds:List Nat) (w:World) (B pb:Nat) (ls:List Str) (fs:List Int):Prop where
  tb:Tb w B pb ls fs
  sub:∀x∈Wk2 w B pb,x<w0.heap.size->x∈Ds
  ge:w0.heap.size<=w.heap.size
theorem TW.start(h:Tb w0 B pb ls fs):TW w0 (Wk2 w0 B pb) w0 B pb ls fs:=⟨h,λx hx _=>hx,gQ _⟩
theorem TW.own(h:Tb w B pb ls fs)(hp:w0.heap.size<=pb)(hg:w0.heap.size<=w.heap.size):TW w0 Ds w B pb ls fs :=
  ⟨h,λx hx hl=>by
    have:=h.lt;rcases Nn.1 hx with rfl|⟨-,h2,-⟩ <;> omega,hg⟩
theorem TW.lt(h:TW w0 Ds w B pb ls fs):pb<w.heap.size:=h.tb.ltw
theorem TW.step(h:TW w0 Ds w B pb ls fs)(hs:Same E w w')(hp:pb∉E)(he:∀x∈E,Nj w x=false)(he':∀x∈E,Nj w' x=false):TW w0 Ds w' B pb ls fs :=
  ⟨h.tb.same hs hp (λx hx _=>he x hx),λx hx hl=>by
    refine h.sub x (Nn.2 ?_) hl;have hl2:=Nat.lt_of_lt_of_le hl h.ge;rcases Nn.1 hx with rfl|⟨-,h2,h3⟩
    ·exact .inl O
    refine .inr ⟨hl2, h2, ?_⟩;have hn:x∉E:=λhm=>by rw[he' x hm]at h3;cases h3
    rw[Nj,<-hs.block x hl2 hn];exact h3,fQ h.ge hs.size⟩
theorem TW.ext(h:TW w0 Ds w B pb ls fs)(hs:Same [] w w'):TW w0 Ds w' B pb ls fs:=h.step hs Pa Pa Pa
theorem Tb.made{A A':Option Addr}{c c':Nat}{sl sf:List (Nat × Obj)}(hF:FR w0 Ds ((bs_++[(pb,.cells #[.slice A ls.length c,.slice A' fs.length c'] 302)])++(sl++(sf++[]))) w)(hp:pb<B)(hB:B<=w.heap.size)
    (hL:SlB 9 1 A ls.length c (HS ls) sl) (hN:SlB 3 1 A' fs.length c' (XQ fs) sf) (hq:∀q∈sl++sf,B<=q.1):Tb w B pb ls fs:=by
  refine⟨hp,hB,A,c,sl,A',c',sf,hF.memHeap (p:=(pb,_)) Pa,hL,hN,λq h=>⟨?_,hq q h⟩⟩;refine hF.memHeap (p:=q) ?_;rcases mQ.1 h with h|h <;> simp[h]
end
end Go.Scarf
namespace Go.Scarf
open Go.RowKit Go.Proofs Go.Proofs.Tryz
section
variable {P:Program}{w:World}
end
end Go.Scarf
namespace Go.Scarf
open Go.RowKit Go.Proofs Go.Proofs.Tryz
section
variable {w w' w0:World}{Ds E:List Nat}{bs_:List (Nat × Obj)}{B pb:Nat}{ls ls':List Str}{fs fs':List Int}
end
end Go.Scarf
namespace Go.Scarf
open Go.RowKit Go.Proofs Go.Proofs.Tryz
def gi(m p q:Nat):Nat:=p*(m+1)+q
theorem XL{m p q p' q':Nat}(hq:q<=m)(hq':q'<=m)(h:gi m p q=gi m p' q'):p=p'/\q=q':=by
  unfold gi at h;have e:p=p':=by
    have h1:(p*(m+1)+q)/(m+1)=p:=by rw[Nat.mul_comm,Nat.mul_add_div Ca,Nat.div_eq_of_lt Ca];omega
    have h2:(p'*(m+1)+q')/(m+1)=p':=by rw[Nat.mul_comm,Nat.mul_add_div Ca,Nat.div_eq_of_lt Ca];omega
    rw[<-h1,<-h2,h]
  subst e;exact⟨O,by omega⟩
def Sk(N0 n:Nat)(q:Nat->Nat)(b:Nat):Prop:=b<N0/\∀i,i<n->q i≠b
structure Rk (w:World) (N0 rb pb:Nat) (q:Nat->Nat) (la:List Str) (fa:List Int) (lb:List Str) (fb:List Int) (Aa Ba Ab Bb:Option Addr) (k1 k2 k3 k4:Nat) (P:Nat->Nat->Int):Prop where
  cell:w.heap[rb]? = some (.cells #[.slice Aa la.length k1,.slice Ba fa.length k2,.slice Ab lb.length k3,.slice Bb fb.length k4,W pb la.length la.length] 345)
  La:Rep (Sk N0 la.length q) w (Xe la) [.slice Aa la.length k1]
  Na:Rep (Sk N0 la.length q) w (.slice (fa.map Lc)) [.slice Ba fa.length k2]
  Lb:Rep (Sk N0 la.length q) w (Xe lb) [.slice Ab lb.length k3]
  Nb:Rep (Sk N0 la.length q) w (.slice (fb.map Lc)) [.slice Bb fb.length k4]
  grid:Grid2 w pb la.length lb.length 23 3 q P
  lt:rb<N0/\pb<N0/\∀i,i<la.length->q i<N0
  ne:∀i,i<la.length->q i≠rb
section
variable {w w':World}{N0 rb pb:Nat}{q:Nat->Nat}{la lb:List Str}{fa fb:List Int}{Aa Ba Ab Bb:Option Addr}{k1 k2 k3 k4:Nat}{P:Nat->Nat->Int}{E:List Nat}
theorem Rk.step(h:Rk w N0 rb pb q la fa lb fb Aa Ba Ab Bb k1 k2 k3 k4 P)(hs:Same E w w')(he:∀b∈E,N0<=b):Rk w' N0 rb pb q la fa lb fb Aa Ba Ab Bb k1 k2 k3 k4 P:=by
  have ns:∀b∈E,¬Sk N0 la.length q b:=λb hb h2=>by have:=he b hb;have:=h2.1;omega
  have nl:∀x,x<N0->x∉E:=λx hx hm=>by have:=he x hm;omega
  exact⟨(hs.block _ (Qa h.cell) (nl _ h.lt.1)).trans h.cell,h.La.same hs ns,h.Na.same hs ns,h.Lb.same hs ns,h.Nb.same hs ns,h.grid.keep hs (nl _ h.lt.2.1) (λi hi=>nl _ (h.lt.2.2 i hi)),h.lt,h.ne⟩
theorem Rk.ext(h:Rk w N0 rb pb q la fa lb fb Aa Ba Ab Bb k1 k2 k3 k4 P)(hs:Same [] w w'):Rk w' N0 rb pb q la fa lb fb Aa Ba Ab Bb k1 k2 k3 k4 P:=h.step hs Pa
theorem Rk.put(h:Rk w N0 rb pb q la fa lb fb Aa Ba Ab Bb k1 k2 k3 k4 P){i j:Nat}{v:Int}(hi:i<la.length)(hs:Same [q i] w w')(hn:w'.heap[q i]? = some (.cells (Lm lb.length (Ps (P i) j v)) 3)):Rk w' N0 rb pb q la fa lb fb Aa Ba Ab Bb k1 k2 k3 k4 (Br P i j v):=by
  have ns:∀b∈[q i],¬Sk N0 la.length q b:=λb hb h2=>h2.2 i hi (pQ.1 hb).symm;exact⟨(hs.block _ (Qa h.cell) (by simpa using λe=>h.ne i hi e.symm)).trans h.cell,h.La.same hs ns,h.Na.same hs ns,h.Lb.same hs ns,h.Nb.same hs ns,h.grid.put hi hs hn,h.lt,h.ne⟩
theorem Rk.c0(h:Rk w N0 rb pb q la fa lb fb Aa Ba Ab Bb k1 k2 k3 k4 P):w.cell? ⟨rb,0,none⟩=some (.slice Aa la.length k1):=Wb h.cell 0
theorem Rk.c1(h:Rk w N0 rb pb q la fa lb fb Aa Ba Ab Bb k1 k2 k3 k4 P):w.cell? ⟨rb,1,none⟩=some (.slice Ba fa.length k2):=Wb h.cell 1
theorem Rk.c2(h:Rk w N0 rb pb q la fa lb fb Aa Ba Ab Bb k1 k2 k3 k4 P):w.cell? ⟨rb,2,none⟩=some (.slice Ab lb.length k3):=Wb h.cell 2
theorem Rk.c3(h:Rk w N0 rb pb q la fa lb fb Aa Ba Ab Bb k1 k2 k3 k4 P):w.cell? ⟨rb,3,none⟩=some (.slice Bb fb.length k4):=Wb h.cell 3
theorem Rk.c4(h:Rk w N0 rb pb q la fa lb fb Aa Ba Ab Bb k1 k2 k3 k4 P):w.cell? ⟨rb,4,none⟩=some (W pb la.length la.length):=Wb h.cell 4
theorem int_ad{S:Nat->Prop}{fs:List Int}{B:Option Addr}{n e:Nat}(h:Rep S w (.slice (fs.map Lc)) [.slice B n e])(hi:0<fs.length):∃ad,B=some ad:=by
  obtain⟨ad,hA,-⟩:=h.int_elem hi;exact⟨ad,hA⟩
end
end Go.Scarf
namespace Go.Scarf
open Go.RowKit Go.Proofs Go.Proofs.Tryz
end Go.Scarf
