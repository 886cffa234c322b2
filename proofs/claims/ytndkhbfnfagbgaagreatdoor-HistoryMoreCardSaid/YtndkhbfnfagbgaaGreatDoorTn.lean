/- A part of the proof. -/
import Derived.Test.YtndkhbfnfagbgaaGreatDoorE1
set_option linter.all false
set_option maxHeartbeats 8000000
set_option maxRecDepth 10000
namespace Go.Scarf
def FL(k:Str):Str:=107::Xw (.node 4 k [] [])
mutual
def Ni:Tree->List Str
  | .node k t ks xs=>if k=5 then Qh xs++[[91]] else if k=6 then Tf xs ks++[[123]] else [Xw (.node k t ks xs)]
def Qh:List Tree->List Str
  | []=>[]
  | x::xs=>Ni x++Qh xs
def Tf:List Tree->List Str->List Str
  | [],_=>[]
  | x::xs,ks=>Ni x++(FL (ks.headD [])::Tf xs ks.tail)
end
mutual
def Jo:Tree->Nat->List Int
  | .node k _ ks xs,b=>if k=5 then Nm xs b++[(b:Int)] else if k=6 then Dl xs ks b++[(b:Int)] else [(b:Int)]
def Nm:List Tree->Nat->List Int
  | [],_=>[]
  | x::xs,b=>Jo x b++Nm xs (b+(Ni x).length)
def Dl:List Tree->List Str->Nat->List Int
  | [],_,_=>[]
  | x::xs,ks,b=>Jo x b++((b:Int)::Dl xs ks.tail (b+(Ni x).length+1))
end
theorem F4:∀(xs:List Tree),(∀x∈xs,∀b,(Jo x b).length=(Ni x).length)->∀b,(Nm xs b).length=(Qh xs).length
  | [],_,b=>by rw[Nm,Qh];rfl
  | x::xs,h,b=>by rw[Nm,Qh,dQ,dQ,h x Da,F4 xs (λy hy=>h y (by simp[hy]))]
theorem E4:∀(xs:List Tree)(ks:List Str),(∀x∈xs,∀b,(Jo x b).length=(Ni x).length)->∀b,(Dl xs ks b).length=(Tf xs ks).length
  | [],_,_,b=>by rw[Dl,Tf];rfl
  | x :: xs, ks, h, b => by
    rw[Dl,Tf,dQ,dQ,kQ,kQ,h x Da,E4 xs _ (λy hy=>h y (by simp[hy]))]
theorem Vu(x:Tree):∀b,(Jo x b).length=(Ni x).length:=Tree.ind (Q:=λx=>∀b,(Jo x b).length=(Ni x).length) (λk t ks xs ih b=>by
  rw[Jo,Ni];split
  ·rw[dQ,dQ,F4 xs ih];rfl
  split
  ·rw[dQ,dQ,E4 xs ks ih];rfl
  rfl) x
theorem SG:∀(xs:List Tree),(∀x∈xs,(Ni x).length<=Wb x+Lo x)->(Qh xs).length<=Rb xs+Qn xs
  | [],_=>by rw[Qh];simp
  | x :: xs, h => by
    have h1:=h x Da;have h2:=SG xs λy hy=>h y (by simp[hy]);rw[Qh,Rb,Qn,dQ];omega
theorem IK:∀(xs:List Tree)(ks:List Str),(∀x∈xs,(Ni x).length<=Wb x+Lo x)->(Tf xs ks).length<=Rb xs+Qn xs+xs.length
  | [],_,_=>by rw[Tf];simp
  | x :: xs, ks, h => by
    have h1:=h x Da;have h2:=IK xs ks.tail λy hy=>h y (by simp[hy]);rw[Tf,Rb,Qn,dQ,kQ,kQ];omega
theorem lab_le(x:Tree):Af nodeB x=true->(Ni x).length<=Wb x+Lo x:=Tree.ind (Q:=λx=>Af nodeB x=true->(Ni x).length<=Wb x+Lo x) (λk t ks xs ih h=>by
  obtain⟨hn,hx⟩:=Lf h;rw[Ni,Wb,Lo];split
  ·have := SG xs λy hy => ih y hy (hx y hy)
   rw[dQ,List.length_singleton];omega
  split
  ·rename_i h6
   subst h6;have h2:=(Mp hn).2;have:=IK xs ks λy hy=>ih y hy (hx y hy);rw[dQ,List.length_singleton];omega
  rw[List.length_singleton];omega) x
theorem lab_pos(x:Tree):0<(Ni x).length:=by
  obtain⟨k,t,ks,xs⟩:=x;rw[Ni];split
  ·simp
  split <;> simp
def Beh(fs:List Int)(b:Nat):Prop:=∀j (h:j<fs.length),b<=j->(b:Int)<=fs[j]
theorem lfOk.more{fs gs:List Int}{n:Nat}(h:lfOk fs n)(hn:n<=fs.length):lfOk (fs++gs) n:=by
  intro j hj hjn;have h1:=h j sX hjn;rw[List.getElem_append_left sX];refine⟨h1.1,h1.2.1,λi hi hle=>?_⟩;rw[List.getElem_append_left sX];exact h1.2.2 i hi hle
theorem Beh.more{fs gs:List Int}{b c:Nat}(h:Beh fs b)(hc:Beh (fs++gs) c)(h1:b<=c)(h2:c<=fs.length):Beh (fs++gs) b:=by
  intro j hj hb;by_cases e:j<fs.length
  ·rw[List.getElem_append_left e];exact h j e hb
  have:=hc j hj sX;omega
theorem UD{fs:List Int}{b:Nat}(h:lfOk fs fs.length)(hb:Beh fs b)(hl:b<=fs.length):lfOk (fs++[(b:Int)]) (fs++[(b:Int)]).length/\Beh (fs++[(b:Int)]) b:=by
  have hlen:(fs++[(b:Int)]).length=fs.length+1:=by simp
  refine⟨?_,λj hj hbj=>?_⟩
  ·rw[hlen]
   refine (h.more (gs:=[(b:Int)]) (gQ _)).snoc sX ?_ ?_ ?_
   ·rw[List.getElem_append_right (gQ _)];simp
   ·rw[List.getElem_append_right (gQ _)];simp;omega
   intro z hz hle;rw[List.getElem_append_right (gQ _)]at hle ⊢;rw[List.getElem_append_left hz];simp only[Nat.sub_self,List.getElem_singleton]at hle ⊢;exact hb z hz sX
  by_cases e : j<fs.length
  ·rw[List.getElem_append_left e];exact hb j e hbj
  rw[List.getElem_append_right sX];simp
theorem Beh.all(fs:List Int):Beh fs fs.length:=λj hj h=>by omega
def KQ(x:Tree):Prop:=∀fs:List Int,lfOk fs fs.length->lfOk (fs++Jo x fs.length) (fs++Jo x fs.length).length/\Beh (fs++Jo x fs.length) fs.length
theorem WW:∀(xs:List Tree),(∀x∈xs,KQ x)->∀fs:List Int,lfOk fs fs.length->lfOk (fs++Nm xs fs.length) (fs++Nm xs fs.length).length/\Beh (fs++Nm xs fs.length) fs.length
  | [],_,fs,h=>by rw[Nm,qQ];exact⟨h,Beh.all fs⟩
  | x :: xs, hx, fs, h => by
    obtain⟨h1,h2⟩:=hx x Da fs h;obtain⟨h3,h4⟩:=WW xs (λy hy=>hx y (by simp[hy])) _ h1;have e:(fs++Jo x fs.length).length=fs.length+(Ni x).length:=by rw[dQ,Vu]
    have e2:fs++Nm (x::xs) fs.length=(fs++Jo x fs.length)++Nm xs (fs++Jo x fs.length).length:=by rw[Nm,e,sQ]
    rw[e2];exact⟨h3,h2.more h4 sX (gQ _)⟩
theorem IZ:∀(xs:List Tree)(ks:List Str),(∀x∈xs,KQ x)->∀fs:List Int,lfOk fs fs.length->lfOk (fs++Dl xs ks fs.length) (fs++Dl xs ks fs.length).length/\Beh (fs++Dl xs ks fs.length) fs.length
  | [],_,_,fs,h=>by rw[Dl,qQ];exact⟨h,Beh.all fs⟩
  | x :: xs, ks, hx, fs, h => by
    obtain⟨h1,h2⟩:=hx x Da fs h;have e:(fs++Jo x fs.length).length=fs.length+(Ni x).length:=by rw[dQ,Vu]
    obtain⟨h5,h6⟩:=UD h1 h2 sX;obtain⟨h3,h4⟩:=IZ xs ks.tail (λy hy=>hx y (by simp[hy])) _ h5;have e3:(fs++Jo x fs.length++[(fs.length:Int)]).length=fs.length+(Ni x).length+1:=by rw[dQ,e];rfl
    have e2:fs++Dl (x::xs) ks fs.length=(fs++Jo x fs.length++[(fs.length:Int)])++Dl xs ks.tail (fs++Jo x fs.length++[(fs.length:Int)]).length:=by
      rw[Dl,e3];simp[sQ]
    rw[e2];exact⟨h3,h6.more h4 sX (gQ _)⟩
theorem good(x:Tree):KQ x:=Tree.ind (Q:=KQ) (λk t ks xs ih fs h=>by
  rw[Jo];split
  ·obtain⟨h1, h2⟩ := WW xs ih fs h
   have:=UD h1 h2 Da;rw[sQ]at this;exact this
  split
  ·obtain⟨h1, h2⟩ := IZ xs ks ih fs h
   have:=UD h1 h2 Da;rw[sQ]at this;exact this
  exact UD h (Beh.all fs) (gQ _)) x
theorem GH(x:Tree)(h:(Ni x).length<=512):Ek (Ni x) (Jo x 0):=by
  refine⟨(Vu x 0).symm,h,?_⟩;have:=(good x [] (λj hj=>by simp at hj)).1;simpa using this
open Go.RowKit Go.Proofs
section
variable {w w' w0:World}{Ds E:List Nat}{bs_:List (Nat × Obj)}{B pb:Nat}{ls ls':List Str}{fs fs':List Int}
def XC:Obj->Bool
  | .cells _ e _=>e==9 || e==3
  | _=>false
def Rq(w:World)(b:Nat):Bool:=match w.heap[b]? with|some o=>XC o|none=>false
def Wk2(w:World)(B pb:Nat):List Nat:=pb::(List.range w.heap.size).filter λb=>decide (B<=b)&&Rq w b
theorem Jk{x:Nat}:x∈Wk2 w B pb↔x=pb\/(x<w.heap.size/\B<=x/\Rq w x=true):=by simp[Wk2]
theorem Oq{b:Nat}{o:Obj}(h:w.heap[b]? = some o):Rq w b=XC o:=by simp[Rq,h]
def ND(ls:List Str):List Value:=ls.map λs=>Value.string (bs s)
def O3(fs:List Int):List Value:=fs.map λn=>Value.int .i64 n
theorem SlB.typ{e m n c:Nat}{A:Option Addr}{xs:List Value}{sb:List (Nat × Obj)}(h:SlB e m A n c xs sb):sb.length<=1/\∀q∈sb,∃cur,q.2=.cells cur e:=by
  rcases h.2 with ⟨-,-,rfl⟩|⟨g,cur,-,rfl,-⟩
  ·exact⟨by simp,λq hq=>by cases hq⟩
  exact⟨by simp,λq hq=>by simp only[pQ]at hq;subst hq;exact⟨cur,rfl⟩⟩
structure Tb (w:World) (B pb:Nat) (ls:List Str) (fs:List Int):Prop where
  lt:pb<B
  le:B<=w.heap.size
  ex:∃(A:Option Addr)(c:Nat)(sl:List (Nat × Obj))(A':Option Addr)(c':Nat)(sf:List (Nat × Obj)),w.heap[pb]? = some (.cells #[.slice A ls.length c,.slice A' fs.length c'] 279) /\
    SlB 9 1 A ls.length c (ND ls) sl/\SlB 3 1 A' fs.length c' (O3 fs) sf/\∀q∈sl++sf,w.heap[q.1]? = some q.2/\B<=q.1
theorem Tb.ltw(h:Tb w B pb ls fs):pb<w.heap.size:=Nat.lt_of_lt_of_le h.lt h.le
theorem Tb.len(h:Tb w B pb ls fs):∃A c A' c',w.heap[pb]? = some (.cells #[.slice A ls.length c,.slice A' fs.length c'] 279):=by
  obtain⟨-,-,A,c,sl,A',c',sf,h1,-⟩:=h;exact⟨A,c,A',c',h1⟩
theorem Wk2.step{x:Nat}(hs:Same (Wk2 w B pb) w w')(hx:x∈Wk2 w' B pb):x∈Wk2 w B pb\/w.heap.size<=x:=by
  by_cases h:x<w.heap.size
  ·by_cases hm : x ∈ Wk2 w B pb
   ·exact .inl hm
   rcases Jk.1 hx with rfl|⟨h1, h2, h3⟩
   ·exact .inl (Jk.2 (.inl O))
   refine absurd (Jk.2 (.inr ⟨h, h2, ?_⟩)) hm;rw[Rq,<-hs.block x h hm];exact h3
  exact .inr sX
theorem Tb.same(h:Tb w B pb ls fs)(hs:Same E w w')(hp:pb∉E)(he:∀x∈E,B<=x->Rq w x=false):Tb w' B pb ls fs:=by
  have hlt:=h.ltw;obtain⟨h1,h2,A,c,sl,A',c',sf,h3,h4,h5,h6⟩:=h;refine⟨h1,fQ h2 hs.size,A,c,sl,A',c',sf,(hs.block pb hlt hp).trans h3,h4,h5,λq hq=>?_⟩;obtain⟨h7,h8⟩:=h6 q hq;have ht:Rq w q.1=true:=by
    rw[Oq h7];rcases mQ.1 hq with hq|hq
    ·obtain⟨cur,e⟩:=h4.typ.2 q hq;rw[e];rfl
    obtain⟨cur,e⟩:=h5.typ.2 q hq;rw[e];rfl
  refine⟨(hs.block q.1 (Ma h7) (λhm=>?_)).trans h7,h8⟩;rw[he q.1 hm h8]at ht;cases ht
theorem Tb.ext(h:Tb w B pb ls fs)(hs:Same [] w w'):Tb w' B pb ls fs:=h.same hs Da Da
structure TW (w0:World) (Ds:List Nat) (w:World) (B pb:Nat) (ls:List Str) (fs:List Int):Prop where
  tb:Tb w B pb ls fs
  sub:∀x∈Wk2 w B pb,x<w0.heap.size->x∈Ds
  ge:w0.heap.size<=w.heap.size
theorem TW.start(h:Tb w0 B pb ls fs):TW w0 (Wk2 w0 B pb) w0 B pb ls fs:=⟨h,λx hx _=>hx,gQ _⟩
theorem TW.own(h:Tb w B pb ls fs)(hp:w0.heap.size<=pb)(hg:w0.heap.size<=w.heap.size):TW w0 Ds w B pb ls fs :=
  ⟨h,λx hx hl=>by
    have:=h.lt;rcases Jk.1 hx with rfl|⟨-,h2,-⟩ <;> omega,hg⟩
theorem TW.lt(h:TW w0 Ds w B pb ls fs):pb<w.heap.size:=h.tb.ltw
theorem TW.wrote(h:TW w0 Ds w B pb ls fs)(hb:Tb w' B pb ls' fs')(hs:Same (Wk2 w B pb) w w'):TW w0 Ds w' B pb ls' fs' :=
  ⟨hb,λx hx hl=>by
    rcases Wk2.step hs hx with h1|h1
    ·exact h.sub x h1 hl
    have:=h.ge;omega,fQ h.ge hs.size⟩
theorem FR.wrote2(hF:FR w0 Ds bs_ w)(h:TW w0 Ds w B pb ls fs)(hs:Same (Wk2 w B pb) w w')(hb:∀q∈bs_,(XC q.2=false\/q.1<B)/\q.1≠pb):FR w0 Ds bs_ w' :=
  hF.touch hs λx hx=>⟨h.sub x hx,λq hq e=>by
    have h1:=hb q hq;rcases Jk.1 hx with h2|⟨-,h4,h3⟩
    ·exact h1.2 (e.trans h2)
    rcases h1.1 with h5|h5
    ·rw[<-e,Oq (hF.memHeap hq),h5]at h3;cases h3
    omega⟩
theorem TW.step(h:TW w0 Ds w B pb ls fs)(hs:Same E w w')(hp:pb∉E)(he:∀x∈E,Rq w x=false)(he':∀x∈E,Rq w' x=false):TW w0 Ds w' B pb ls fs :=
  ⟨h.tb.same hs hp (λx hx _=>he x hx),λx hx hl=>by
    refine h.sub x (Jk.2 ?_) hl;have hl2:=Nat.lt_of_lt_of_le hl h.ge;rcases Jk.1 hx with rfl|⟨-,h2,h3⟩
    ·exact .inl O
    refine .inr ⟨hl2, h2, ?_⟩;have hn:x∉E:=λhm=>by rw[he' x hm]at h3;cases h3
    rw[Rq,<-hs.block x hl2 hn];exact h3,fQ h.ge hs.size⟩
theorem TW.ext(h:TW w0 Ds w B pb ls fs)(hs:Same [] w w'):TW w0 Ds w' B pb ls fs:=h.step hs Da Da Da
theorem Rep.off2{d:D}{cs:List Value}(h:Rep (λx=>x∉Wk2 w B pb) w d cs)(hs:Same (Wk2 w B pb) w w'):Rep (λx=>x∉Wk2 w' B pb) w' d cs :=
  ((h.old).same hs (λb hb hn=>hn.1 hb)).weaken λx hx _ hm=>by
    rcases Wk2.step hs hm with h1|h1
    ·exact hx.1 h1
    have:=hx.2;omega
theorem Rep.off2_ext{d:D}{cs:List Value}(h:Rep (λx=>x∉Wk2 w B pb) w d cs)(hs:Same [] w w'):Rep (λx=>x∉Wk2 w' B pb) w' d cs:=h.off2 (hs.mono Da)
theorem TW.open_(h:TW w0 Ds w B pb ls fs)(hF:FR w0 Ds bs_ w)(hb:∀q∈bs_,(XC q.2=false\/q.1<B)/\q.1≠pb) :
    ∃(A : Option Addr)(c : Nat)(sl : List (Nat × Obj))(A' : Option Addr)(c' : Nat)(sf : List (Nat × Obj)), SlB 9 1 A ls.length c (ND ls) sl /\ SlB 3 1 A' fs.length c' (O3 fs) sf /\
      FR w0 Ds ((bs_++[(pb,.cells #[.slice A ls.length c,.slice A' fs.length c'] 279)])++(sl++(sf++[]))) w/\(∀q∈sl++sf,B<=q.1):=by
  obtain⟨⟨h1,h2,A,c,sl,A',c',sf,h3,h4,h5,h6⟩,hsub,hge⟩:=h;refine⟨A,c,sl,A',c',sf,h4,h5,⟨hF.same,?_,?_⟩,λq hq=>(h6 q hq).2⟩
  ·intro q hq
   simp only[qQ,sQ,mQ,pQ]at hq;rcases hq with hq|rfl|hq
   ·exact hF.own q hq
   ·refine⟨h3, ?_⟩
    by_cases e:w0.heap.size<=pb
    ·exact .inl e
    exact .inr (hsub pb (Jk.2 (.inl O)) sX)
   have hq' : q ∈ sl ++ sf := mQ.2 hq;obtain⟨h7,h8⟩:=h6 q hq';refine⟨h7,?_⟩;by_cases e:w0.heap.size<=q.1
   ·exact .inl e
   refine .inr (hsub q.1 (Jk.2 (.inr ⟨Ma h7, h8, ?_⟩)) sX);rw[Oq h7];rcases hq with hq|hq
   ·obtain⟨cur,e⟩:=h4.typ.2 q hq;rw[e];rfl
   obtain⟨cur,e⟩:=h5.typ.2 q hq;rw[e];rfl
  have one:∀{l:List (Nat × Obj)},l.length<=1->List.Pairwise (λp q=>q.1≠p.1) l:=fun {l} hl=>by
    match l,hl with
    | [],_=>exact .nil
    | [x],_=>simp
  have hrow:∀q∈sl++sf,XC q.2=true:=λq hq=>by
    rcases mQ.1 hq with hq|hq
    ·obtain⟨cur,e⟩:=h4.typ.2 q hq;rw[e];rfl
    obtain⟨cur,e⟩:=h5.typ.2 q hq;rw[e];rfl
  rw[qQ,sQ,List.pairwise_append];refine⟨hF.desc,?_,?_⟩
  ·rw[List.pairwise_append]
   refine⟨by simp,?_,?_⟩
   ·rw[List.pairwise_append]
    refine⟨one h4.typ.1,one h5.typ.1,λq hq r hr e=>?_⟩;obtain⟨cu,e1⟩:=h4.typ.2 q hq;obtain⟨cv,e2⟩:=h5.typ.2 r hr;have h7:=(h6 q (by simp[hq])).1;have h8:=(h6 r (by simp[hr])).1;rw[<-e,h8,e1,e2]at h7;have:=lQ h7;simp at this
   intro q hq r hr e;simp only[pQ]at hq;subst hq;have:=(h6 r hr).2;simp only at e;omega
  intro q hq r hr e;have hb1:=hb q hq;rcases mQ.1 hr with hr|hr
  ·simp only[pQ]at hr
   subst hr;exact hb1.2 e.symm
  have h7 := (h6 r hr).1;have h9:=hrow r hr;rcases hb1.1 with h10|h10
  ·rw[e, hF.memHeap hq]at h7
   rw[<-lQ h7,h10]at h9;cases h9
  have:=(h6 r hr).2;omega
theorem Tb.made{A A':Option Addr}{c c':Nat}{sl sf:List (Nat × Obj)}(hF:FR w0 Ds ((bs_++[(pb,.cells #[.slice A ls.length c,.slice A' fs.length c'] 279)])++(sl++(sf++[]))) w)(hp:pb<B)(hB:B<=w.heap.size)
    (hL:SlB 9 1 A ls.length c (ND ls) sl) (hN:SlB 3 1 A' fs.length c' (O3 fs) sf) (hq:∀q∈sl++sf,B<=q.1):Tb w B pb ls fs:=by
  refine⟨hp,hB,A,c,sl,A',c',sf,hF.memHeap (p:=(pb,_)) Da,hL,hN,λq h=>⟨?_,hq q h⟩⟩;refine hF.memHeap (p:=q) ?_;rcases mQ.1 h with h|h <;> simp[h]
end
end Go.Scarf
