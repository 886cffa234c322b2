/- A part of the proof. -/
import Derived.Test.YtgkmigdopohcnaaGreatDoorQ11
import Derived.Test.YtgkmigdopohcnaaGreatDoorQ3
set_option linter.all false
set_option maxHeartbeats 8000000
set_option maxRecDepth 10000
namespace Go.Scarf
open Go.RowKit Go.Proofs Go.Proofs.Tryz
theorem Rep.tok_at{S:Nat->Prop}{w:World}{l:List Tk}{A:Option Addr}{len c:Nat}(h:Rep S w (Ik l) [.slice A len c]){i:Nat}(hi:i<l.length) :
    ∃ad,A=some ad/\S (ad.add (i*3)).block/\∀j (hj:j<[Value.int .i64 l[i].k,J (l[i].f:Nat),J (l[i].t:Nat)].length),w.cell? ((ad.add (i*3)).add j)=some [Value.int .i64 l[i].k,J (l[i].f:Nat),J (l[i].t:Nat)][j]:=by
  obtain⟨ad,hA,hk⟩:=h.tok_elem hi;refine⟨ad,hA,?_,hk⟩;obtain⟨A',c',e,-,-,hr⟩:=Rep.slice_inv h;simp only[List.cons.injEq,Value.slice.injEq,and_true]at e;obtain⟨rfl,-,rfl⟩:=e;obtain⟨ad',e2,es,hc,hl⟩:=hr (λe=>by have:=congrArg List.length e;simp at this;rw[this]at hi;cases hi);subst hA;obtain rfl:=lQ e2;have hne:0<es.length:=by
    cases l with
    | nil=>cases hi
    | cons x xs=>obtain⟨c1,c2,rfl,h1,-⟩:=RepL.cons_inv hl;obtain rfl:=Rz h1;simp
  rw[Bh];exact (hc 0 hne).2
def FI(s:Str):List Tk:=(Yd s).1.filter λt=>decide (t.k≠1)
def Qz(s:Str):Ps:=⟨FI s,0,0,[],0,0⟩
theorem OI{s:Str}(h:∀y∈(Yd s).1,N2 y):∀y∈FI s,N2 y:=λy hy=>h y (List.mem_filter.1 hy).1
theorem MZ{s:Str}(h:∀y∈(Yd s).1,N2 y):NP (Qz s):=⟨⟨Nat.zero_le _,by simp[Qz]⟩,by simp[Qz],λx hx=>by have:=OI h x hx;unfold N2 at this;exact⟨by omega,by omega⟩,Nat.zero_le _⟩
theorem p0_Jp{w1 w:World}{Ds:List Nat}{b1 b2:Nat}{o:Obj}{sts:List (Nat × Obj)}{s:Str}{A:Option Addr}{c:Nat}(hF:FR w1 Ds ([(b2,.cells (Br s A c (Qz s) none 0).toArray 147),(b1,o)]++(sts++[])) w)(hS:SlB 149 3 A (FI s).length c (Fn.tkCs (FI s)) sts)(hok:∀y∈FI s,N2 y) :
    Jp (λx=>x<w.heap.size/\x≠b1/\x≠b2) w [(b1,o)] [(b2,.cells (Br s A c (Qz s) none 0).toArray 147)] b2 s (Qz s):=by
  have hd:=List.pairwise_append.1 hF.desc;refine⟨⟨none,A,0,c,[],[],[],O,SlB.nil _ _,.nil,hS.repOf (λq hq=>?_) (Fn.tk_reps _ hok) (by rw[rQ];rfl)⟩,λx hx=>⟨hx.1,λhm=>?_⟩,?_,λq hq=>?_⟩
  ·have hq' : q ∈ sts ++ [] := by simpa using hq
   have ho:=hF.own q (List.mem_append_right _ hq');exact⟨ho.1,Kb ho.1,hd.2.2 (b1,o) La q hq',hd.2.2 (b2,_) List.mem_cons_self q hq'⟩
  ·simp only[ids, qQ, jQ, List.map_cons, List.map_nil, List.cons_append, List.nil_append, oQ, List.not_mem_nil, or_false]at hm
   rcases hm with h|h
   ·exact hx.2.1 h
   exact hx.2.2 h
  ·have := (List.pairwise_cons.1 hd.1).1 (b1, o) La
   simp;exact λe=>this e.symm
  simp only[qQ, List.cons_append, List.nil_append, oQ, List.not_mem_nil, or_false]at hq;rcases hq with rfl|rfl
  ·exact (hF.own _ La).1
  exact (hF.own _ La).1
theorem LO{w0 w2 w:World}{sm0 own sl sb:List (Nat × Obj)}{A:Option Addr}{c:Nat}{vals:List Value}{l:List Nd}(hF:FR w2 (ids sm0) (own++([]++(sl++(sb++[])))) w)(h1:SlB 154 7 A l.length c vals sl)(h2:NdsAt 3 145 l vals sb)(hnd:∀x∈l,NdOk x)(hlow:∀x,w2.heap.size<=x\/x∈ids sm0->w0.heap.size<=x) :
    Rep (Btw w0 w) w (.slice (l.map JZ)) [.slice A l.length c]:=by
  have hb:∀q∈sl++sb,(∃cs T,q.2=.cells cs T)->w.heap[q.1]? = some q.2/\Btw w0 w q.1:=λq hq ⟨cs,T,e⟩=>by
    have ho:=hF.own q (by simp only[List.nil_append,qQ];exact List.mem_append_right _ hq);exact⟨ho.1,hlow _ ho.2,Kb ho.1,cs,T,by rw[<-e];exact ho.1⟩
  exact h1.repOf (λq hq=>hb q (List.mem_append_left _ hq) (by obtain⟨cur,e⟩:=h1.typ1.2 q hq;exact⟨_,_,e⟩)) (DY h2 hnd λq hq=>hb q (List.mem_append_right _ hq) (h2.soft q hq)) La
def Xy(p:Ps):Prop:=∀t∈p.rest,t.k≠2
theorem RL(p q:Ps)(h:q.rest <:+ p.rest)(hp:Xy p):Xy q:=λt ht=>hp t (h.subset ht)
theorem TF(p:Ps)(t:Tk)(r:List Tk)(hp:Xy p)(hr:p.rest=t::r):t.k≠2:=hp t (by rw[hr];exact List.mem_cons_self)
theorem BN{s:Str}(hok:(Yd s).2.2=0){b:Bool}{q:Ps}(hr:Hf s 32 0 0 (Qz s)=(b,q)):Ue s=if b=false then ([],q.at_,q.err) else if q.rest≠[] then ([],q.here s.length,2) else (q.nodes,s.length,0):=by
  unfold Ue;dsimp only;rw[if_neg (by rw[hok];decide)];unfold Qz FI at hr;rw[hr]
theorem J6{l:List Tk}{j:Nat}(hj:j<l.length):(l.take (j+1)).filter (λt=>decide (t.k≠1))=(l.take j).filter (λt=>decide (t.k≠1))++(if l[j].k≠1 then [l[j]] else []):=by
  rw[iQ hj,List.filter_append]
  congr 1
  by_cases h:l[j].k=1 <;> simp[h]
theorem Oq{P:Program}{n:Nat}{s:Nat->Value}{w:World}{fn:Func}{t T u x:Nat}{a:Addr}{l:List Value}{m:Nat}{v y:Value}(h:fn.results=#[.cell t T,.tmp u,.tmp x])(hx:ev n s (.tmp t)=.pointer (some a))(ha:∀w,(isAgg T).run P w=.ok true w)(hs:∀w,(sizeOf T).run P w=.ok m w)(hm:l.length=m)
    (hc:∀j (h:j<l.length),w.cell? (a.add j)=some l[j]) (hv:ev n s (.tmp u)=v) (hy:ev n s (.tmp x)=y):(results fn (Ok n s).tmps).run P w=.ok (.tuple #[.agg l.toArray,v,y]) w:=by
  have h1:=Ag n s t;have h2:=Ag n s u;have h3:=Ag n s x;rw[hx,Array.getD_eq_getD_getElem?]at h1;rw[hv,Array.getD_eq_getD_getElem?]at h2;rw[hy,Array.getD_eq_getD_getElem?]at h3;simp[results,h,h1,h2,h3,asAddr,Hq ha hs hm hc]
theorem JW{w0 w1 w2:World}{b1 b2:Nat}{sm0:List (Nat × Obj)}(h1:Same [] w0 w1)(h2:Same [b1] w1 w2)(hb1:w0.heap.size<=b1)(hb2:w1.heap.size<=b2)(e:ids sm0=[b1,b2]):∀x,w2.heap.size<=x\/x∈ids sm0->w0.heap.size<=x:=λx hx=>by
  have k1:=h1.size;have k2:=h2.size;rw[e]at hx;simp only[oQ,List.not_mem_nil,or_false]at hx;omega
theorem Qu{w0 w1 w2 w:World}{b1:Nat}{Ds:List Nat}(h1:Same [] w0 w1)(h2:Same [b1] w1 w2)(h3:Same Ds w2 w)(hb1:w0.heap.size<=b1)(hlow:∀x,w2.heap.size<=x\/x∈Ds->w0.heap.size<=x):Same [] w0 w :=
  ⟨h3.os.trans (h2.os.trans h1.os),h3.tape.trans (h2.tape.trans h1.tape),h3.output.trans (h2.output.trans h1.output),fQ h1.size (fQ h2.size h3.size),λb hb _=>by
    have hq1:=h1.size;have hq2:=h2.size;rw[h3.block b Ba (λh=>by have:=hlow b (.inr h);omega),h2.block b Ba (λh=>by rw[pQ.1 h]at hb;omega),h1.block b hb La]⟩
theorem Q7(s:Str):∀(f a:Nat)(out:List Tk),(R3 f s a out).1.length<=out.length+(s.length-a)
  | 0,a,out=>by simp[R3]
  | f + 1, a, out => by
    rw[R3];split
    ·rename_i hlt
     split
     ·rename_i h0
      have h1:=JA hlt h0;have h2:=Q7 s f (Lg s a).1.t (out++[(Lg s a).1]);simp only[dQ,kQ,List.length_nil]at h2;omega
     exact Nat.zero_le _
    exact Nat.le_add_right _ _
theorem LM(s:Str):(Yd s).1.length<=s.length:=by
  unfold Yd;split
  ·exact Nat.zero_le _
  have := Q7 s (s.length + 1) 0 [];simpa using this
theorem par_ge{w1 w:World}{b1 b2:Nat}{o1 o2:Obj}{r:List (Nat × Obj)}(hF:FR w1 [b1] ([(b2,o2),(b1,o1)]++r) w):w1.heap.size<=b2:=by
  rcases hF.geD (i:=0) rfl with h|h
  ·exact h
  exact absurd (pQ.1 h).symm ((List.pairwise_cons.1 (List.pairwise_append.1 hF.desc).1).1 (b1,o1) La)
theorem OG(s:Str)(hU:UniC s)(hl:s.length<=65536)(hok:(Yd s).2.2=0)(hno:Xy (Qz s))(w0:World)(hG:Gl w0):Calls prog 58 #[I s] w0 (Pc λv w'=>∃A c tx,v=.tuple #[.agg #[I tx,.slice A (Ue s).1.length c],J ((Ue s).2.1:Nat),J (Ue s).2.2]/\((Ue s).2.2=0/\(Ue s).1≠[]->tx=s)/\Rep (Btw w0 w') w' (.slice ((Ue s).1.map JZ)) [.slice A (Ue s).1.length c]/\(∀x∈(Ue s).1,NdOk x)/\NB (Ue s).1/\Same [] w0 w'):=by
 refine Ea func58 O ntmps58 Db (Rb _) ?_;have hF:=FR.start w0 [];refine Da (Jc (cs:=#[I [],aQ]) hF zeroValue97 O ?_);rintro b1 w hb1 hF -;refine Aa (Lb O) (Aa (Lb O) (Qb (Aa (Md O) ?_)));refine Ya (Fn.tokens_c s hU hl hok _ (hG.ext hF.same)) (Ma en_96 O O) ?_;have hwb:b1<_:=hF.lt (i:=0) rfl;rintro _ w ⟨AT,cT,rfl,hT,hTk,hE⟩;have hF:=hF.ext hE;refine Aa (Ri O) (Aa (yxl O O) (Aa (Gj O O) (Aa (Gj O O) (Aa (Em O) (Aa (Lb O) (Aa (Lb O) (Ca (Fa (Fa ?_)))))))));obtain⟨w1,hw1⟩:∃x,x=w:=⟨_,rfl⟩;have hS1:Same [] w0 w1:=by rw[hw1];exact hF.same
 have hb1:=hF.ge (i:=0) rfl;have hF1:FR w1 [b1] [(b1,.cells #[I [],aQ] 97)] w:=by subst hw1;exact FR.open_ (λq hq=>by rw[pQ.1 hq];exact⟨hF.heap (i:=0) rfl,by simp⟩) La
 rw[<-hw1]at hT;clear hF;have hF:=hF1;clear hF1;refine Ha (Aa (Gb O) (Aa (Om O O) (Ca ?_)));refine We (by rfl) (Na (Ga (Da (Aa (Md O) ?_))));refine Ja (w':=w) (v:=.agg #[I s,aQ,J 0,J 0,aQ,J 0,J 0]) Ib (Le hF O ?_);rintro b2 w hb2 hF -;refine Aa (yap O) (Ca (Fa (Da (Aa (Wd O) (Aa (Ug vZ O) (Aa (Gb O) (Ca (Va ?_))))))));refine Tc (λμ σ w=>∃(j:Nat),∃(rs:List Tk),∃(A2:Option Addr),∃(c2:Nat),∃(sts:List (Nat × Obj)),μ=(Yd s).1.length-j/\(j<=(Yd s).1.length)/\(rs=((Yd s).1.take j).filter (λt=>decide (t.k≠1)))/\(SlB 149 3 A2 rs.length c2 (Fn.tkCs rs) sts)/\AllEq σ [(0,I s),(2,V b1),(8,V b2),(26,.slice (AT) ((Yd s).1.length) (cT)),(27,J (((Yd s).1.length:Nat))),(28,J ((j:Int)))]/\FR w1 [b1] ([(b2,.cells #[I s,.slice A2 rs.length c2,J 0,J 0,aQ,J 0,J 0] 147),(b1,.cells #[I [],aQ] 97)]++(sts++[])) w) _ ⟨0,[],none,0,[],O,(Nat.zero_le _),(O),(SlB.nil _ _),U_,hF⟩ ?_;rintro μ σ w ⟨j,rs,A2,c2,sts,rfl,hj,hrs,hS,hs,hF⟩;refine Cg.slots hs ?_;clear hs;intro σ;have htl:=LM s;have hrl:rs.length<=65536:=by rw[hrs];exact fQ (List.length_filter_le _ _) (by rw[List.length_take];omega)
 refine Da (Aa (Sl O O) (Ca (Fa ?_)));refine Pb O O (λhc1=>?_) (λhc1=>?_);refine Na (Ga (Fa (Va (Fa ?_))));have hjl:j<(Yd s).1.length:=by omega
 obtain⟨ad,hA,hSb,hk⟩:=hT.tok_at hjl;have hSa:(ad.add (j*3)).block≠b1:=λe=>by have:=hSb.1;rw[e]at this;omega
 refine Ha (Ja (v:=.pointer (some (ad.add (j*3)))) (Sa (i:=(j:Int)) Nu O hA O Ba Ba) ?_);refine Ja (Xa (l:=[J (Yd s).1[j].k,J ((Yd s).1[j].f:Nat),J ((Yd s).1[j].t:Nat)]) wQ jZ O O (hF.cellsE (by rw[pQ];exact hSa) hk)) ?_;refine Ye hF jX jZ O ?_;rintro b3 w hb3 hF -;refine Qb (Aa (Ob ME O) (Tb (Yi dZ O hF.F 0 O O) (Aa (Om O O) (Ca ?_))));refine Pb O O (λhc2=>?_) (λhc2=>?_);refine Ld ⟨[10],λwq=>FR w1 [b1] [(b3,.cells #[J ((Yd s).1[j].k),J (((Yd s).1[j].f:Nat)),J (((Yd s).1[j].t:Nat))] 149),(b1,.cells #[I [],aQ] 97)] wq,[8]⟩ (bQ [0,1,2,3,4,5] (.act 6 (.act 7 (.free 8 (.free 9 (.act 10 .nil)))))) hF ?_;rintro w hF -;refine⟨λwq=>FR w1 [b1] [(b3,.cells #[J ((Yd s).1[j].k),J (((Yd s).1[j].f:Nat)),J (((Yd s).1[j].t:Nat))] 149),(b2,.cells #[I s,.slice A2 rs.length c2,J 0,J 0,aQ,J 0,J 0] 147),(b1,.cells #[I [],aQ] 97)] wq,hF.mid 0 3,?_⟩;refine Fb O (Wf O) (Fb O (Wf O) (Fb O (Ii O) (Fb O (Ob Vi O) (Sf O (Ff uQ O C0 1 O O) (Sf O (He wQ jZ O C0 0 O O) ?_)))));refine Nf 1 O hF (Eb (cs:=#[J ((Yd s).1[j].k),J (((Yd s).1[j].f:Nat)),J (((Yd s).1[j].t:Nat))]) vZ jZ jX Ta Ta Ib) ?_;rintro b4 w hb4 hF -;refine⟨hF.mid 1 3,?_⟩;refine QK (news:=[J ((Yd s).1[j].k),J (((Yd s).1[j].f:Nat)),J (((Yd s).1[j].t:Nat))]) (len':=(rs++[(Yd s).1[j]]).length) (ys:=(Fn.tkCs (rs++[(Yd s).1[j]]))) O EP hF hS O O (O) (λ_=>⟨_,O,Yc (hF.cellsAll 0 O)⟩) (by simp[Value.oneCell']) (by simp only[maxLen];omega) La (by simp[Fn.tkCs,Fn.tkC]) Ba ?_;intro A0 c0 ts_0 w hS0_ts hF hE hnew;refine⟨hF.mid 1 3,?_⟩;refine Fb O (Ii O) (Fb O (Ob Vi O) ?_);refine Q4 (.slice _ _ _) O hF sizeOf140 O O Rw Mr ?_;rintro w hF -;refine⟨hF.sub (.cons _ (.cons_cons _ (.cons _ (.cons_cons _ (List.nil_sublist _))))),?_⟩;refine Ac (Cb (Ga (Ha (Aa (Bo (((j+1:Nat):Int)) O O) (Aa (Gb O) (Ua ?_))))));refine Xb ⟨_,?_,j+1,(rs++[(Yd s).1[j]]),A0,c0,ts_0,O,Ba,(by rw[J6 hjl,<-hrs,if_pos hc2]),(hS0_ts),U_,hF.drop 2⟩
 omega;refine Na (Cb (Ga (Ha (Aa (Bo (((j+1:Nat):Int)) O O) (Aa (Gb O) (Ua ?_))))));refine Xb ⟨_,?_,j+1,rs,A2,c2,sts,O,Ba,(by rw[J6 hjl,<-hrs,if_neg hc2,qQ]),(hS),U_,hF.drop 1⟩;omega;refine Kc (Ec O ?_);refine Ga (Fa ?_);have hjn:j=(Yd s).1.length:=by omega
 obtain rfl:rs=FI s:=by rw[hrs,hjn,List.take_length];rfl
 obtain⟨w2,hw2⟩:∃x,x=w:=⟨_,rfl⟩;have hS2:Same [b1] w1 w2:=by rw[hw2];exact hF.same
 have hb2:=par_ge hF;have hJ0:=p0_Jp (o:=.cells #[I [],aQ] 97) hF hS (OI hTk);rw[<-hw2]at hJ0;have hM0:Mc w2 ([(b1,.cells #[I [],aQ] 97)]++[(b2,.cells (Br s A2 c2 (Qz s) none 0).toArray 147)]) w2 ([(b1,.cells #[I [],aQ] 97)]++[(b2,.cells (Br s A2 c2 (Qz s) none 0).toArray 147)]):=Mc.ext (Same.refl _ _);have hlow:=JW hS1 hS2 hb1 hb2 (sm0:=([(b1,.cells #[I [],aQ] 97)]++[(b2,.cells (Br s A2 c2 (Qz s) none 0).toArray 147)])) rfl;have hG2:Gl w2:=(hG.ext hS1).same hS2 (λb hb=>by rw[pQ.1 hb];exact fQ hG.size hb1);have hlo:∀b∈ids ([(b1,.cells #[I [],aQ] 97)]++[(b2,.cells (Br s A2 c2 (Qz s) none 0).toArray 147)]),8<=b:=λb hb=>fQ hG.size (hlow b (.inr hb));have hF:FR w2 (ids ([(b1,.cells #[I [],aQ] 97)]++[(b2,.cells (Br s A2 c2 (Qz s) none 0).toArray 147)])) [] w:=by subst hw2;exact⟨Same.refl _ _,by simp,by simp⟩
 clear hM0;refine Ha (Aa (Wf O) ?_);refine Ja (w':=w) (v:=.agg #[J 0,J 0]) Ib (Ya (KS s hl _ b2 Xy RL TF 32 Ba 0 0 (Qz s) 1 _ _ w Ba Ba Ba (hw2▸hG2) hlo hno (MZ hTk) (hw2▸hJ0)) (Te en_97 O O O O) ?_);obtain⟨bo,q,hr⟩:∃x y,Hf s 32 0 0 (Qz s)=(x,y):=⟨_,_,rfl⟩;have hvo:=At hl 32 0 0 (Qz s) Ba Ba (MZ hTk);rw[hr]at hvo ⊢;have hpe:=BN hok hr;rw[<-hw2];rintro _ w ⟨rfl,sm3,hJ3,hM3⟩;obtain⟨A,Ar,c,cr,sl,vals,sb,hF,h1,h2,h3⟩:=Jp.openN (own:=[(b1,.cells #[I [],aQ] 97)]) (ex:=[]) hJ3 hM3 hJ0.off;have hF:FR w2 (ids ([(b1,.cells #[I [],aQ] 97)]++[(b2,.cells (Br s A2 c2 (Qz s) none 0).toArray 147)])) ([(b1,.cells #[I [],aQ] 97),(b2,.cells #[I s,.slice Ar q.rest.length cr,J ((q.lf:Nat)),J ((q.lt:Nat)),.slice A q.nodes.length c,J ((q.at_:Nat)),J (q.err)] 147)]++([]++(sl++(sb++[])))) w:=hF;refine Aa (Jb O) (Ca (Fa (Da ?_)));rcases Bool.eq_false_or_eq_true bo with hbo|hbo
 subst hbo;refine Aa (Dc O) (Aa (Dc O) (Aa (Wf O) (Aa (Ii O) (Aa (Ob Vi O) (Tb (Ff uQ O hF.F 1 O O) (Aa (Ug vZ O) (Aa (Gz O O) (Aa (Yb O O) (Ca ?_)))))))));refine Pb O O (λhc3=>?_) (λhc3=>?_);have hne:q.rest≠[]:=λh=>by rw[h]at hc3;exact absurd hc3 Ta
 refine Ha (Aa (Wf O) ?_);refine Ya (H2 hJ3 2) (Ra BA O O O) ?_;rintro _ w ⟨rfl,sm7,hJ7,hM7⟩;have hM7:=hM3.trans hM7;obtain⟨A,Ar,c,cr,sl,vals,sb,hF,h1,h2,h3⟩:=Jp.openN (own:=[(b1,.cells #[I [],aQ] 97)]) (ex:=[]) hJ7 hM7 hJ0.off;have hF:FR w2 (ids ([(b1,.cells #[I [],aQ] 97)]++[(b2,.cells (Br s A2 c2 (Qz s) none 0).toArray 147)])) ([(b1,.cells #[I [],aQ] 97),(b2,.cells #[I s,.slice (Ar) ((q.fail s.length 2).rest.length) (cr),J (((q.fail s.length 2).lf:Nat)),J (((q.fail s.length 2).lt:Nat)),.slice (A) ((q.fail s.length 2).nodes.length) (c),J (((q.fail s.length 2).at_:Nat)),J ((q.fail s.length 2).err)] 147)]++([]++(sl++(sb++[])))) w:=hF;refine Aa (Jb O) (Ca (Fa (Da (Aa (Dc O) (Aa (Oh (b:=false) O) (Ca (Fd O (Fa ?_))))))));refine Ld (.of []) (bQ [0,1,2,3,4,5,6,7,8] (.act 9 (.free 10 (.free 11 .nil)))) hF ?_;rintro w hF -;refine⟨λwq=>FR w2 (ids ([(b1,.cells #[I [],aQ] 97)]++[(b2,.cells (Br s A2 c2 (Qz s) none 0).toArray 147)])) [(b2,.cells #[I s,.slice (Ar) ((q.fail s.length 2).rest.length) (cr),J (((q.fail s.length 2).lf:Nat)),J (((q.fail s.length 2).lt:Nat)),.slice (A) ((q.fail s.length 2).nodes.length) (c),J (((q.fail s.length 2).at_:Nat)),J ((q.fail s.length 2).err)] 147)] wq,hF.mid 1 1,?_⟩;refine Bb O (v:=.agg #[I [],aQ]) (λw hC=>by kernel_rfl) (Fb O (Wf O) (Fb O (Ii O) (Fb O (Ob I4 O) (Sf O (Yi dZ O C0 0 O O) (Fb O (Wf O) (Fb O (Ii O) (Fb O (Ob N0 O) (Sf O (Yi isAgg38 O C0 0 O O) ?_))))))));refine Wm O hF sZ O O Qg ?_;rintro w hF -;refine⟨hF.mid 1 1,?_⟩;refine Fb O (Lb O) (Fb O (Lb O) (Ac (Ga ?_)));refine Ab (Za (Ka (Oq O (l:=[I [],aQ]) O isAgg97 sZ O (hF.cellsAll 0 O) (v:=J (((q.fail s.length 2).at_:Nat))) O (y:=J ((q.fail s.length 2).err)) O) ?_));have hSw:Same [] w0 w:=Qu hS1 hS2 hF.same hb1 hlow;have hpe2:Ue s=([],q.here s.length,2):=by rw[hpe,if_neg Ta,if_pos hne]
 rw[hpe2];exact⟨none,0,[],O,λh=>absurd O h.2,Rep.slice_mk O (gQ _) Ta (λh=>absurd O h),(λx hx=>by cases hx),⟨Nat.zero_le _,(λx hx=>by cases hx)⟩,hSw⟩;have hne:¬q.rest≠[]:=λh=>hc3 (by have:=List.length_pos_iff.2 h;show (0:Int)<((q.rest.length:Nat):Int);omega);refine Na (Ga (Fa (Da (Aa (Dc O) (Aa (Oh (b:=true) O) (Ca (Kz O (Da ?_))))))));refine Aa (Md O) (Aa (Wf O) (Aa (Ii O) (Aa (Ob Cm O) (Tb (Ff isAgg95 O hF.F 1 O O) ?_))));refine Ja (w':=w) (v:=.agg #[I s,.slice A q.nodes.length c]) Ib (Aa (Md O) (Aa (Qr iX O) ?_));refine Xd hF sZ O O Qg ?_;rintro w hF -;refine Aa (Lb O) (Aa (Lb O) (Ca ?_));refine Ab (Za (Ka (Oq O (l:=[I s,.slice A q.nodes.length c]) O isAgg97 sZ O (hF.cellsAll 0 O) (v:=J ((((s):Str).length:Int))) O (y:=J 0) O) ?_));have hSw:Same [] w0 w:=Qu hS1 hS2 hF.same hb1 hlow;have hpe2:Ue s=(q.nodes,s.length,0):=by rw[hpe,if_neg Ta,if_neg hne]
 rw[hpe2];exact⟨A,c,s,O,λ_=>rfl,LO (own:=[_,_]) hF h1 h2 hvo.1.nd hlow,hvo.1.nd,hvo.1.nb,hSw⟩;subst hbo;refine Aa (Dc O) (Aa (Dc O) (Ia (Ia (Ia (Ia (Ia (Ia (Aa (Bc O O) (Ca (Kz O ?_))))))))));refine Fa (Da (Aa (Dc O) (Aa (Oh (b:=false) O) (Ca (Fd O (Fa ?_))))));refine Ld (.of []) (bQ [0,1,2,3,4,5,6,7,8] (.act 9 (.free 10 (.free 11 .nil)))) hF ?_;rintro w hF -;refine⟨λwq=>FR w2 (ids ([(b1,.cells #[I [],aQ] 97)]++[(b2,.cells (Br s A2 c2 (Qz s) none 0).toArray 147)])) [(b2,.cells #[I s,.slice Ar q.rest.length cr,J ((q.lf:Nat)),J ((q.lt:Nat)),.slice A q.nodes.length c,J ((q.at_:Nat)),J (q.err)] 147)] wq,hF.mid 1 1,?_⟩;refine Bb O (v:=.agg #[I [],aQ]) (λw hC=>by kernel_rfl) (Fb O (Wf O) (Fb O (Ii O) (Fb O (Ob I4 O) (Sf O (Yi dZ O C0 0 O O) (Fb O (Wf O) (Fb O (Ii O) (Fb O (Ob N0 O) (Sf O (Yi isAgg38 O C0 0 O O) ?_))))))));refine Wm O hF sZ O O Qg ?_;rintro w hF -;refine⟨hF.mid 1 1,?_⟩;refine Fb O (Lb O) (Fb O (Lb O) (Ac (Ga ?_)));refine Ab (Za (Ka (Oq O (l:=[I [],aQ]) O isAgg97 sZ O (hF.cellsAll 0 O) (v:=J ((q.at_:Nat))) O (y:=J (q.err)) O) ?_));have hSw:Same [] w0 w:=Qu hS1 hS2 hF.same hb1 hlow;have hpe2:Ue s=([],q.at_,q.err):=by rw[hpe,if_pos rfl]
 rw[hpe2];exact⟨none,0,[],O,λh=>absurd O h.2,Rep.slice_mk O (gQ _) Ta (λh=>absurd O h),(λx hx=>by cases hx),⟨Nat.zero_le _,(λx hx=>by cases hx)⟩,hSw⟩
end Go.Scarf
