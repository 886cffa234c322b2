/- A part of the proof. -/
import Derived.Test.YtidlkjpohhbbcaaGreatDoorQ13
set_option linter.all false
set_option maxHeartbeats 8000000
set_option maxRecDepth 10000
namespace Go.Scarf
open Go.RowKit Go.Proofs Go.Proofs.Tryz
theorem wrapU{x:Int}(h0:0<=x)(h1:x<=9223372036854775807):IntKind.u64.wrap x=x:=by rw[IntKind.wrap_u64];omega
theorem shr1(n:Nat):((n:Int)).fdiv (2 ^ 1)=((n/2:Nat):Int):=by
  rw[Int.fdiv_eq_ediv_of_nonneg _ Oa];omega
theorem Ez(a b:Str):Lib.compareBytes a b<0↔a<b:=by
  have h:=BA a b;rw[Zr]at h;have h3:=Xk a b;rw[decide_eq_decide]at h;rw[h];omega
theorem XS{a b:Str}:Lib.compareBytes a b=0↔a=b:=by
  constructor
  ·intro h
   have h1:¬a<b:=λhl=>by have:=(Ez a b).2 hl;omega
   have h2:¬b<a:=λhl=>by have:=(Ez b a).2 hl;rw[I4]at this;omega
   exact FP h1 h2
  rintro rfl;have h1:¬Lib.compareBytes a a<0:=λh=>OC ((Ez a a).1 h);have:=I4 a a;omega
theorem QV{t:List Mm}(h:Asc t){p:Str}{k i:Nat}(hk:k<t.length)(hi:i<t.length)(hki:k<=i)(hp:t[i].pr<p):t[k].pr<p:=by
  rcases Nat.lt_or_eq_of_le hki with h1|rfl
  ·exact E0 (List.pairwise_iff_getElem.1 h k i hk hi h1) hp
  exact hp
theorem asc_hi{t:List Mm}(h:Asc t){p:Str}{k i:Nat}(hk:k<t.length)(hi:i<t.length)(hki:i<=k)(hp:¬t[i].pr<p):¬t[k].pr<p:=λhl=>hp (QV h hi hk hki hl)
theorem low_is{t:List Mm}{p:Str}{i:Nat}(hi:i<=t.length)(hlo:∀k (_:k<t.length),k<i->t[k].pr<p)(hhi:∀k (_:k<t.length),i<=k->¬t[k].pr<p):Lg t p=i:=by
  unfold Lg;rw[Zo (j:=i) (λz hz=>?_) (λh=>?_),List.length_take,Nat.min_eq_left hi]
  ·obtain⟨k, hk, rfl⟩ := List.getElem_of_mem hz
   rw[List.length_take]at hk;rw[List.getElem_take,Zr,decide_eq_true_eq];exact hlo k Aa Aa
  rw[Zr, decide_eq_false_iff_not];exact hhi i h (gQ _)
theorem has_is{t:List Mm}{p:Str}{i:Nat}(h:Lg t p=i):U8 t p=match t[i]? with|some m=>decide (m.pr=p)|none=>false:=by
  unfold U8;rw[h];cases t[i]? <;> rfl
theorem pl1_c(a b:Str)(x:Sv)(w0:World):Calls prog 91 #[.agg (Cr a x).toArray,I b] w0 (Oc λv w'=>v=J (Lib.compareBytes a b)/\Same [] w0 w'):=by
 refine Ea func91 O ntmps91 Bb (Nc _ _) ?_;have hF:=FR.start w0 [];refine Da (Df hF O ?_);rintro b1 w hb1 hF -;refine Ba (Gb O) (Ob (Ba (Rb Fo O) (Yb (Tn fZ O hF.F 0 O O) (Ba (Pd O) ?_))));refine Qa hF (Cp a b _) (Ua ZF O O O) ?_;intro w hF;refine Ba (Gb O) (Ca ?_);refine Lc (v:=J (Lib.compareBytes a b)) O O ?_;exact⟨O,hF.same⟩
theorem search_c(t:List Mm)(p:Str)(A:Option Addr)(c:Nat)(S:Nat->Prop)(w0:World)(hX:Rep S w0 (Tf t) [.slice A t.length c])(hs_:Asc t)(htl:t.length<=1000000):Calls prog 90 #[.slice A t.length c,I p,.func (.func 91) #[] #[]] w0 (Oc λv w'=>v=.tuple #[J (Lg t p:Nat),.bool (U8 t p)]/\Same [] w0 w'):=by
 refine Ea func90 O ntmps90 Bb (Li _ _ _) ?_;have hF:=FR.start w0 [];refine Da (Ba (Gb O) (Ba (Kb O) (Ob (Ba (Qe O) (Ba (Qg dX O) (Ba (Gb O) (Ca (Fa ?_))))))));refine Ja (Ba (Cb O) (Ba (Gb O) (Ba (Gb O) (Ca (Fa (Sa ?_))))));refine Rc (λμ σ w=>∃(i:Nat),∃(j:Nat),μ=j-i/\(i<=j/\j<=t.length)/\(∀k (_:k<t.length),k<i->t[k].pr<p)/\(∀k (_:k<t.length),j<=k->¬t[k].pr<p)/\AllEq σ [(0,.slice A t.length c),(1,I p),(2,.func (.func 91) #[] #[]),(8,J ((t.length:Nat))),(9,J ((i:Int))),(10,J ((j:Int)))]/\FR w0 [] [] w) _ ⟨0,t.length,O,(⟨Nat.zero_le _,gQ _⟩),(λk _ h=>by omega),(λk h1 h2=>by omega),I9,hF⟩ ?_;rintro μ σ w ⟨i,j,rfl,hij,hlo,hhi,hs,hF⟩;refine Cg.slots hs ?_;clear hs;intro σ;refine Fa (Da (Ba (Cb O) (Ba (Cb O) (Ba (Dl O O) (Ca ?_)))));refine Lb O O (λhc0=>?_) (λhc0=>?_);refine Na (Ga (Sa (Fa ?_)));obtain⟨h_,hh⟩:∃h,h=(i+j)/2:=⟨_,rfl⟩;have hhl:h_<t.length:=by omega
 refine Ja (Ba (Cb O) (Ba (Cb O) (Ba (Un (((i+j:Nat):Int)) O O) (Ia (v:=.int .u64 (((i+j:Nat):Int))) (Yd gX yZ O (wrapU Aa Aa)) ?_))));refine Ia (v:=.int .u64 (((h_:Nat):Int))) (MZ 1 O O Oa (by rw[hh];exact shr1 _)) ?_;refine Ia (v:=J (((h_:Nat):Int))) (Yd yZ gX O (Do Aa Aa)) (Ba (Gb O) (Ob (Ba (Vp) (Ba (Qe O) (Ba (Cb O) ?_)))));obtain⟨ad0,q0,hA0,hk0,hx0,hp0⟩:=hX.mm_elem (i:=h_) (hhl);refine Ia (v:=.pointer (some (ad0.add (h_*6)))) (Ra (i:=((h_:Nat):Int)) El O hA0 O Aa Aa) (Ia (v:=.agg #[I (t[h_].pr),.bool (q0.h),J (q0.v.k),I (q0.v.t),.slice q0.v.A q0.v.n q0.v.c,.slice q0.v.B q0.v.m q0.v.e]) (Za (l:=(Cr t[h_].pr q0)) eZ rZ O O (hF.cells0 hk0)) (Ba (Pd O) ?_));refine Qa hF (pl1_c t[h_].pr p q0 _) (Ki O en_91 O O O) ?_;intro w hF;refine Ba (Dl O O) (Ca ?_);refine Lb O O (λhc1=>?_) (λhc1=>?_);refine Ja (Ba (Cb O) (Ba (Un (((h_+1:Nat):Int)) O O) (Ba (Gb O) (Eb (Wa ?_)))));refine Qb ⟨_,?_,h_+1,j,O,(⟨by omega,hij.2⟩),(λk h1 h2=>QV hs_ h1 hhl Aa ((Ez _ _).1 hc1)),(hhi),I9,hF⟩;omega;refine Ja (Ba (Cb O) (Ba (Gb O) (Eb (Wa ?_))));refine Qb ⟨_,?_,i,h_,O,(⟨by omega,by omega⟩),(hlo),(λk h1 h2=>asc_hi hs_ h1 hhl h2 (λh=>hc1 ((Ez _ _).2 h))),I9,hF⟩;omega;refine Ic (Ec O ?_);refine Ga (Fa ?_);obtain rfl:i=j:=by omega
 have hlw:=low_is hij.2 hlo hhi;have hhs:=has_is hlw;refine Ja (Ba (Cb O) (Ba (Cb O) (Ba (Cb O) (Ba (Dl O O) (Ba (Sc O) ?_)))));refine Wb (d:=39) O (λhg1=>?_) (λhg1=>?_);refine Ba (Vp) (Ba (Qe O) (Ba (Cb O) ?_));obtain⟨ad2,q2,hA2,hk2,hx2,hp2⟩:=hX.mm_elem (i:=i) Aa;refine Ia (v:=.pointer (some (ad2.add (i*6)))) (Ra (i:=(i:Int)) El O hA2 O Aa Aa) (Ia (v:=.agg #[I (t[i].pr),.bool (q2.h),J (q2.v.k),I (q2.v.t),.slice q2.v.A q2.v.n q2.v.c,.slice q2.v.B q2.v.m q2.v.e]) (Za (l:=(Cr t[i].pr q2)) eZ rZ O O (hF.cells0 hk2)) (Ba (Pd O) ?_));refine Qa hF (pl1_c t[i].pr p q2 _) (Ki O en_91 O O O) ?_;intro w hF;refine Ba (Xh O O) (Ba (Fc O O) (Ba (Gb O) (Ba (Kb O) (Ca ?_))));refine Xa (Va (Ka (Jc (v:=J ((i:Int))) (x:=.bool _) O O O) ?_));rw[hlw,hhs];rw[List.getElem?_eq_getElem (by omega:i<t.length)];exact⟨congrArg (λb=>Value.tuple #[J (i:Int),.bool b]) (decide_eq_decide.2 XS),hF.same⟩;refine Ha (Ha (Ha (Ha (Ha (Ha (Ha (Ha (Ba (Pc O O) (Ba (Gb O) (Ba (Kb O) (Ca ?_)))))))))));refine Xa (Va (Ka (Jc (v:=J ((i:Int))) (x:=.bool false) O O O) ?_));rw[hlw,hhs];rw[List.getElem?_eq_none Aa];exact⟨O,hF.same⟩
theorem UQ(t:List Mm)(p:Str)(A:Option Addr)(c:Nat)(S:Nat->Prop)(w0:World)(hX:Rep S w0 (Tf t) [.slice A t.length c])(hs_:Asc t)(htl:t.length<=1000000):Calls prog 57 #[.slice A t.length c,I p] w0 (Oc λv w'=>v=.tuple #[J (Lg t p:Nat),.bool (U8 t p)]/\Same [] w0 w'):=by
 refine Ea func57 O ntmps57 Bb (Nc _ _) ?_;have hF:=FR.start w0 [];refine Da (Ba (Gb O) (Ba (Kb O) (Ob (Ba (Qe O) (Ba (Pd O) ?_)))));refine Qa hF (search_c t p A c S _ (hF.rep hX) hs_ htl) (De en_90 O O O O) ?_;intro w hF;refine Ba (Nh O O) (Ba (Xn O O) (Ba (Gb O) (Ba (Kb O) (Ca ?_))));refine Xa (Va (Ka (Jc (v:=J ((Lg t p:Nat))) (x:=.bool _) O O O) ?_));exact⟨O,hF.same⟩
theorem known_c(t:List Mm)(A:Option Addr)(c:Nat)(cf:Cf)(q:Cv)(S S2:Nat->Prop)(w0:World)(hX:Rep S w0 (Tf t) [.slice A t.length c])(hm:∀m∈t,MmOk m)(htl:t.length<=1000000)(hq:CvOf S2 w0 cf q)(hP:CfP cf)(hG:Gl w0):Calls prog 61 #[.slice A t.length c,.agg q.cells.toArray] w0 (Oc λv w'=>v=.tuple #[J ((Kh t cf).1:Nat),.bool (Kh t cf).2]/\Same [] w0 w'):=by
 refine Ea func61 O ntmps61 Bb (Nc _ _) ?_;have hF:=FR.start w0 [];refine Da (Df hF O ?_);rintro b1 w hb1 hF -;refine Ba (Gb O) (Ba (Kb O) (Ob (Yb (Ig dZ qZ O hF.F 0 O O) ?_)));refine Qa hF (KE cf q S2 _ ⟨hq.n,hq.k,hF.rep hq.p,hF.rep hq.x,hF.rep hq.y,hF.rep hq.z⟩ hP (hG.ext hF.same)) (Ma PW O O) ?_;intro w hF;refine Ba (Aj O) (Ba (L1 O O) (Ba (Xn O O) (Ba (Xf O) (Ba (Kb O) (Ca (Fa (Da (Ba (Sc O) (Ba (Wi O) (Ba (Sc O) ?_))))))))));refine Je (d:=15) O (λhg0=>?_) (λhg0=>?_);refine Ha (Ha (Ha (Ba (Fc O O) (Ca (Od O (Da (Ba (Gb O) (Ba (Kb O) (Ca ?_)))))))));refine Xa (Va (Ka (Jc (v:=J 0) (x:=.bool false) O O O) ?_));have e:Kh t cf=(0,false):=by unfold Kh;rw[if_neg (by simp_all)]
 rw[e];exact⟨O,hF.same⟩;refine Ba (Qe O) (Qa hF (Cn t A c S _ (hF.rep hX) hm (hG.ext hF.same)) (Ma F2 O O) ?_);intro w hF;refine Ba (Wi O) (Ba (Pc O O) (Ca ?_));refine He O O (λhc0=>?_) (λhc0=>?_);refine Da (Ba (Gb O) (Ba (Kb O) (Ca ?_)));refine Xa (Va (Ka (Jc (v:=J 0) (x:=.bool false) O O O) ?_));have e:Kh t cf=(0,false):=by unfold Kh;rw[if_neg (by simp_all)]
 rw[e];exact⟨O,hF.same⟩;refine Na (Ga (Fa ?_));have hP1:(Ek cf).2=true:=by simp_all
 have hR1:Bh t=true:=by simp_all
 refine Ja (Ba (Qe O) (Ba (Pd O) ?_));refine Qa hF (UQ t (Ek cf).1 A c S _ (hF.rep hX) (Lp.1 hR1).1 htl) (Ua en_57 O O O) ?_;intro w hF;refine Ba (Nh O O) (Ba (Xn O O) (Ba (Gb O) (Ba (Kb O) (Ca ?_))));refine Xa (Va (Ka (Jc (v:=J ((Lg t (Ek cf).1:Nat))) (x:=.bool _) O O O) ?_));have e:Kh t cf=(Lg t (Ek cf).1,U8 t (Ek cf).1):=by unfold Kh;rw[if_pos (by rw[hP1,hR1];rfl)]
 rw[e];exact⟨O,hF.same⟩
theorem IV{t:List Mm}{c:Cf}(h:(Kh t c).2=true):(Kh t c).1<t.length:=by
  unfold Kh at h ⊢;split at h
  ·rename_i hc
   rw[if_pos hc];simp only at h ⊢;unfold U8 at h;rcases Nat.lt_or_ge (Lg t (Ek c).1) t.length with h1|h1
   ·exact h1
   rw[List.getElem?_eq_none h1]at h;cases h
  cases h
theorem find_c(t:List Mm)(A:Option Addr)(c:Nat)(cf:Cf)(q:Cv)(S S2:Nat->Prop)(w0:World)(hX:Rep S w0 (Tf t) [.slice A t.length c])(hm:∀m∈t,MmOk m)(htl:t.length<=1000000)(hq:CvOf S2 w0 cf q)(hP:CfP cf)(hG:Gl w0):Calls prog 24 #[.slice A t.length c,.agg q.cells.toArray] w0 (Oc λv w'=>∃y:Sv,v=.tuple #[.agg y.cells.toArray,.bool (Jj t cf).2]/\Rep (Btw w0 w') w' (Se (Zj (Jj t cf).1)) y.cells/\Same [] w0 w'):=by
 refine Ea func24 O ntmps24 Bb (Nc _ _) ?_;have hF:=FR.start w0 [];refine Da (Df hF O ?_);rintro b1 w hb1 hF -;refine Gc (cs:=#[.bool false,J 0,I [],aQ,aQ]) hF tX O ?_;rintro b2 w hb2 hF -;refine Ba (Kb O) (Ob (Ba (Qe O) (Yb (Ig dZ qZ O hF.F 1 O O) ?_)));refine Qa hF (known_c t A c cf q S S2 _ (hF.rep hX) hm htl ⟨hq.n,hq.k,hF.rep hq.p,hF.rep hq.x,hF.rep hq.y,hF.rep hq.z⟩ hP (hG.ext hF.same)) (Ua en_61 O O O) ?_;intro w hF;refine Ba (Aj O) (Ba (Nh O O) (Ba (Xn O O) (Ba (Gb O) (Ba (Kb O) (Ca (Fa (Da (Ba (Sc O) (Ba (Wi O) (Ca ?_))))))))));refine He O O (λhc0=>?_) (λhc0=>?_);have h0:(Kh t cf).2=false:=by simpa using hc0
 refine Da (Ia (w':=w) (v:=.agg #[.bool false,J 0,I [],aQ,aQ]) Ib ?_);refine Ke hF pZ O O Oi ?_;rintro w hF -;refine Ba (Kb O) (Ca ?_);refine Xa (Va (Ka (Ae O (l:=[.bool false,J 0,I [],aQ,aQ]) O bZ pZ O (hF.cellsAll 0 O) (v:=.bool false) O) ?_));have e:Jj t cf=(noS,false):=by unfold Jj;rw[if_neg (by rw[h0];decide)]
 rw[e];exact⟨⟨false,O_⟩,O,Ho,hF.same⟩;have h0:(Kh t cf).2=true:=by simpa using hc0
 have hkl:=IV h0;refine Na (Ga (Da (Ba (Qe O) (Ba (Cb O) ?_))));obtain⟨ad0,q0,hA0,hk0,hx0,hp0⟩:=hX.mm_elem (i:=(Kh t cf).1) (hkl);refine Ia (v:=.pointer (some (ad0.add ((Kh t cf).1*6)))) (Ra (i:=((Kh t cf).1:Nat)) El O hA0 O Aa Aa) (Ia (v:=.pointer (some ((ad0.add ((Kh t cf).1*6)).add 1))) (Gd (a:=ad0.add ((Kh t cf).1*6)) Uk O) (Ia (v:=.agg (q0.cells).toArray) (Za (l:=q0.cells) bZ pZ O O (Hi (hF.cells0 hk0) 1 O)) ?_));refine Ta (K3 t[(Kh t cf).1].sd q0 S _ (hF.rep hx0) (hm _ (eQ hkl)).sd (hG.ext hF.same)) (Ma YP O O) ?_;rintro _ w ⟨y,rfl,hRt,hE⟩;have hY:=RX.made (ids:=[b2,b1]) hF.same.size (λx hx=>hF.lt_ids (by simpa using hx)) hRt;have hF:=hF.ext hE;clear hE hRt;refine Ke hF pZ O O Oi ?_;intro w hF hE;have hY:=hY.store hE (by grind);refine Ba (Kb O) (Ca ?_);refine Xa (Va (Ka (Ae O (l:=y.cells) O bZ pZ O (hF.cellsAll 0 O) (v:=.bool true) O) ?_));have e:Jj t cf=(t[(Kh t cf).1].sd,true):=by unfold Jj;rw[if_pos h0,List.getElem?_eq_getElem hkl]
 rw[e]
 ·exact⟨y,O,hY.done,hF.same⟩
theorem FR.takeB{w0 w w':World}{Ds:List Nat}{bs_:List (Nat × Obj)}{b:Nat}{o:Obj}(hF:FR w0 Ds bs_ w)(hE:Same [] w w')(hh:w'.heap[b]? = some o)(hg:w.heap.size<=b):FR w0 Ds ((b,o)::bs_) w':=by
  have h:=hF.ext hE;refine⟨h.same,λp hp=>?_,List.pairwise_cons.2 ⟨λq hq e=>?_,h.desc⟩⟩
  ·rcases oQ.1 hp with rfl|hp
   ·exact⟨hh,.inl (fQ hF.same.size hg)⟩
   exact h.own p hp
  have := Mb (hF.own q hq).1;have e':q.1=b:=e;omega
theorem Rx{s:Sd}{k:Int}(h:Gt s k=true):Zj s=Yu s:=by
  unfold Zj Yu;unfold Gt at h;cases hs:s.has with
  | false=>rfl
  | true =>
    rw[hs]at h;simp only[Bool.not_true,Bool.false_or,Bool.and_eq_true]at h;simp only[if_true];rw[Vt,if_pos (Cs h.1)]
theorem UZ{v:Tree}(h:P2 v=true):v=zeroT:=by
  obtain⟨k,t,ks,xs⟩:=v;unfold P2 at h;simp only[Bool.and_eq_true,decide_eq_true_eq]at h;obtain⟨h1,h2,h3,h4⟩:=h;simp only[Tree.kind,Tree.text,Tree.keys,Tree.items]at h1 h2 h3 h4;subst h1 h2 h3 h4;rfl
theorem copM_id{m:Mm}(h:In m=true):KT m=m:=by
  obtain⟨pr,has,val⟩:=m;unfold In at h;simp only[Bool.and_eq_true,Bool.or_eq_true]at h;unfold KT;simp only;rw[Rx h.2.1];unfold Yu;cases has with
  | true=>rfl
  | false =>
    have hz:P2 val=true:=by simpa using h.2.2
    rw[UZ hz];rfl
theorem copM_all{t:List Mm}(h:Bh t=true):t.map KT=t:=by
  have h2:=(Lp.1 h).2.1;clear h
  induction t with
  | nil=>rfl
  | cons m t ih=>rw[List.map_cons,copM_id (h2 m List.mem_cons_self),ih λx hx=>h2 x (List.mem_cons_of_mem _ hx)]
theorem Im{S:Nat->Prop}{w:World}:∀{t:List Mm}{vals:List Value}(h:RepL S w (t.map M5) vals)(k:Nat),k<=t.length->RepL S w ((t.take k).map M5) (vals.take (k*6))/\RepL S w ((t.drop k).map M5) (vals.drop (k*6))
  | [], vals, h, k, hk => by
    obtain rfl:=RepL.nil_inv h;simp;exact RepL.nil_mk
  | m::t,vals,h,0,hk=>by simpa using⟨RepL.nil_mk,h⟩
  | m :: t, vals, h, k + 1, hk => by
    obtain⟨c1,c2,rfl,h1,h2⟩:=RepL.cons_inv h;obtain⟨x,rfl,-,-⟩:=H3 h1;obtain⟨i1,i2⟩:=Im h2 k (by simpa using hk);have e:(k+1)*6=(Cr m.pr x).length+k*6:=by simp[Cr];omega
    have e2:(Cr m.pr x++c2).drop ((Cr m.pr x).length+k*6)=c2.drop (k*6):=by rw[<-List.drop_drop,List.drop_left]
    rw[e,List.take_length_add_append,e2];exact⟨RepL.cons_mk h1 i1,i2⟩
theorem Y9{w0 w:World}{ids_:List Nat}{g n c T:Nat}{l:List Mm}{vals:List Value}(hh:w.heap[g]? = some (.cells vals.toArray T))(hR:RX w0 ids_ w (l.map M5) (vals.take (n*6)))(hg:w0.heap.size<=g)(hn:n=l.length)(hc:n<=c)(hm:c<=maxLen):Rep (Btw w0 w) w (Tf l) [W g n c]:=by
  refine Rep.slice_mk (by rw[rQ];exact hn) hc (by simpa[maxLen]using hm) λ_=>⟨_,O,_,λi hi=>?_,RX.doneL hR⟩;rw[Wf,Nat.zero_add,Bc hh,List.getElem?_toArray];rw[List.getElem_take,List.getElem?_eq_getElem (by rw[List.length_take]at hi;omega)];exact⟨O,hg,Mb hh,_,_,hh⟩
theorem has_at{t:List Mm}{p:Str}(h:U8 t p=true):∃hl:Lg t p<t.length,t[Lg t p].pr=p:=by
  unfold U8 at h;rcases Nat.lt_or_ge (Lg t p) t.length with h1|h1
  ·rw[List.getElem?_eq_getElem h1]at h
   exact⟨h1,of_decide_eq_true h⟩
  rw[List.getElem?_eq_none h1]at h;cases h
theorem CZ(t:List Mm)(p:Str):Lg t p<=t.length:=by
  unfold Lg;exact (List.takeWhile_prefix _).length_le
def Nr(t:List Mm)(c:Cf)(s:Sd):Bool:=Bh t&&((Ek c).2&&(Gt s c.cls && !(decide (c.cls=5) && !s.has)))
theorem CV(t:List Mm)(A:Option Addr)(c:Nat)(cf:Cf)(q:Cv)(s:Sd)(x:Sv)(S S2 S3:Nat->Prop)(w0:World)(hX:Rep S w0 (Tf t) [.slice A t.length c])(hm:∀m∈t,MmOk m)(htl:t.length<=1000000)(hq:CvOf S2 w0 cf q)(hP:CfP cf)(hx:Rep S3 w0 (Se s) x.cells)(hs:SdOk s)(hG:Gl w0)(hpl:(Ek cf).1.length<=9223372036854775807):Calls prog 20 #[.slice A t.length c,.agg q.cells.toArray,.agg x.cells.toArray] w0 (Oc λv w'=>∃(A':Option Addr)(c':Nat),v=.tuple #[.slice A' (Tj t cf s).1.length c',J (Tj t cf s).2]/\Rep (Btw w0 w') w' (Tf (Tj t cf s).1) [.slice A' (Tj t cf s).1.length c']/\Same [] w0 w'):=by
 have hqk:=hq.k;have hxh:=(Ze hx).1;refine Ea func20 O ntmps20 Bb (Li _ _ _) ?_;have hF:=FR.start w0 [];refine Da (Df hF O ?_);rintro b1 w hb1 hF -;refine Df hF O ?_;rintro b2 w hb2 hF -;refine Ba (Cm O) (Ba (Gb O) (Ob (Yb (Ig dZ qZ O hF.F 1 O O) ?_)));refine Qa hF (KE cf q S2 _ ⟨hq.n,hq.k,hF.rep hq.p,hF.rep hq.x,hF.rep hq.y,hF.rep hq.z⟩ hP (hG.ext hF.same)) (Ma PW O O) ?_;intro w hF;refine Ba (Aj O) (Ba (L1 O O) (Ba (Xn O O) (Ba (Xf O) (Ba (Kb O) (Ca (Fa (Fa ?_)))))));refine Eh (λσ w=>∃(bd:Bool),(bd = !(Nr t cf s))/\AllEq σ [(0,.slice A t.length c),(5,V b2),(8,I ((Ek cf).1)),(41,.bool (bd))]/\FR w0 [] [(b2,.cells (x.cells).toArray 38),(b1,.cells (q.cells).toArray 40)] w) ?_ ?_;refine Ja (Ba (Qe O) ?_);refine Qa hF (Cn t A c S _ (hF.rep hX) hm (hG.ext hF.same)) (Ma F2 O O) ?_;intro w hF;refine Ba (Wi O) (Ba (Sc O) ?_);refine Je (d:=21) O (λhg0=>?_) (λhg0=>?_);refine Ha (Ha (Ba (Fc O O) (Ba (Sc O) (Ha (Ha (Ha (Ha (Ha (Ba (Fc O O) (Ba (Sc O) (Ha (Ha (Ha ?_)))))))))))));refine Ha (Ha (Ha (Ha (Ha (Ba (Fc O O) (Eb ?_))))));exact Qb ⟨(true),(by unfold Nr;rw[<-hqk,<-hxh];simp_all),Ur,hF⟩;refine Ba (Sc O) (Ba (Wi O) (Ba (Pc O O) (Ba (Sc O) ?_)));refine Je (d:=25) O (λhg1=>?_) (λhg1=>?_);refine Ha (Ha (Ha (Ha (Ha (Ba (Fc O O) (Ba (Sc O) (Ha (Ha (Ha (Ha (Ha (Ha (Ha ?_)))))))))))));refine Ha (Ba (Fc O O) (Eb ?_));exact Qb ⟨(true),(by unfold Nr;rw[<-hqk,<-hxh];simp_all),Ur,hF⟩;refine Yb (Ig bZ pZ O hF.F 0 O O) (Ba (Rb Rm O) (Yb (Pi xQ O hF.F 1 O O) ?_));refine Qa hF (OL s x q.k S3 _ (hF.rep hx) hs (hG.ext hF.same)) (Ua TW O O O) ?_;intro w hF;refine Ba (Wi O) (Ba (Pc O O) (Ba (Sc O) ?_));refine Je (d:=32) O (λhg2=>?_) (λhg2=>?_);refine Ha (Ha (Ha (Ha (Ha (Ha (Ha (Ha (Ba (Fc O O) (Eb ?_)))))))));exact Qb ⟨(true),(by unfold Nr;rw[<-hqk,<-hxh];simp_all),Ur,hF⟩;refine Ba (Rb Rm O) (Yb (Pi xQ O hF.F 1 O O) (Ba (Xh O O) (Ba (Sc O) ?_)))
 refine Wb (d:=36) O (λhg3=>?_) (λhg3=>?_);refine Ba (Rb Sk O) (Yb (OE cZ O hF.F 0 O O) (Ba (Wi O) (Ba (Fc O O) (Ba (Pc O O) (Eb ?_)))));exact Qb ⟨(!(x.h)),(by unfold Nr;rw[<-hqk,<-hxh];simp_all),Ur,hF⟩;refine Ha (Ha (Ha (Ba (Pc O O) (Ba (Pc O O) (Eb ?_)))));exact Qb ⟨(false),(by unfold Nr;rw[<-hqk,<-hxh];simp_all),Ur,hF⟩;rintro σ w ⟨bd,hbd,hs,hF⟩;refine Eg.slots hs ?_;clear hs;intro σ;refine Ga (He O O (λhc0=>?_) (λhc0=>?_));have h0:Nr t cf s=false:=by rw[hbd]at hc0;simpa using hc0
 refine Da (Ba (Cm O) (Ba (Gb O) (Ca ?_)));refine Xa (Va (Ka (Jc (v:=.slice _ _ _) (x:=J 1) O O O) ?_));have e:Tj t cf s=([],1):=by unfold Tj;rw[if_neg (by unfold Nr at h0;rw[h0];decide)]
 rw[e];exact⟨none,0,O,Rep.nil_slice 0 Aa none,hF.same⟩;have h0:Nr t cf s=true:=by rw[hbd]at hc0;simpa using hc0
 obtain⟨hR1,hP1,hf1,-⟩:Bh t=true/\(Ek cf).2=true/\Gt s cf.cls=true/\True:=by unfold Nr at h0;simp only[Bool.and_eq_true]at h0;exact⟨h0.1,h0.2.1,h0.2.2.1,trivial⟩
 refine Na (Ga (Da (Ba (Qe O) ?_)));have hsz:=hF.same.size;refine Ta (PS t A c S _ (hF.rep hX) hm htl (hG.ext hF.same)) (Ma en_56 O O) ?_;rintro _ w ⟨gb,vals,rfl,hgb,hvl,hge,hV,hE⟩;have hF:=hF.takeB hE hgb hge;rw[copM_all hR1]at hV;have hV:=hV.base hsz;clear hE hgb;refine Ba (Cm O) (Ob (Ba (Qe O) (Ba (Pd O) ?_)));refine Ta (UQ t (Ek cf).1 A c S _ (hF.rep hX) (Lp.1 hR1).1 htl) (Ua en_57 O O O) ?_;rintro _ w ⟨rfl,hE⟩;have hF:=hF.ext hE;have hV:=hV.ext hE;refine Ba (Aj O) (Ba (Nh O O) (Ba (Xn O O) (Ba (Gb O) (Ba (Kb O) (Ca (Fa (Sa (Da (Ba (Sc O) (Ba (Kb O) (Eb ?_)))))))))));refine Ga (He O O (λhc1=>?_) (λhc1=>?_));refine Fa ?_;obtain⟨hkl,hkp⟩:=has_at (by simpa using hc1);obtain⟨x7,hx7,-,-⟩:=X0 hV hkl;have ev7:vals=vals.take ((Lg t (Ek cf).1)*6)++(Cr t[(Lg t (Ek cf).1)].pr x7++vals.drop (((Lg t (Ek cf).1)+1)*6)):=by rw[<-hx7,List.take_append_drop]
 rw[ev7]at hF;have hF:FR w0 [] [(gb,(.cells (vals.take ((Lg t (Ek cf).1)*6)++(Cr t[(Lg t (Ek cf).1)].pr x7++vals.drop (((Lg t (Ek cf).1)+1)*6))).toArray 44)),(b2,.cells (x.cells).toArray 38),(b1,.cells (q.cells).toArray 40)] w:=hF;have hcut:=Im hV (Lg t (Ek cf).1) Aa;have hcut2:=Im hV ((Lg t (Ek cf).1)+1) Aa;refine Ja (Ba (Qe O) (Ba (Cb O) (Yb (Ig bZ pZ O hF.F 1 O O) ?_)));refine Ta (K3 s x S3 _ (hF.rep hx) hs (hG.ext hF.same)) (Ma YP O O) ?_;rintro _ w ⟨y,rfl,hRt,hE⟩;have hY:=RX.made (ids:=[gb]) hF.same.size (λx hx=>by rw[pQ.1 hx];exact hF.lt (i:=0) rfl) hRt;rw[Rx hf1]at hY;have hV:=hV.ext hE;have hF:=hF.ext hE;clear hE hRt;refine Ia (v:=.pointer (some ⟨gb,(Lg t (Ek cf).1)*6,none⟩)) (Ed (i:=((Lg t (Ek cf).1):Int)) ((Lg t (Ek cf).1)*6) El O O Aa Aa (by rw[Int.toNat_natCast,Nat.zero_add])) (Ba (Rb Uk O) ?_);refine Gh 0 (l:=y.cells) (off:=(Lg t (Ek cf).1)*6+1) (cs':=(vals.take ((Lg t (Ek cf).1)*6)++(Cr t[(Lg t (Ek cf).1)].pr y++vals.drop (((Lg t (Ek cf).1)+1)*6))).toArray) hF pZ O (v:=.agg y.cells.toArray) O O Zs O (by simp[Cr,hvl];omega) (OF (by rw[List.length_take,hvl];omega) O) ?_;intro w hF hE;have hV:=hV.store hE La;have hY:=hY.store hE La
 skip
 have hF:FR w0 [] [(gb,(.cells (vals.take ((Lg t (Ek cf).1)*6)++(Cr t[(Lg t (Ek cf).1)].pr y++vals.drop (((Lg t (Ek cf).1)+1)*6))).toArray 44)),(b2,.cells (x.cells).toArray 38),(b1,.cells (q.cells).toArray 40)] w:=hF;refine Ob (Ba (Qe O) (Ba (Cm O) (Ba (Gb O) (Ca ?_))));refine Xa (Va (Ka (Jc (v:=.slice _ _ _) (x:=J 0) O O O) ?_));have e:Tj t cf s=(t.take (Lg t (Ek cf).1)++⟨(Ek cf).1,Yu s⟩::t.drop ((Lg t (Ek cf).1)+1),0):=by unfold Tj;rw[if_pos (by unfold Nr at h0;exact h0)];simp only;rw[if_pos (by simpa using hc1)]
 rw[e];have el:(t.take (Lg t (Ek cf).1)++(⟨(Ek cf).1,Yu s⟩:Mm)::t.drop ((Lg t (Ek cf).1)+1)).length=t.length:=by simp only[dQ,kQ,List.length_take,List.length_drop];omega
 simp only[el];refine⟨some ⟨gb,0,none⟩,t.length,O,Y9 (ids_:=[gb]) (hF.heap (i:=0) O) ?_ (hF.ge (i:=0) O) el.symm (gQ _) (by simp only[maxLen];omega),hF.same⟩;rw[show (vals.take ((Lg t (Ek cf).1)*6)++(Cr t[(Lg t (Ek cf).1)].pr y++vals.drop (((Lg t (Ek cf).1)+1)*6))).take (t.length*6)=_ from List.take_of_length_le (by simp[Cr,hvl];omega),jQ,List.map_cons];refine RepL.append (Im hV (Lg t (Ek cf).1) Aa).1 (RepL.cons_mk ?_ (Im hV ((Lg t (Ek cf).1)+1) Aa).2);rw[hkp];exact PH (m:=⟨(Ek cf).1,Yu s⟩) hY.rep (by have:=(hm _ (eQ hkl)).pr;rw[hkp]at this;exact fQ this Oa);refine Da (Ba (Qe O) (Ba (Qg dX O) (Ba (Xh O O) (Ba (Kb O) (Ca ?_)))));refine Lb O O (λhc2=>?_) (λhc2=>?_);refine Da (Ba (Cm O) (Ba (Gb O) (Ca ?_)));refine Xa (Va (Ka (Jc (v:=.slice _ _ _) (x:=J 11) O O O) ?_));have e:Tj t cf s=([],11):=by unfold Tj;rw[if_pos (by unfold Nr at h0;exact h0)];simp only;rw[if_neg (by simpa using hc1),if_pos Aa]
 rw[e];exact⟨none,0,O,Rep.nil_slice 0 Aa none,hF.same⟩;refine Na (Wa (Ga (Da (Ba (Qe O) (Ba (Cb O) (Ba (Pd O) (Yb (Ig bZ pZ O hF.F 1 O O) ?_)))))));refine Ta (K3 s x S3 _ (hF.rep hx) hs (hG.ext hF.same)) (Ma YP O O) ?_;rintro _ w ⟨y,rfl,hRt,hE⟩;have hY:=RX.made (ids:=[gb]) hF.same.size (λx hx=>by rw[pQ.1 hx];exact hF.lt (i:=0) rfl) hRt;rw[Rx hf1]at hY;have hV:=hV.ext hE;have hF:=hF.ext hE;clear hE hRt;refine Ia (w':=w) (v:=.agg #[I ((Ek cf).1),.bool (y.h),J (y.v.k),I (y.v.t),.slice y.v.A y.v.n y.v.c,.slice y.v.B y.v.m y.v.e]) Ib (Ck 1 hF (Fb (cs:=#[I ((Ek cf).1),.bool (y.h),J (y.v.k),I (y.v.t),.slice y.v.A y.v.n y.v.c,.slice y.v.B y.v.m y.v.e]) dX rZ uX Oa Oa Ib) ?_);intro b3 w hb3 hF hE;have hV:=hV.alloc hE hb3;have hY:=hY.alloc hE hb3;have hsz2:=hF.same.size;refine Ta (insert_c gb b3 t.length (Lg t (Ek cf).1) vals (Cr (Ek cf).1 y) _ (hF.heap (i:=1) rfl) (hF.heap (i:=0) rfl) hvl rfl (CZ _ _) htl (RepL.one_ hV) (by intro v hv;simp[Cr]at hv;rcases hv with rfl|rfl|rfl|rfl|rfl|rfl <;> rfl)) (De en_59 rfl rfl rfl rfl) ?_;rintro _ w ⟨g2,c2,vals2,rfl,hg2,hle2,hcm2,hvl2,htk2,hge2,hE⟩;have hV:=hV.ext hE;have hY:=hY.ext hE;have hF:=hF.takeB hE hg2 hge2;refine Ba (Cm O) (Ba (Gb O) (Ca ?_));refine Xa (Va (Ka (Jc (v:=.slice _ _ _) (x:=J 0) O O O) ?_));have e:Tj t cf s=(t.take (Lg t (Ek cf).1)++⟨(Ek cf).1,Yu s⟩::t.drop (Lg t (Ek cf).1),0):=by unfold Tj;rw[if_pos (by unfold Nr at h0;exact h0)];simp only;rw[if_neg (by simpa using hc1),if_neg Aa]
 rw[e];have hkl:=CZ t (Ek cf).1;have el:(t.take (Lg t (Ek cf).1)++(⟨(Ek cf).1,Yu s⟩:Mm)::t.drop (Lg t (Ek cf).1)).length=t.length+1:=by simp only[dQ,kQ,List.length_take,List.length_drop];omega
 simp only[el];refine⟨some ⟨g2,0,none⟩,c2,O,Y9 (ids_:=[b3,gb]) (hF.heap (i:=0) O) ?_ (hF.ge (i:=0) O) el.symm hle2 hcm2,hF.same⟩;rw[htk2,jQ,List.map_cons];exact RepL.append (Im hV (Lg t (Ek cf).1) hkl).1 (RepL.cons_mk (PH (m:=⟨(Ek cf).1,Yu s⟩) hY.rep hpl) (Im hV (Lg t (Ek cf).1) hkl).2)
end Go.Scarf
