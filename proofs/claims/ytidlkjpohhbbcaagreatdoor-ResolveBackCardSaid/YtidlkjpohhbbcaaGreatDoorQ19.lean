/- A part of the proof. -/
import Derived.Test.YtidlkjpohhbbcaaGreatDoorX27
import Derived.Test.YtidlkjpohhbbcaaGreatDoorQ17
set_option linter.all false
set_option maxHeartbeats 8000000
set_option maxRecDepth 10000
namespace Go.Scarf
open Go.RowKit Go.Proofs Go.Proofs.Tryz
theorem D8{s:Str}:∀y∈(Ub s).1,Bu y/\y.t<=s.length:=by
  unfold Ub;split
  ·intro y hy;cases hy
  rename_i hl
  suffices h:∀(f a:Nat)(out:List Tk),(∀y∈out,Bu y/\y.t<=s.length)->∀y∈(Gg f s a out).1,Bu y/\y.t<=s.length from h _ _ _ (λy hy=>by cases hy)
  intro f
  induction f with
  | zero=>intro a out _ y hy;cases hy
  | succ f ih =>
    intro a out ho y hy;rw[Gg]at hy;split at hy
    ·rename_i h1
     split at hy
     ·rename_i h2
      have hto:=Lz h1 h2;refine ih _ _ (λz hz=>?_) y hy;rcases mQ.1 hz with h|h
      ·exact ho z h
      rw[pQ.1 h];exact⟨⟨hto.2.2.2.1,hto.2.2.2.2,by rw[hto.2.2.1];exact hto.1,by omega⟩,hto.2.1⟩
     cases hy
    exact ho y hy
def TkIn(s:Str)(p:Ps):Prop:=∀t∈p.rest,t.f<=t.t/\t.t<=s.length
theorem YX(s:Str)(p q:Ps)(h:q.rest <:+ p.rest)(hp:TkIn s p):TkIn s q:=λt ht=>hp t (h.subset ht)
theorem tkIn_p0(s:Str):TkIn s (Up s):=λt ht=>by
  have h:=D8 t (List.mem_filter.1 ht).1;exact⟨Nat.le_of_lt h.1.2.2.1,h.2⟩
theorem Sx{s:Str}(h:(Ub s).2.2≠0):Hc s=([],(Ub s).2.1,(Ub s).2.2):=by
  unfold Hc;exact if_pos h
def RM(kid:Ps × List Str->Bool × Ps × List Str):Prop:=∀st,(kid st).1=false->(kid st).2.1.err≠0
theorem SA{kid:Ps × List Str->Bool × Ps × List Str}(hk:RM kid)(hs:Dx kid)(len n:Nat)(closing:Int):∀(g:Nat)(st:Ps × List Str),st.1.rest.length<g->(Oj kid len n closing g st).1=false->(Oj kid len n closing g st).2.1.err≠0
  | 0,_,h,_=>absurd h (Nat.not_lt_zero _)
  | g + 1, (p, had), h, h1 => by
    have h2:=hk (p,had);have h3:=(hs (p,had)).length_le;rw[Oj]at h1 ⊢;dsimp only at h1 h h2 h3 ⊢;split at h1
    ·rename_i h4;rw[if_pos h4];exact h2 h4
    rename_i h4;rw[if_neg h4]
    split at h1
    ·cases h1
    rename_i h5;rw[if_neg h5]
    split at h1
    ·rename_i h6;rw[if_pos h6];exact (by decide:(2:Int)≠0)
    rename_i h6;rw[if_neg h6]
    have h7:=MO (Decidable.not_not.1 h6);exact SA hk hs len n closing g _ (by dsimp only at h7 ⊢;omega) h1
theorem U_{kid:Ps × List Str->Bool × Ps × List Str}(hk:RM kid)(hs:Dx kid)(len n:Nat)(closing:Int)(st:Ps × List Str)(h:(Qd kid len n closing st).1=false):(Qd kid len n closing st).2.1.err≠0:=by
  unfold Qd at h ⊢;split at h
  ·cases h
  rename_i h1;rw[if_neg h1];exact SA hk hs len n closing _ st (Nat.lt_succ_self _) h
def GY(val:Nat->Nat->Ps->Bool × Ps):Prop:=∀kf kt p,(val kf kt p).1=false->(val kf kt p).2.err≠0
theorem QL(s:Str){val:Nat->Nat->Ps->Bool × Ps}(h:GY val):RM (Jd s val):=λst=>by
  obtain⟨p,had⟩:=st;unfold Jd;dsimp only;split
  ·exact λ_=>(by decide:(2:Int)≠0)
  split
  ·exact λ_=>(by decide:(2:Int)≠0)
  split
  ·exact λ_=>(by decide:(7:Int)≠0)
  split
  ·exact λ_=>(by decide:(2:Int)≠0)
  exact h _ _ _
theorem Cx(s:Str):∀d:Nat,GY (Zb s d)
  | 0 => λkf kt p h => by
    rw[Zb]at h ⊢;split
    ·exact (by decide:(2:Int)≠0)
    exact (by decide:(5:Int)≠0)
  | d + 1 => λkf kt p h => by
    have ih:=Cx s d;rw[Zb]at h ⊢;split
    ·exact (by decide:(2:Int)≠0)
    rename_i t r hr
    rw[hr]at h;dsimp only at h ⊢;split
    ·exact (by decide:(2:Int)≠0)
    rename_i h1;rw[if_neg h1]at h
    split
    ·exact (by decide:(6:Int)≠0)
    rename_i h2;rw[if_neg h2]at h
    dsimp only at h ⊢;split
    ·rename_i h3;rw[if_pos h3]at h;exact U_ (kid:=Ri s d) (λst h=>ih 0 0 st.1 h) (Sz (Om s d)) _ _ _ _ h
    rename_i h3;rw[if_neg h3]at h
    split
    ·rename_i h4;rw[if_pos h4]at h;exact U_ (QL s ih) (Vw s (Om s d)) _ _ _ _ h
    rename_i h4;rw[if_neg h4]at h;cases h
theorem QR{s:Str}(hl:s.length<=65536)(h:(Hc s).2.2=0):0<(Hc s).1.length:=by
  by_cases hok:(Ub s).2.2=0
  ·obtain⟨b, q, hr⟩ : ∃b q, Zb s 32 0 0 (Up s) = (b, q) := ⟨_, _, rfl⟩
   have h1:=Xg hl 32 0 0 (Up s) Aa Aa (Z_ λy hy=>(D8 y hy).1);have h2:=Cx s 32 0 0 (Up s);have h3:=Xq hok hr;rw[hr]at h1 h2;rw[h3]at h ⊢;cases b with
   | false=>exact absurd h (h2 rfl)
   | true =>
     rw[if_neg Oa]at h ⊢;split at h
     ·cases h
     rename_i h4;rw[if_neg h4];exact Nat.lt_of_le_of_lt (Nat.zero_le _) (h1.2.2 rfl)
  rw[Sx hok]at h;exact absurd h hok
theorem JU(s:Str)(hl:s.length<=65536)(w0:World)(hG:Gl w0):Calls prog 74 #[I s] w0 (Oc λv w'=>∃A c tx,v=.tuple #[.agg #[I tx,.slice A (Hc s).1.length c],J ((Hc s).2.1:Nat),J (Hc s).2.2]/\((Hc s).2.2=0/\(Hc s).1≠[]->tx=s)/\Rep (Btw w0 w') w' (.slice ((Hc s).1.map ndD)) [.slice A (Hc s).1.length c]/\(∀x∈(Hc s).1,NdOk x)/\NB (Hc s).1/\Same [] w0 w'):=by
 refine Ea func74 O ntmps74 Bb (Tb _) ?_;have hF:=FR.start w0 [];refine Da (Gc (cs:=#[I [],aQ]) hF zeroValue99 O ?_);rintro b1 w hb1 hF -;refine Ba (Gb O) (Ba (Gb O) (Ob (Ba (Pd O) ?_)));refine Ta (Fn.tokensE_c s (UniC.all s) Aa _ (hG.ext hF.same)) (Ma en_112 O O) ?_;have hwb:b1<_:=hF.lt (i:=0) rfl;rintro _ w ⟨AT,cT,rfl,hT,hTk,hE⟩;have hF:=hF.ext hE;refine Ba (Aj O) (Ba (yxl O O) (Ba (Nh O O) (Ba (Nh O O) (Ba (Cm O) (Ba (Gb O) (Ba (Gb O) (Ca (Fa (Fa ?_)))))))));obtain⟨w1,hw1⟩:∃x,x=w:=⟨_,rfl⟩;have hS1:Same [] w0 w1:=by rw[hw1];exact hF.same
 have hb1:=hF.ge (i:=0) rfl;have hF1:FR w1 [b1] [(b1,.cells #[I [],aQ] 99)] w:=by subst hw1;exact FR.open_ (λq hq=>by rw[pQ.1 hq];exact⟨hF.heap (i:=0) rfl,by simp⟩) La
 rw[<-hw1]at hT;clear hF;have hF:=hF1;clear hF1;refine Ja (Ba (Cb O) (Ba (Sn O O) (Ca ?_)));refine Lb O O (λhc0=>?_) (λhc0=>?_);refine Da (Ia (w':=w) (v:=.agg #[I [],aQ]) Ib ?_);refine Ba (Cb O) (Ba (Cb O) ?_);refine Ke hF uZ O O Oi ?_;rintro w hF -;refine Ba (Gb O) (Ba (Gb O) (Ca ?_));refine Xa (Va (Ka (Uj O (l:=[I [],aQ]) O jZ uZ O (hF.cellsAll 0 O) (v:=J (((Ub s).2.1:Nat))) O (y:=J ((Ub s).2.2)) O) ?_));have hSw:Same [] w0 w:=Bl hS1 hF.same (Same.refl [] _) hb1 (λx hx=>by have h1:=hS1.size;have h2:=hF.same.size;simp only[List.not_mem_nil,or_false]at hx;omega);rw[Sx hc0];exact⟨none,0,[],O,λh=>absurd O h.2,Rep.slice_mk O (gQ _) Oa (λh=>absurd O h),(λx hx=>by cases hx),⟨Nat.zero_le _,(λx hx=>by cases hx)⟩,hSw⟩;have hok:(Ub s).2.2=0:=Decidable.not_not.1 hc0;refine Na (Ga (Da (Ba (Pd O) ?_)));refine Ia (w':=w) (v:=.agg #[I s,aQ,J 0,J 0,aQ,J 0,J 0]) Ib (Df hF O ?_);rintro b2 w hb2 hF -;refine Ba (yap O) (Ca (Fa (Da (Ba (Qe O) (Ba (Qg xZ O) (Ba (Cb O) (Ca (Sa ?_))))))));refine Rc (λμ σ w=>∃(j:Nat),∃(rs:List Tk),∃(A2:Option Addr),∃(c2:Nat),∃(sts:List (Nat × Obj)),μ=(Ub s).1.length-j/\(j<=(Ub s).1.length)/\(rs=((Ub s).1.take j).filter (λt=>decide (t.k≠1)))/\(SlB 140 3 A2 rs.length c2 (Fn.tkCs rs) sts)/\AllEq σ [(0,I s),(2,.pointer (some ⟨b1,0,none⟩)),(8,.pointer (some ⟨b2,0,none⟩)),(26,.slice (AT) ((Ub s).1.length) (cT)),(27,J (((Ub s).1.length:Nat))),(28,J ((j:Int)))]/\FR w1 [b1] ([(b2,.cells #[I s,.slice A2 rs.length c2,J 0,J 0,aQ,J 0,J 0] 138),(b1,.cells #[I [],aQ] 99)]++(sts++[])) w) _ ⟨0,[],none,0,[],O,(Nat.zero_le _),(O),(SlB.nil _ _),I9,hF⟩ ?_;rintro μ σ w ⟨j,rs,A2,c2,sts,rfl,hj,hrs,hS,hs,hF⟩;refine Cg.slots hs ?_;clear hs;intro σ;have htl:=WA s;have hrl:rs.length<=65536:=by rw[hrs];exact fQ (List.length_filter_le _ _) (by rw[List.length_take];omega)
 refine Da (Ba (Dl O O) (Ca (Fa ?_)));refine Lb O O (λhc1=>?_) (λhc1=>?_);refine Na (Ga (Fa (Sa (Fa ?_))));have hjl:j<(Ub s).1.length:=by omega
 obtain⟨ad,hA,hSb,hk⟩:=hT.tok_at hjl;have hSa:(ad.add (j*3)).block≠b1:=λe=>by have:=hSb.1;rw[e]at this;omega
 refine Ja (Ia (v:=.pointer (some (ad.add (j*3)))) (Ra (i:=(j:Int)) Lq O hA O Aa Aa) ?_);refine Ia (Za (l:=[J (Ub s).1[j].k,J ((Ub s).1[j].f:Nat),J ((Ub s).1[j].t:Nat)]) wQ lZ O O (hF.cellsE (by rw[pQ];exact hSa) hk)) ?_;refine Hf hF qX lZ O ?_;rintro b3 w hb3 hF -;refine Ob (Ba (Rb F6 O) (Yb (Pi xQ O hF.F 0 O O) (Ba (Sn O O) (Ca ?_))));refine Lb O O (λhc2=>?_) (λhc2=>?_);refine Dd ⟨[10],λwq=>FR w1 [b1] [(b3,.cells #[J ((Ub s).1[j].k),J (((Ub s).1[j].f:Nat)),J (((Ub s).1[j].t:Nat))] 140),(b1,.cells #[I [],aQ] 99)] wq,[8]⟩ (bQ [0,1,2,3,4,5] (.act 6 (.act 7 (.free 8 (.free 9 (.act 10 .nil)))))) hF ?_;rintro w hF -;refine⟨λwq=>FR w1 [b1] [(b3,.cells #[J ((Ub s).1[j].k),J (((Ub s).1[j].f:Nat)),J (((Ub s).1[j].t:Nat))] 140),(b2,.cells #[I s,.slice A2 rs.length c2,J 0,J 0,aQ,J 0,J 0] 138),(b1,.cells #[I [],aQ] 99)] wq,hF.mid 0 3,?_⟩;refine Hb O (Kf O) (Hb O (Kf O) (Hb O (Hh O) (Hb O (Rb Ng O) (Nf O (Ff uQ O C0 1 O O) (Nf O (Ig wQ lZ O C0 0 O O) ?_)))));refine Of 1 O hF (Fb (cs:=#[J ((Ub s).1[j].k),J (((Ub s).1[j].f:Nat)),J (((Ub s).1[j].t:Nat))]) xZ lZ qX Oa Oa Ib) ?_;rintro b4 w hb4 hF -;refine⟨hF.mid 1 3,?_⟩;refine KJ (news:=[J ((Ub s).1[j].k),J (((Ub s).1[j].f:Nat)),J (((Ub s).1[j].t:Nat))]) (len':=(rs++[(Ub s).1[j]]).length) (ys:=(Fn.tkCs (rs++[(Ub s).1[j]]))) O UB hF hS O O (O) (λ_=>⟨_,O,Tc (hF.cellsAll 0 O)⟩) (by simp[Value.oneCell']) (by simp only[maxLen];omega) La (by simp[Fn.tkCs,Fn.tkC]) Aa ?_;intro A0 c0 ts_0 w hS0_ts hF hE hnew;refine⟨hF.mid 1 3,?_⟩;refine Hb O (Hh O) (Hb O (Rb Ng O) ?_);refine X2 (.slice _ _ _) O hF sizeOf131 O O B0 Tr ?_;rintro w hF -;refine⟨hF.sub (.cons _ (.cons_cons _ (.cons _ (.cons_cons _ (List.nil_sublist _))))),?_⟩;refine d_nil (Wa (Ga (Ja (Ba (Un (((j+1:Nat):Int)) O O) (Ba (Cb O) (Eb ?_))))));refine Qb ⟨_,?_,j+1,(rs++[(Ub s).1[j]]),A0,c0,ts_0,O,Aa,(by rw[Ov hjl,<-hrs,if_pos hc2]),(hS0_ts),I9,hF.drop 2⟩
 omega;refine Na (Wa (Ga (Ja (Ba (Un (((j+1:Nat):Int)) O O) (Ba (Cb O) (Eb ?_))))));refine Qb ⟨_,?_,j+1,rs,A2,c2,sts,O,Aa,(by rw[Ov hjl,<-hrs,if_neg hc2,qQ]),(hS),I9,hF.drop 1⟩;omega;refine Ic (Ec O ?_);refine Ga (Fa ?_);have hjn:j=(Ub s).1.length:=by omega
 obtain rfl:rs=E5 s:=by rw[hrs,hjn,List.take_length];rfl
 obtain⟨w2,hw2⟩:∃x,x=w:=⟨_,rfl⟩;have hS2:Same [b1] w1 w2:=by rw[hw2];exact hF.same
 have hb2:=par_ge hF;have hJ0:=p0_Jp (o:=.cells #[I [],aQ] 99) hF hS (PB hTk);rw[<-hw2]at hJ0;have hM0:Mc w2 ([(b1,.cells #[I [],aQ] 99)]++[(b2,.cells (Ym s A2 c2 (Up s) none 0).toArray 138)]) w2 ([(b1,.cells #[I [],aQ] 99)]++[(b2,.cells (Ym s A2 c2 (Up s) none 0).toArray 138)]):=Mc.ext (Same.refl _ _);have hlow:=XO hS1 hS2 hb1 hb2 (sm0:=([(b1,.cells #[I [],aQ] 99)]++[(b2,.cells (Ym s A2 c2 (Up s) none 0).toArray 138)])) rfl;have hG2:Gl w2:=(hG.ext hS1).same hS2 (λb hb=>by rw[pQ.1 hb];exact fQ hG.size hb1);have hlo:∀b∈ids ([(b1,.cells #[I [],aQ] 99)]++[(b2,.cells (Ym s A2 c2 (Up s) none 0).toArray 138)]),8<=b:=λb hb=>fQ hG.size (hlow b (.inr hb));have hF:FR w2 (ids ([(b1,.cells #[I [],aQ] 99)]++[(b2,.cells (Ym s A2 c2 (Up s) none 0).toArray 138)])) [] w:=by subst hw2;exact⟨Same.refl _ _,by simp,by simp⟩
 clear hM0;refine Ja (Ba (Kf O) ?_);refine Ia (w':=w) (v:=.agg #[J 0,J 0]) Ib (Ta (HU s hl _ b2 (TkIn s) (YX s) (λ_ h=>h) 32 Aa 0 0 (Up s) 1 _ _ w Aa Aa Aa (hw2▸hG2) hlo (tkIn_p0 s) (Z_ hTk) (hw2▸hJ0)) (De QD O O O O) ?_);obtain⟨bo,q,hr⟩:∃x y,Zb s 32 0 0 (Up s)=(x,y):=⟨_,_,rfl⟩;have hvo:=Xg hl 32 0 0 (Up s) Aa Aa (Z_ hTk);rw[hr]at hvo ⊢;have hpe:=Xq hok hr;rw[<-hw2];rintro _ w ⟨rfl,sm3,hJ3,hM3⟩;obtain⟨A,Ar,c,cr,sl,vals,sb,hF,h1,h2,h3⟩:=Jp.openN (own:=[(b1,.cells #[I [],aQ] 99)]) (ex:=[]) hJ3 hM3 hJ0.off;have hF:FR w2 (ids ([(b1,.cells #[I [],aQ] 99)]++[(b2,.cells (Ym s A2 c2 (Up s) none 0).toArray 138)])) ([(b1,.cells #[I [],aQ] 99),(b2,.cells #[I s,.slice Ar q.rest.length cr,J ((q.lf:Nat)),J ((q.lt:Nat)),.slice A q.nodes.length c,J ((q.at_:Nat)),J (q.err)] 138)]++([]++(sl++(sb++[])))) w:=hF;refine Ba (Kb O) (Ca (Fa (Da ?_)));rcases Bool.eq_false_or_eq_true bo with hbo|hbo
 subst hbo;refine Ba (Sc O) (Ba (Sc O) (Ba (Kf O) (Ba (Hh O) (Ba (Rb Ng O) (Yb (Ff uQ O hF.F 1 O O) (Ba (Qg xZ O) (Ba (Yx O O) (Ba (Fc O O) (Ca ?_)))))))));refine Lb O O (λhc3=>?_) (λhc3=>?_);have hne:q.rest≠[]:=λh=>by rw[h]at hc3;exact absurd hc3 Oa
 refine Ja (Ba (Kf O) ?_);refine Ta (Rn hJ3 2) (Ua Qn O O O) ?_;rintro _ w ⟨rfl,sm7,hJ7,hM7⟩;have hM7:=hM3.trans hM7;obtain⟨A,Ar,c,cr,sl,vals,sb,hF,h1,h2,h3⟩:=Jp.openN (own:=[(b1,.cells #[I [],aQ] 99)]) (ex:=[]) hJ7 hM7 hJ0.off;have hF:FR w2 (ids ([(b1,.cells #[I [],aQ] 99)]++[(b2,.cells (Ym s A2 c2 (Up s) none 0).toArray 138)])) ([(b1,.cells #[I [],aQ] 99),(b2,.cells #[I s,.slice (Ar) ((q.fail s.length 2).rest.length) (cr),J (((q.fail s.length 2).lf:Nat)),J (((q.fail s.length 2).lt:Nat)),.slice (A) ((q.fail s.length 2).nodes.length) (c),J (((q.fail s.length 2).at_:Nat)),J ((q.fail s.length 2).err)] 138)]++([]++(sl++(sb++[])))) w:=hF;refine Ba (Kb O) (Ca (Fa (Da (Ba (Sc O) (Ba (Wi (b:=false) O) (Ca (Od O (Fa ?_))))))));refine Dd (.of []) (bQ [0,1,2,3,4,5,6,7,8] (.act 9 (.free 10 (.free 11 .nil)))) hF ?_;rintro w hF -;refine⟨λwq=>FR w2 (ids ([(b1,.cells #[I [],aQ] 99)]++[(b2,.cells (Ym s A2 c2 (Up s) none 0).toArray 138)])) [(b2,.cells #[I s,.slice (Ar) ((q.fail s.length 2).rest.length) (cr),J (((q.fail s.length 2).lf:Nat)),J (((q.fail s.length 2).lt:Nat)),.slice (A) ((q.fail s.length 2).nodes.length) (c),J (((q.fail s.length 2).at_:Nat)),J ((q.fail s.length 2).err)] 138)] wq,hF.mid 1 1,?_⟩;refine Ab O (v:=.agg #[I [],aQ]) (λw hC=>by kernel_rfl) (Hb O (Kf O) (Hb O (Hh O) (Hb O (Rb Vu O) (Nf O (Pi xQ O C0 0 O O) (Hb O (Kf O) (Hb O (Hh O) (Hb O (Rb Iu O) (Nf O (Pi isAgg25 O C0 0 O O) ?_))))))));refine Aw O hF uZ O O Oi ?_;rintro w hF -;refine⟨hF.mid 1 1,?_⟩;refine Hb O (Gb O) (Hb O (Gb O) (d_nil (Ga ?_)));refine Xa (Va (Ka (Uj O (l:=[I [],aQ]) O jZ uZ O (hF.cellsAll 0 O) (v:=J (((q.fail s.length 2).at_:Nat))) O (y:=J ((q.fail s.length 2).err)) O) ?_));have hSw:Same [] w0 w:=Bl hS1 hS2 hF.same hb1 hlow;have hpe2:Hc s=([],q.here s.length,2):=by rw[hpe,if_neg Oa,if_pos hne]
 rw[hpe2];exact⟨none,0,[],O,λh=>absurd O h.2,Rep.slice_mk O (gQ _) Oa (λh=>absurd O h),(λx hx=>by cases hx),⟨Nat.zero_le _,(λx hx=>by cases hx)⟩,hSw⟩;have hne:¬q.rest≠[]:=λh=>hc3 (by have:=List.length_pos_iff.2 h;show (0:Int)<((q.rest.length:Nat):Int);omega);refine Na (Ga (Fa (Da (Ba (Sc O) (Ba (Wi (b:=true) O) (Ca (Dr O (Da ?_))))))));refine Ba (Pd O) (Ba (Kf O) (Ba (Hh O) (Ba (Rb Uh O) (Yb (Ff iZ O hF.F 1 O O) ?_))));refine Ia (w':=w) (v:=.agg #[I s,.slice A q.nodes.length c]) Ib (Ba (Pd O) (Ba (Rp oX O) ?_));refine Ke hF uZ O O Oi ?_;rintro w hF -;refine Ba (Gb O) (Ba (Gb O) (Ca ?_));refine Xa (Va (Ka (Uj O (l:=[I s,.slice A q.nodes.length c]) O jZ uZ O (hF.cellsAll 0 O) (v:=J ((((s):Str).length:Int))) O (y:=J 0) O) ?_));have hSw:Same [] w0 w:=Bl hS1 hS2 hF.same hb1 hlow;have hpe2:Hc s=(q.nodes,s.length,0):=by rw[hpe,if_neg Oa,if_neg hne]
 rw[hpe2];exact⟨A,c,s,O,λ_=>rfl,R9 (own:=[_,_]) hF h1 h2 hvo.1.nd hlow,hvo.1.nd,hvo.1.nb,hSw⟩;subst hbo;refine Ba (Sc O) (Ba (Sc O) (Ha (Ha (Ha (Ha (Ha (Ha (Ba (Pc O O) (Ca (Dr O ?_))))))))));refine Fa (Da (Ba (Sc O) (Ba (Wi (b:=false) O) (Ca (Od O (Fa ?_))))));refine Dd (.of []) (bQ [0,1,2,3,4,5,6,7,8] (.act 9 (.free 10 (.free 11 .nil)))) hF ?_;rintro w hF -;refine⟨λwq=>FR w2 (ids ([(b1,.cells #[I [],aQ] 99)]++[(b2,.cells (Ym s A2 c2 (Up s) none 0).toArray 138)])) [(b2,.cells #[I s,.slice Ar q.rest.length cr,J ((q.lf:Nat)),J ((q.lt:Nat)),.slice A q.nodes.length c,J ((q.at_:Nat)),J (q.err)] 138)] wq,hF.mid 1 1,?_⟩;refine Ab O (v:=.agg #[I [],aQ]) (λw hC=>by kernel_rfl) (Hb O (Kf O) (Hb O (Hh O) (Hb O (Rb Vu O) (Nf O (Pi xQ O C0 0 O O) (Hb O (Kf O) (Hb O (Hh O) (Hb O (Rb Iu O) (Nf O (Pi isAgg25 O C0 0 O O) ?_))))))));refine Aw O hF uZ O O Oi ?_;rintro w hF -;refine⟨hF.mid 1 1,?_⟩;refine Hb O (Gb O) (Hb O (Gb O) (d_nil (Ga ?_)));refine Xa (Va (Ka (Uj O (l:=[I [],aQ]) O jZ uZ O (hF.cellsAll 0 O) (v:=J ((q.at_:Nat))) O (y:=J (q.err)) O) ?_));have hSw:Same [] w0 w:=Bl hS1 hS2 hF.same hb1 hlow;have hpe2:Hc s=([],q.at_,q.err):=by rw[hpe,if_pos rfl]
 rw[hpe2];exact⟨none,0,[],O,λh=>absurd O h.2,Rep.slice_mk O (gQ _) Oa (λh=>absurd O h),(λx hx=>by cases hx),⟨Nat.zero_le _,(λx hx=>by cases hx)⟩,hSw⟩
theorem HT(s:Str)(hl:s.length<=65536)(w0:World)(hG:Gl w0):Calls prog 43 #[I s] w0 (Oc λv w'=>∃ct:List Value,v=.tuple #[.agg ct.toArray,J ((Cc s).2.1:Nat),J (Cc s).2.2]/\Rep (Btw w0 w') w' (Jb (Cc s).1) ct/\Same [] w0 w'):=by
 refine Ea func43 O ntmps43 Bb (Tb _) ?_;have hF:=FR.start w0 [];refine Da (Gc (cs:=#[J 0,I [],aQ,aQ]) hF sX O ?_);rintro b1 w hb1 hF -;refine Ba (Gb O) (Ba (Gb O) (Ob (Ba (Pd O) ?_)));refine Ta (JU s hl _ (hG.ext hF.same)) (Ma en_74 O O) ?_;rintro _ w ⟨A,c,tx,rfl,htx,hR,hnd,hnb2,hE⟩;have hQ:=RX.made (ids:=[b1]) hF.same.size (λx hx=>hF.lt_ids hx) hR;clear hR;have hF:=hF.ext hE;refine Ba (Aj O) (Ba (Ru O O) (Ba (Nh O O) (Ba (Nh O O) ?_)));refine Hf hF zeroValue99 uZ O ?_;intro b2 w hb2 hF hE;have hQ:=hQ.alloc hE hb2;refine Ba (Gb O) (Ba (Gb O) (Ca (Fa (Da (Ba (Cb O) (Ba (Sn O O) (Ca ?_)))))));refine Lb O O (λhc0=>?_) (λhc0=>?_);have hc0:¬(Hc s).2.2=0:=hc0;refine Da (Ia (w':=w) (v:=.agg #[J 0,I [],aQ,aQ]) Ib ?_);refine Ba (Cb O) (Ba (Cb O) ?_);refine Ke hF oZ O O Tr ?_;intro w hF hE;have hQ:=hQ.store hE La;refine Ba (Gb O) (Ba (Gb O) (Ca ?_));refine Xa (Va (Ka (Uj O (l:=[J 0,I [],aQ,aQ]) O aZ oZ O (hF.cellsAll 1 O) (v:=J (((Hc s).2.1:Nat))) O (y:=J ((Hc s).2.2)) O) ?_));have e:Cc s=(.node 0 [] [] [],(Hc s).2.1,(Hc s).2.2):=by unfold Cc;rw[if_pos hc0]
 rw[e];exact⟨_,O,Rep.tree_mk (ks:=[]) (xs:=[]) ⟨by decide,by decide⟩ La (Rep.nil_slice 0 Aa none) (Rep.nil_slice 0 Aa none),hF.same⟩;have hc0:(Hc s).2.2=0:=Decidable.not_not.1 hc0;have hne:=QR hl;obtain rfl:s=tx:=(htx ⟨hc0,λh=>by have:=hne hc0;rw[h]at this;cases this⟩).symm;refine Na (Ga (Da (Yb (Ig jZ uZ O hF.F 0 O O) ?_)));refine Ta (L6 s (Hc s).1 A c _ Aa hnb2.1 hnd (λx hx=>by have:=(hnb2.2 x hx).1;have:=hnb2.1;omega) (λx _=>⟨UniC.all _,λ_=>UniC.all _⟩) 32 Aa 0 1 Aa (hne hc0) _ (hG.ext hF.same) hQ.rep) (De HP O O O O) ?_;rintro _ w ⟨ct,rfl,hRt,hE⟩;obtain⟨qt,rfl,-⟩:=Wh hRt;have hT:=RX.made (ids:=[b2,b1]) hF.same.size (λx hx=>hF.lt_ids hx) hRt;clear hRt hQ;have hF:=hF.ext hE;refine Ba (Cb O) (Ke hF oZ O O Tr ?_);intro w hF hE;have hT:=hT.store hE La;refine Ba (Gb O) (Ba (Gb O) (Ca ?_));refine Xa (Va (Ka (Uj O (l:=qt.cells) O aZ oZ O (hF.cellsAll 1 O) (v:=J (((Hc s).2.1:Nat))) O (y:=J 0) O) ?_));have e:Cc s=(Sf s (Hc s).1 32 0,(Hc s).2.1,0):=by unfold Cc;rw[if_neg (λh=>h hc0)]
 rw[e]
 ·exact⟨_,O,hT.done,hF.same⟩
def Jq(V:Nat->Nat->Prop):List Int->Nat->Nat->Prop
  | [],a,e=>a<=e
  | k::ks,a,e=>∃b:Nat,(a:Int)<=k/\V k.toNat b/\Jq V ks b e
def Zv(l:List Nd):Nat->Nat->Nat->Prop
  | 0,n,e=>n<e
  | d+1,n,e=>n<e/\∃x,l[n]? = some x/\Jq (Zv l d) x.kids (n+1) e
theorem My{l:List Nd}:∀{d n e:Nat},Zv l d n e->n<e
  | 0,_,_,h=>h
  | _+1,_,_,h=>h.1
theorem V4{V:Nat->Nat->Prop}(hV:∀a b,V a b->a<b):∀{ks:List Int}{a e:Nat},Jq V ks a e->a<=e
  | [],_,_,h=>h
  | k :: ks, a, e, ⟨b, h1, h2, h3⟩ => by
    have:=hV _ _ h2;have:=V4 hV h3;omega
theorem Vs{V V':Nat->Nat->Prop}(hV:∀a b,V a b->a<b):∀{ks:List Int}{a e:Nat},(∀x y,a<=x->y<=e->V x y->V' x y)->Jq V ks a e->Jq V' ks a e
  | [],_,_,_,h=>h
  | k :: ks, a, e, hh, ⟨b, h1, h2, h3⟩ => by
    have hb:=V4 hV h3;have:=hV _ _ h2;exact⟨b,h1,hh _ _ Aa hb h2,Vs hV (λx y h4 h5=>hh x y Aa h5) h3⟩
theorem Rs{l l':List Nd}:∀{d n e:Nat},(∀i,n<=i->i<e->l[i]? = l'[i]?)->Zv l d n e->Zv l' d n e
  | 0,_,_,_,h=>h
  | d+1,n,e,hh,⟨h1,x,h2,h3⟩=>⟨h1,x,(hh n (gQ _) h1).symm.trans h2,Vs (λ_ _=>My) (λa b h4 h5 h6=>Rs (λi h7 h8=>hh i Aa Aa) h6) h3⟩
theorem P5{V:Nat->Nat->Prop}{k:Int}{e e':Nat}(hk:(e:Int)<=k)(hv:V k.toNat e'):∀{ks:List Int}{a:Nat},Jq V ks a e->Jq V (ks++[k]) a e'
  | [],a,h=>⟨e',by have h:a<=e:=h;omega,hv,gQ _⟩
  | _::_,_,⟨b,h1,h2,h3⟩=>⟨b,h1,h2,P5 hk hv h3⟩
def BD(kid:Ps × List Str->Bool × Ps × List Str)(d:Nat):Prop:=∀st,NP st.1->(kid st).1=true->Zv (kid st).2.1.nodes d st.1.nodes.length (kid st).2.1.nodes.length
theorem N7{kid:Ps × List Str->Bool × Ps × List Str}{d:Nat}(hk:T6 kid)(hg:BD kid d){len:Nat}(hlen:len<=65536)(n:Nat)(closing:Int):∀(g:Nat)(st:Ps × List Str)(x:Nd),NP st.1->st.1.nodes[n]? = some x->Jq (Zv st.1.nodes d) x.kids (n+1) st.1.nodes.length->(Oj kid len n closing g st).1=true ->
    ∃x',(Oj kid len n closing g st).2.1.nodes[n]? = some x'/\Jq (Zv (Oj kid len n closing g st).2.1.nodes d) x'.kids (n+1) (Oj kid len n closing g st).2.1.nodes.length
  | 0,st,x,_,_,_,h=>by cases h
  | g + 1, (p, had), x, hb, hx, hK, h => by
    have h1:=hk (p,had) hb;have h2:=hg (p,had) hb;rw[Oj]at h ⊢;dsimp only at h h1 h2 hx hK hb ⊢;by_cases h0:(kid (p,had)).1=false
    ·rw[if_pos h0]at h;cases h
    have h0' : (kid (p, had)).1 = true := by simpa using h0
    rw[if_neg h0]at h ⊢;have h2:=h2 h0';have hlt:=h1.2.2 h0';obtain⟨hn,hxe⟩:=List.getElem?_eq_some_iff.1 hx;generalize (kid (p,had)).2.1=q at h h1 h2 hlt ⊢;obtain⟨y,hy⟩:=h1.2.1;have hx2:q.nodes[n]? = some x:=by rw[<-hy,List.getElem?_append_left hn];exact hx
    have hold:∀i,i<p.nodes.length->q.nodes[i]? = p.nodes[i]?:=λi hi=>by rw[<-hy,List.getElem?_append_left hi]
    have hnq:n<q.nodes.length:=by omega
    have hset:addKid q.nodes n (p.nodes.length:Int) (p.lt:Int) (q.here len:Int)=q.nodes.set n { x with kids:=x.kids++[(p.nodes.length:Int)],pcs:=x.pcs++[((p.lt:Int),((q.here len:Nat):Int))] }:=by
      unfold addKid;rw[hx2]
    have hNP:=J9 (b:=true) (len:=len) hb hn ⟨h1.1,h1.2.1,λ_=>hlt⟩ hlt hlen;have hK2:Jq (Zv (addKid q.nodes n (p.nodes.length:Int) (p.lt:Int) (q.here len:Int)) d) (x.kids++[(p.nodes.length:Int)]) (n+1) (addKid q.nodes n (p.nodes.length:Int) (p.lt:Int) (q.here len:Int)).length:=by
      rw[Gx];refine P5 (e:=p.nodes.length) (Int.le_refl _) ?_ ?_
      ·rw[Int.toNat_natCast]
       refine Rs (λi h3 h4=>?_) h2;rw[hset,List.getElem?_set_ne Aa]
      refine Vs (λ_ _ => My) (λa b h3 h4 h5 => Rs (λi h6 h7 => ?_) h5) hK;rw[hset,List.getElem?_set_ne Aa,hold i Aa]
    have hx3:(addKid q.nodes n (p.nodes.length:Int) (p.lt:Int) (q.here len:Int))[n]? = some { x with kids:=x.kids++[(p.nodes.length:Int)],pcs:=x.pcs++[((p.lt:Int),((q.here len:Nat):Int))] }:=by
      rw[hset,List.getElem?_set_self hnq]
    split at h
    ·rename_i h3;rw[if_pos h3];dsimp only;rw[Fd];exact⟨_,hx3,hK2⟩
    rename_i h3;rw[if_neg h3]
    split at h
    ·cases h
    rename_i h4;rw[if_neg h4]
    exact N7 hk hg hlen n closing g _ _ hNP.skip (by rw[Fd];exact hx3) (by rw[Fd];exact hK2) h
theorem V6{kid:Ps × List Str->Bool × Ps × List Str}{d:Nat}(hk:T6 kid)(hg:BD kid d){len:Nat}(hlen:len<=65536)(n:Nat)(closing:Int)(st:Ps × List Str)(x:Nd)(hb:NP st.1)(hx:st.1.nodes[n]? = some x)(hx0:x.kids=[])(hn:st.1.nodes.length=n+1)(h:(Qd kid len n closing st).1=true) :
    ∃x',(Qd kid len n closing st).2.1.nodes[n]? = some x'/\Jq (Zv (Qd kid len n closing st).2.1.nodes d) x'.kids (n+1) (Qd kid len n closing st).2.1.nodes.length:=by
  have hK:Jq (Zv st.1.nodes d) x.kids (n+1) st.1.nodes.length:=by rw[hx0,hn];exact gQ _
  unfold Qd at h ⊢;split at h
  ·rename_i h1;rw[if_pos h1];dsimp only;rw[Fd];exact⟨x,hx,hK⟩
  rename_i h1;rw[if_neg h1];exact N7 hk hg hlen n closing _ st x hb hx hK h
def XQ(s:Str)(d:Nat):Prop:=∀kf kt p,kf<=65536->kt<=65536->NP p->(Zb s d kf kt p).1=true->Zv (Zb s d kf kt p).2.nodes d p.nodes.length (Zb s d kf kt p).2.nodes.length
theorem WE{s:Str}{d:Nat}(h:XQ s d):BD (Jd s (Zb s d)) d:=λst hb h1=>by
  obtain⟨p,had⟩:=st;dsimp only at hb;unfold Jd at h1 ⊢;dsimp only at h1 ⊢;split at h1
  ·cases h1
  rename_i t r hr
  split at h1
  ·cases h1
  rename_i h2
  split at h1
  ·cases h1
  rename_i h3
  split at h1
  ·cases h1
  rename_i h4
  have ht:=hb.tk t (by rw[hr];exact List.mem_cons_self);have h5:=h t.f t.t p.skip.skip ht.1 ht.2 hb.skip.skip h1;rw[Fd,Fd]at h5;simp only[hr,if_neg h2,if_neg h3,if_neg h4];exact h5
theorem L2{s:Str}(hs:s.length<=65536):∀d:Nat,XQ s d
  | 0 => λkf kt p _ _ _ h => by
    rw[Zb]at h;split at h <;> cases h
  | d + 1 => λkf kt p hkf hkt hb h => by
    have ih:=L2 hs d;by_cases hk:Kd p.kind=0
    ·rw[Jt hk]at h;cases h
    obtain⟨t,r,hr⟩:=Gv hk;rw[Bj hr]at hk;by_cases h2:p.nodes.length=4096
    ·rw[Zu (by rw[Bj hr];exact hk) h2]at h;cases h
    have e:=Xl (s:=s) (d:=d) (kf:=kf) (kt:=kt) hr hk h2 rfl;have hNP:=GK hb hr hkf hkt Aa;have hq:(Xx p t kf kt).skip.nodes=p.nodes++[K4 t kf kt]:=by rw[Fd];rfl
    have hx:(Xx p t kf kt).skip.nodes[p.nodes.length]? = some (K4 t kf kt):=by rw[hq,List.getElem?_append_right (gQ _),Nat.sub_self];rfl
    have hl:(Xx p t kf kt).skip.nodes.length=p.nodes.length+1:=by rw[hq,dQ];rfl
    rw[e]at h ⊢;have key:∀rr:Bool × Ps,(∃x',rr.2.nodes[p.nodes.length]? = some x'/\Jq (Zv rr.2.nodes d) x'.kids (p.nodes.length+1) rr.2.nodes.length)->Zv (Y2 p.nodes.length rr).2.nodes (d+1) p.nodes.length (Y2 p.nodes.length rr).2.nodes.length:=λrr ⟨x',h3,h4⟩=>by
      obtain⟨hlt,-⟩:=List.getElem?_eq_some_iff.1 h3;have es:setTo rr.2.nodes p.nodes.length rr.2.lt=rr.2.nodes.set p.nodes.length { x' with t:=rr.2.lt }:=by unfold setTo;rw[h3]
      unfold Y2;dsimp only;rw[Ev];refine⟨hlt,{ x' with t:=rr.2.lt },by rw[es,List.getElem?_set_self hlt],Vs (λ_ _=>My) (λa b h5 h6 h7=>Rs (λi h8 h9=>?_) h7) h4⟩;rw[es,List.getElem?_set_ne Aa]
    have h':((if Kd t.k=5 then ((Qd (Ri s d) s.length p.nodes.length 5 ((Xx p t kf kt).skip,[])).1,(Qd (Ri s d) s.length p.nodes.length 5 ((Xx p t kf kt).skip,[])).2.1) else if Kd t.k=6 then ((Qd (Jd s (Zb s d)) s.length p.nodes.length 3 ((Xx p t kf kt).skip,[])).1,(Qd (Jd s (Zb s d)) s.length p.nodes.length 3 ((Xx p t kf kt).skip,[])).2.1) else (true,(Xx p t kf kt).skip)):Bool × Ps).1=true:=h;refine key _ ?_;by_cases h5:Kd t.k=5
    ·rw[if_pos h5]at h' ⊢
     exact V6 (kid:=Ri s d) (Vv (Xg hs d)) (λst hb h6=>ih 0 0 st.1 Aa Aa hb h6) hs _ 5 ((Xx p t kf kt).skip,[]) _ hNP hx O hl h'
    rw[if_neg h5]at h' ⊢;by_cases h6:Kd t.k=6
    ·rw[if_pos h6]at h' ⊢
     exact V6 (Mv s (Xg hs d)) (WE ih) hs _ 3 ((Xx p t kf kt).skip,[]) _ hNP hx O hl h'
    rw[if_neg h6];exact⟨_,hx,by rw[hl];exact gQ _⟩
theorem KR{s:Str}(hl:s.length<=65536)(h:(Hc s).2.2=0):Zv (Hc s).1 32 0 (Hc s).1.length/\NB (Hc s).1:=by
  by_cases hok:(Ub s).2.2=0
  ·obtain⟨b, q, hr⟩ : ∃b q, Zb s 32 0 0 (Up s) = (b, q) := ⟨_, _, rfl⟩
   have hp:=Z_ (s:=s) λy hy=>(D8 y hy).1;have h1:=Xg hl 32 0 0 (Up s) Aa Aa hp;have h2:=Cx s 32 0 0 (Up s);have h4:=L2 hl 32 0 0 (Up s) Aa Aa hp;have h3:=Xq hok hr;rw[hr]at h1 h2 h4;rw[h3]at h ⊢;cases b with
   | false=>exact absurd h (h2 rfl)
   | true =>
     rw[if_neg Oa]at h ⊢;split at h
     ·cases h
     rename_i h5;rw[if_neg h5];exact⟨h4 rfl,h1.1.nb⟩
  rw[Sx hok]at h;exact absurd h hok
theorem C7(s:Str)(l:List Nd):∀{d n e:Nat},Zv l d n e->Db (Sf s l d n)<=e-n
  | 0, n, e, h => by
    have h:n<e:=h;unfold Sf;split <;> (rw[Db,Nb];omega)
  | d + 1, n, e, ⟨h1, x, h2, h3⟩ => by
    have key:∀(ks:List Int)(p:Int->Bool)(a:Nat),Jq (Zv l d) ks a e->Nb ((ks.takeWhile p).map λj=>Sf s l d j.toNat)<=e-a:=by
      intro ks
      induction ks with
      | nil=>intro p a _;exact Nat.zero_le _
      | cons k ks ih =>
        intro p a ⟨b,h4,h5,h6⟩;have h7:=C7 s l h5;have h8:=My h5;have h9:=ih p b h6;have h10:=V4 (λ_ _=>My) h6;rw[List.takeWhile_cons];split
        ·rw[List.map_cons,Nb];omega
        exact Nat.zero_le _
    rw[Sf,h2];dsimp only;rw[Db];have:=key x.kids (λj:Int=>decide (0<=j)&&decide (j<(l.length:Int))) (n+1) h3;omega
theorem I_(s:Str)(l:List Nd):∀(d n:Nat),Ad (Sf s l d n)<=4*s.length+1100
  | 0, n => by
    unfold Sf;split
    ·rw[Ad,Di,Jh];simp
    rename_i x _
    have h1:=No x.k (Ac s x.f x.t);have h2:=Mi s x.f x.t;rw[Ad,Di,Jh];omega
  | d + 1, n => by
    unfold Sf;split
    ·rw[Ad,Di,Jh];simp
    rename_i x _
    have h1:=No x.k (Ac s x.f x.t);have h2:=Mi s x.f x.t;dsimp only;rw[Ad];refine Nat.max_le.2 ⟨by omega,Nat.max_le.2 ⟨St λk hk=>?_,Pp λy hy=>?_⟩⟩
    ·split at hk
     ·obtain⟨j, -, rfl⟩ := nQ.1 hk
      split
      ·exact Nat.zero_le _
      rename_i y _
      have h3:=Wr (λn=>(Pg n).2) (Ac s y.kf y.kt);have h4:=Mi s y.kf y.kt;omega
     cases hk
    obtain⟨j, -, rfl⟩ := nQ.1 hy;exact I_ s l d j.toNat
theorem PL(s:Str)(l:List Nd)(d n:Nat):(Sf s l d n).keys.length<=(Sf s l d n).items.length:=by
  cases d with
  | zero=>unfold Sf;split <;> exact gQ _
  | succ d =>
    unfold Sf;split
    ·exact gQ _
    simp only[Tree.keys, Tree.items];split <;> simp
theorem Vx(s:Str)(l:List Nd)(d n:Nat):∀y∈(Sf s l d n).items,∃d' n',y=Sf s l d' n':=λy hy=>by
  cases d with
  | zero=>unfold Sf at hy;split at hy <;> cases hy
  | succ d =>
    unfold Sf at hy;split at hy
    ·cases hy
    obtain⟨j, -, rfl⟩ := nQ.1 hy;exact⟨d,j.toNat,O⟩
theorem EU(x:Tree):x.text.length<=Ad x:=by cases x;rw[Ad];simp only[Tree.text];omega
theorem P1{x y:Tree}(h:y∈x.items):Db y<=Db x:=by have:=Zk h;have:=Bm x;omega
theorem PX{y:Tree}{M:Nat}(hM:1<=Db y)(h:Ad y<=M)(hy:∀a∈y.items,∀b∈a.items,b.keys.length<=b.items.length) :
    Db (Td y).1.sd.val<=Db y/\Ad (Td y).1.sd.val<=M/\(Td y).1.pr.length<=M/\(Td y).1.sd.val.keys.length<=Db y:=by
  have h0:Db zeroT<=Db y:=by simp only[zeroT,Db,Nb];omega
  have h1:Ad zeroT<=M:=by simp[zeroT,Ad,Di,Jh]
  have hz:Db (Ol).sd.val<=Db y/\Ad Ol.sd.val<=M/\Ol.pr.length<=M/\Ol.sd.val.keys.length<=Db y:=⟨h0,h1,Nat.zero_le _,Nat.zero_le _⟩;unfold Td;split
  ·split
   ·rename_i a b e
    split
    ·have ha : a ∈ y.items := by rw[e];simp
     have hb:b∈y.items:=by rw[e];simp
     have h2:=Lo h a ha;have h3:=Lo h b hb;have h4:=EU a;split
     ·rename_i x ex
      have hx:x∈b.items:=by rw[ex];simp
      have h5:=Lo h3 x hx;have h6:=P1 hx;have h7:=P1 hb;have h8:=hy b hb x hx;have h9:=Mj x.items;have h10:=Bm x;exact⟨by dsimp only;omega,h5,by dsimp only;omega,by dsimp only;omega⟩
     exact⟨h0,h1,by dsimp only;omega,Nat.zero_le _⟩
    exact hz
   exact hz
  exact hz
theorem PY{s:Str}(hl:s.length<=65536):Db (Cc s).1<=4096/\∃l d n,(Cc s).1=.node 0 [] [] []\/(Cc s).1=Sf s l d n:=by
  unfold Cc;dsimp only;split
  ·exact⟨by rw[Db,Nb];omega,[],0,0,.inl O⟩
  rename_i h
  obtain⟨h1,h2⟩:=KR hl (Decidable.not_not.1 h);have:=C7 s _ h1;exact⟨by have:=h2.1;dsimp only;omega,_,_,_,.inr O⟩
theorem I6(t:List Mm):∀(xs:List Tree),Nb ((xs.map λy=>(Td y).1).map Ml)<=3*xs.length+(xs.map λy=>Db (Td y).1.sd.val).sum
  | []=>by simp[Nb]
  | x :: xs => by
    have h:=I6 t xs;have h2:Db (Ml (Td x).1)<=3+Db (Td x).1.sd.val:=by
      unfold Ml Xe YU;simp only[Db,Nb];split
      ·simp only[Nb];omega
      simp only[Nb];omega
    simp only[List.map_cons,Nb,kQ,List.sum_cons];omega
theorem RG{s:Str}(hl:s.length<=65536):MmsP (Pn (Cc s).1):=by
  obtain⟨hsz,l,d,n,hv⟩:=PY hl;have hmx:Ad (Cc s).1<=263244:=by
    rcases hv with h|h
    ·rw[h];simp[Ad,Di,Jh]
    rw[h];have:=I_ s l d n;omega
  have hit:∀y∈(Cc s).1.items,∃d' n',y=Sf s l d' n':=λy hy=>by
    rcases hv with h|h
    ·rw[h]at hy;cases hy
    rw[h]at hy;exact Vx s l d n y hy
  generalize (Cc s).1=v at hsz hmx hit ⊢;have hB:∀y∈v.items,Db (Td y).1.sd.val<=4096/\Ad (Td y).1.sd.val<=263244/\(Td y).1.pr.length<=263244/\(Td y).1.sd.val.keys.length<=4096:=λy hy=>by
    have h1:=P1 hy;have h2:=Lo hmx y hy;have h3:=PX (H0 y) h2 (λa ha b hb=>by
      obtain⟨d1,n1,rfl⟩:=hit y hy;obtain⟨d2,n2,rfl⟩:=Vx s l d1 n1 a ha;obtain⟨d3,n3,rfl⟩:=Vx s l d2 n2 b hb;exact PL s l d3 n3)
    exact⟨by omega,h3.2.1,h3.2.2.1,by omega⟩
  have hn:v.items.length<=4096:=by have:=Mj v.items;have:=Bm v;omega
  refine⟨λm hm=>?_,?_,?_,?_⟩
  ·obtain⟨y, hy, rfl⟩ := nQ.1 hm
   obtain⟨h1,h2,h3,h4⟩:=hB y hy;exact⟨⟨by omega,Rk _ Aa⟩,by omega,by omega⟩
  ·unfold Pn;rw[rQ];omega
  ·have h1 := I6 [] v.items
   have h2:∀xs:List Tree,(∀y∈xs,Db (Td y).1.sd.val<=4096)->(xs.map λy=>Db (Td y).1.sd.val).sum<=xs.length*4096:=by
     intro xs
     induction xs with
     | nil=>intro _;simp
     | cons x xs ih =>
       intro hh;have:=hh x List.mem_cons_self;have:=ih λy hy=>hh y (List.mem_cons_of_mem _ hy);simp only[List.map_cons,List.sum_cons,kQ];omega
   have h3:=h2 v.items λy hy=>(hB y hy).1;have h4:v.items.length*4096<=4096*4096:=Nat.mul_le_mul_right _ hn;unfold Yf Pn;rw[Db];omega
  unfold Yf Pn;rw[Ad];refine Nat.max_le.2 ⟨by simp,Nat.max_le.2 ⟨by simp[Di],Pp λx hx=>?_⟩⟩;obtain⟨m,hm,rfl⟩:=nQ.1 hx;obtain⟨y,hy,rfl⟩:=nQ.1 hm;obtain⟨-,h2,h3,-⟩:=hB y hy;unfold Ml Xe YU;simp only[Ad,Di,Jh];split
  ·simp only[Jh,List.length_nil];omega
  simp only[Jh,List.length_nil];omega
end Go.Scarf
