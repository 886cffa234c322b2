/- A part of the proof. -/
import Derived.Test.YtgkmigdopohcnaaGreatDoorRe5
import Derived.Test.YtgkmigdopohcnaaGreatDoorRe2
import Derived.Test.YtgkmigdopohcnaaGreatDoorQ4
set_option linter.all false
set_option maxHeartbeats 8000000
set_option maxRecDepth 10000
namespace Go.Scarf
open Go.RowKit Go.Proofs Go.Proofs.Tryz
theorem wrapU{x:Int}(h0:0<=x)(h1:x<=9223372036854775807):IntKind.u64.wrap x=x:=by rw[IntKind.wrap_u64];omega
theorem shr1(n:Nat):((n:Int)).fdiv (2 ^ 1)=((n/2:Nat):Int):=by
  rw[Int.fdiv_eq_ediv_of_nonneg _ Ta];omega
theorem Tw(a b:Str):Lib.compareBytes a b<0↔a<b:=by
  have h:=P6 a b;rw[Zn]at h;have h3:=Fk a b;rw[decide_eq_decide]at h;rw[h];omega
theorem FO{a b:Str}:Lib.compareBytes a b=0↔a=b:=by
  constructor
  ·intro h
   have h1:¬a<b:=λhl=>by have:=(Tw a b).2 hl;omega
   have h2:¬b<a:=λhl=>by have:=(Tw b a).2 hl;rw[V1]at this;omega
   exact S9 h1 h2
  rintro rfl;have h1:¬Lib.compareBytes a a<0:=λh=>Sz ((Tw a a).1 h);have:=V1 a a;omega
theorem QS{t:List Mm}(h:OH t){p:Str}{k i:Nat}(hk:k<t.length)(hi:i<t.length)(hki:k<=i)(hp:t[i].pr<p):t[k].pr<p:=by
  rcases Nat.lt_or_eq_of_le hki with h1|rfl
  ·exact Rp (List.pairwise_iff_getElem.1 h k i hk hi h1) hp
  exact hp
theorem asc_hi{t:List Mm}(h:OH t){p:Str}{k i:Nat}(hk:k<t.length)(hi:i<t.length)(hki:i<=k)(hp:¬t[i].pr<p):¬t[k].pr<p:=λhl=>hp (QS h hi hk hki hl)
theorem low_is{t:List Mm}{p:Str}{i:Nat}(hi:i<=t.length)(hlo:∀k (_:k<t.length),k<i->t[k].pr<p)(hhi:∀k (_:k<t.length),i<=k->¬t[k].pr<p):Vd t p=i:=by
  unfold Vd;rw[Un (j:=i) (λz hz=>?_) (λh=>?_),List.length_take,Nat.min_eq_left hi]
  ·obtain⟨k, hk, rfl⟩ := List.getElem_of_mem hz
   rw[List.length_take]at hk;rw[List.getElem_take,Zn,decide_eq_true_eq];exact hlo k Ba Ba
  rw[Zn, decide_eq_false_iff_not];exact hhi i h (gQ _)
theorem has_is{t:List Mm}{p:Str}{i:Nat}(h:Vd t p=i):Bq t p=match t[i]? with|some m=>decide (m.pr=p)|none=>false:=by
  unfold Bq;rw[h];cases t[i]? <;> rfl
theorem pl1_c(a b:Str)(x:Sv)(w0:World):Calls prog 64 #[.agg (Er a x).toArray,I b] w0 (Pc λv w'=>v=J (Lib.compareBytes a b)/\Same [] w0 w'):=by
 refine Ea func64 O ntmps64 Db (Lc _ _) ?_;have hF:=FR.start w0 [];refine Da (Je hF O ?_);rintro b1 w hb1 hF -;refine Aa (Kb O) (Qb (Aa (Ob Jm O) (Tb (Rm iZ O hF.F 0 O O) (Aa (Md O) ?_))));refine Oa hF (Mn a b _) (Ra DD O O O) ?_;intro w hF;refine Aa (Kb O) (Ca ?_);refine Hc (v:=J (Lib.compareBytes a b)) O O ?_;exact⟨O,hF.same⟩
theorem GU(t:List Mm)(p:Str)(A:Option Addr)(c:Nat)(S:Nat->Prop)(w0:World)(hX:Rep S w0 (Hf t) [.slice A t.length c])(hs_:OH t)(htl:t.length<=1000000):Calls prog 63 #[.slice A t.length c,I p,.func (.func 64) #[] #[]] w0 (Pc λv w'=>v=.tuple #[J (Vd t p:Nat),.bool (Bq t p)]/\Same [] w0 w'):=by
 refine Ea func63 O ntmps63 Db (Yj _ _ _) ?_;have hF:=FR.start w0 [];refine Da (Aa (Kb O) (Aa (Jb O) (Qb (Aa (Xd O) (Aa (Ug bX O) (Aa (Kb O) (Ca (Fa ?_))))))));refine Ha (Aa (Gb O) (Aa (Kb O) (Aa (Kb O) (Ca (Fa (Va ?_))))));refine Sc (λμ σ w=>∃(i:Nat),∃(j:Nat),μ=j-i/\(i<=j/\j<=t.length)/\(∀k (_:k<t.length),k<i->t[k].pr<p)/\(∀k (_:k<t.length),j<=k->¬t[k].pr<p)/\AllEq σ [(0,.slice A t.length c),(1,I p),(2,.func (.func 64) #[] #[]),(8,J ((t.length:Nat))),(9,J ((i:Int))),(10,J ((j:Int)))]/\FR w0 [] [] w) _ ⟨0,t.length,O,(⟨Nat.zero_le _,gQ _⟩),(λk _ h=>by omega),(λk h1 h2=>by omega),MC,hF⟩ ?_;rintro μ σ w ⟨i,j,rfl,hij,hlo,hhi,hs,hF⟩;refine Cg.slots hs ?_;clear hs;intro σ;refine Fa (Da (Aa (Gb O) (Aa (Gb O) (Aa (Vl O O) (Ca ?_)))));refine Pb O O (λhc0=>?_) (λhc0=>?_);refine Na (Ga (Va (Fa ?_)));obtain⟨h_,hh⟩:∃h,h=(i+j)/2:=⟨_,rfl⟩;have hhl:h_<t.length:=by omega
 refine Ha (Aa (Gb O) (Aa (Gb O) (Aa (Bo (((i+j:Nat):Int)) O O) (Ja (v:=.int .u64 (((i+j:Nat):Int))) (Ze zZ underlying161 O (wrapU Ba Ba)) ?_))));refine Ja (v:=.int .u64 (((h_:Nat):Int))) (CQ 1 O O Ta (by rw[hh];exact shr1 _)) ?_;refine Ja (v:=J (((h_:Nat):Int))) (Ze underlying161 zZ O (Um Ba Ba)) (Aa (Kb O) (Qb (Aa (Mr) (Aa (Xd O) (Aa (Gb O) ?_)))));obtain⟨ad0,q0,hA0,hk0,hx0,hp0⟩:=hX.mm_elem (i:=h_) (hhl);refine Ja (v:=.pointer (some (ad0.add (h_*6)))) (Sa (i:=((h_:Nat):Int)) Oi O hA0 O Ba Ba) (Ja (v:=.agg #[I (t[h_].pr),.bool (q0.h),J (q0.v.k),I (q0.v.t),.slice q0.v.A q0.v.n q0.v.c,.slice q0.v.B q0.v.m q0.v.e]) (Xa (l:=(Er t[h_].pr q0)) fZ pZ O O (hF.cells0 hk0)) (Aa (Md O) ?_));refine Oa hF (pl1_c t[h_].pr p q0 _) (Xh O LZ O O O) ?_;intro w hF;refine Aa (Vl O O) (Ca ?_);refine Pb O O (λhc1=>?_) (λhc1=>?_);refine Ha (Aa (Gb O) (Aa (Bo (((h_+1:Nat):Int)) O O) (Aa (Kb O) (Ua (Cb ?_)))));refine Xb ⟨_,?_,h_+1,j,O,(⟨by omega,hij.2⟩),(λk h1 h2=>QS hs_ h1 hhl Ba ((Tw _ _).1 hc1)),(hhi),MC,hF⟩;omega;refine Ha (Aa (Gb O) (Aa (Kb O) (Ua (Cb ?_))));refine Xb ⟨_,?_,i,h_,O,(⟨by omega,by omega⟩),(hlo),(λk h1 h2=>asc_hi hs_ h1 hhl h2 (λh=>hc1 ((Tw _ _).2 h))),MC,hF⟩;omega;refine Kc (Ec O ?_);refine Ga (Fa ?_);obtain rfl:i=j:=by omega
 have hlw:=low_is hij.2 hlo hhi;have hhs:=has_is hlw;refine Ha (Aa (Gb O) (Aa (Gb O) (Aa (Gb O) (Aa (Vl O O) (Aa (Dc O) ?_)))));refine Wb (d:=39) O (λhg1=>?_) (λhg1=>?_);refine Aa (Mr) (Aa (Xd O) (Aa (Gb O) ?_));obtain⟨ad2,q2,hA2,hk2,hx2,hp2⟩:=hX.mm_elem (i:=i) Ba;refine Ja (v:=.pointer (some (ad2.add (i*6)))) (Sa (i:=(i:Int)) Oi O hA2 O Ba Ba) (Ja (v:=.agg #[I (t[i].pr),.bool (q2.h),J (q2.v.k),I (q2.v.t),.slice q2.v.A q2.v.n q2.v.c,.slice q2.v.B q2.v.m q2.v.e]) (Xa (l:=(Er t[i].pr q2)) fZ pZ O O (hF.cells0 hk2)) (Aa (Md O) ?_));refine Oa hF (pl1_c t[i].pr p q2 _) (Xh O LZ O O O) ?_;intro w hF;refine Aa (Yh O O) (Aa (Yb O O) (Aa (Kb O) (Aa (Jb O) (Ca ?_))));refine Ab (Za (Ka (Vc (v:=J ((i:Int))) (x:=.bool _) O O O) ?_));rw[hlw,hhs];rw[List.getElem?_eq_getElem (by omega:i<t.length)];exact⟨congrArg (λb=>Value.tuple #[J (i:Int),.bool b]) (decide_eq_decide.2 FO),hF.same⟩;refine Ia (Ia (Ia (Ia (Ia (Ia (Ia (Ia (Aa (Bc O O) (Aa (Kb O) (Aa (Jb O) (Ca ?_)))))))))));refine Ab (Za (Ka (Vc (v:=J ((i:Int))) (x:=.bool false) O O O) ?_));rw[hlw,hhs];rw[List.getElem?_eq_none Ba];exact⟨O,hF.same⟩
theorem JJ(t:List Mm)(p:Str)(A:Option Addr)(c:Nat)(S:Nat->Prop)(w0:World)(hX:Rep S w0 (Hf t) [.slice A t.length c])(hs_:OH t)(htl:t.length<=1000000):Calls prog 41 #[.slice A t.length c,I p] w0 (Pc λv w'=>v=.tuple #[J (Vd t p:Nat),.bool (Bq t p)]/\Same [] w0 w'):=by
 refine Ea func41 O ntmps41 Db (Lc _ _) ?_;have hF:=FR.start w0 [];refine Da (Aa (Kb O) (Aa (Jb O) (Qb (Aa (Xd O) (Aa (Md O) ?_)))));refine Oa hF (GU t p A c S _ (hF.rep hX) hs_ htl) (Re en_63 O O O O) ?_;intro w hF;refine Aa (Gj O O) (Aa (Ll O O) (Aa (Kb O) (Aa (Jb O) (Ca ?_))));refine Ab (Za (Ka (Vc (v:=J ((Vd t p:Nat))) (x:=.bool _) O O O) ?_));exact⟨O,hF.same⟩
theorem OI(t:List Mm)(A:Option Addr)(c:Nat)(cf:Cf)(q:Cv)(S S2:Nat->Prop)(w0:World)(hX:Rep S w0 (Hf t) [.slice A t.length c])(hm:∀m∈t,MmOk m)(htl:t.length<=1000000)(hq:CvOf S2 w0 cf q)(hP:CfP cf)(hG:Gl w0):Calls prog 44 #[.slice A t.length c,.agg q.cells.toArray] w0 (Pc λv w'=>v=.tuple #[J ((De t cf).1:Nat),.bool (De t cf).2]/\Same [] w0 w'):=by
 refine Ea func44 O ntmps44 Db (Lc _ _) ?_;have hF:=FR.start w0 [];refine Da (Je hF O ?_);rintro b1 w hb1 hF -;refine Aa (Kb O) (Aa (Jb O) (Qb (Tb (Ie cZ oZ O hF.F 0 O O) ?_)));refine Oa hF (Vq cf q S2 _ ⟨hq.n,hq.k,hF.rep hq.p,hF.rep hq.x,hF.rep hq.y,hF.rep hq.z⟩ hP (hG.ext hF.same)) (Ma DH O O) ?_;intro w hF;refine Aa (Ri O) (Aa (Kx O O) (Aa (Ll O O) (Aa (Rf O) (Aa (Jb O) (Ca (Fa (Da (Aa (Dc O) (Aa (Nh O) (Aa (Dc O) ?_))))))))));refine Rc (d:=15) O (λhg0=>?_) (λhg0=>?_);refine Ia (Ia (Ia (Aa (Yb O O) (Ca (Fd O (Da (Aa (Kb O) (Aa (Jb O) (Ca ?_)))))))));refine Ab (Za (Ka (Vc (v:=J 0) (x:=.bool false) O O O) ?_));have e:De t cf=(0,false):=by unfold De;rw[if_neg (by simp_all)]
 rw[e];exact⟨O,hF.same⟩;refine Aa (Xd O) (Oa hF (Cn t A c S _ (hF.rep hX) hm (hG.ext hF.same)) (Ma J3 O O) ?_);intro w hF;refine Aa (Nh O) (Aa (Bc O O) (Ca ?_));refine Ge O O (λhc0=>?_) (λhc0=>?_);refine Da (Aa (Kb O) (Aa (Jb O) (Ca ?_)));refine Ab (Za (Ka (Vc (v:=J 0) (x:=.bool false) O O O) ?_));have e:De t cf=(0,false):=by unfold De;rw[if_neg (by simp_all)]
 rw[e];exact⟨O,hF.same⟩;refine Na (Ga (Fa ?_));have hP1:(Mf cf).2=true:=by simp_all
 have hR1:Df t=true:=by simp_all
 refine Ha (Aa (Xd O) (Aa (Md O) ?_));refine Oa hF (JJ t (Mf cf).1 A c S _ (hF.rep hX) (Bi.1 hR1).1 htl) (Ra WZ O O O) ?_;intro w hF;refine Aa (Gj O O) (Aa (Ll O O) (Aa (Kb O) (Aa (Jb O) (Ca ?_))));refine Ab (Za (Ka (Vc (v:=J ((Vd t (Mf cf).1:Nat))) (x:=.bool _) O O O) ?_));have e:De t cf=(Vd t (Mf cf).1,Bq t (Mf cf).1):=by unfold De;rw[if_pos (by rw[hP1,hR1];rfl)]
 rw[e];exact⟨O,hF.same⟩
theorem UB{t:List Mm}{c:Cf}(h:(De t c).2=true):(De t c).1<t.length:=by
  unfold De at h ⊢;split at h
  ·rename_i hc
   rw[if_pos hc];simp only at h ⊢;unfold Bq at h;rcases Nat.lt_or_ge (Vd t (Mf c).1) t.length with h1|h1
   ·exact h1
   rw[List.getElem?_eq_none h1]at h;cases h
  cases h
theorem Yo(t:List Mm)(A:Option Addr)(c:Nat)(cf:Cf)(q:Cv)(S S2:Nat->Prop)(w0:World)(hX:Rep S w0 (Hf t) [.slice A t.length c])(hm:∀m∈t,MmOk m)(htl:t.length<=1000000)(hq:CvOf S2 w0 cf q)(hP:CfP cf)(hG:Gl w0):Calls prog 16 #[.slice A t.length c,.agg q.cells.toArray] w0 (Pc λv w'=>∃y:Sv,v=.tuple #[.agg y.cells.toArray,.bool (Zf t cf).2]/\Rep (Btw w0 w') w' (Od (Rh (Zf t cf).1)) y.cells/\Same [] w0 w'):=by
 refine Ea func16 O ntmps16 Db (Lc _ _) ?_;have hF:=FR.start w0 [];refine Da (Je hF O ?_);rintro b1 w hb1 hF -;refine Jc (cs:=#[.bool false,J 0,I [],aQ,aQ]) hF lX O ?_;rintro b2 w hb2 hF -;refine Aa (Jb O) (Qb (Aa (Xd O) (Tb (Ie cZ oZ O hF.F 1 O O) ?_)));refine Oa hF (OI t A c cf q S S2 _ (hF.rep hX) hm htl ⟨hq.n,hq.k,hF.rep hq.p,hF.rep hq.x,hF.rep hq.y,hF.rep hq.z⟩ hP (hG.ext hF.same)) (Ra UZ O O O) ?_;intro w hF;refine Aa (Ri O) (Aa (Gj O O) (Aa (Ll O O) (Aa (Kb O) (Aa (Jb O) (Ca (Fa (Da (Aa (Dc O) (Aa (Nh O) (Ca ?_))))))))));refine Ge O O (λhc0=>?_) (λhc0=>?_);have h0:(De t cf).2=false:=by simpa using hc0
 refine Da (Ja (w':=w) (v:=.agg #[.bool false,J 0,I [],aQ,aQ]) Ib ?_);refine Wd hF nZ O O Pg ?_;rintro w hF -;refine Aa (Jb O) (Ca ?_);refine Ab (Za (Ka (Ic O (l:=[.bool false,J 0,I [],aQ,aQ]) O bZ nZ O (hF.cellsAll 0 O) (v:=.bool false) O) ?_));have e:Zf t cf=(noS,false):=by unfold Zf;rw[if_neg (by rw[h0];decide)]
 rw[e];exact⟨⟨false,L6⟩,O,Wm,hF.same⟩;have h0:(De t cf).2=true:=by simpa using hc0
 have hkl:=UB h0;refine Na (Ga (Da (Aa (Xd O) (Aa (Gb O) ?_))));obtain⟨ad0,q0,hA0,hk0,hx0,hp0⟩:=hX.mm_elem (i:=(De t cf).1) (hkl);refine Ja (v:=.pointer (some (ad0.add ((De t cf).1*6)))) (Sa (i:=((De t cf).1:Nat)) Oi O hA0 O Ba Ba) (Ja (v:=.pointer (some ((ad0.add ((De t cf).1*6)).add 1))) (Dd (a:=ad0.add ((De t cf).1*6)) Vj O) (Ja (v:=.agg (q0.cells).toArray) (Xa (l:=q0.cells) bZ nZ O O (Bj (hF.cells0 hk0) 1 O)) ?_));refine Ya (Rz t[(De t cf).1].sd q0 S _ (hF.rep hx0) (hm _ (eQ hkl)).sd (hG.ext hF.same)) (Ma CL O O) ?_;rintro _ w ⟨y,rfl,hRt,hE⟩;have hY:=RX.made (ids:=[b2,b1]) hF.same.size (λx hx=>hF.lt_ids (by simpa using hx)) hRt;have hF:=hF.ext hE;clear hE hRt;refine Wd hF nZ O O Pg ?_;intro w hF hE;have hY:=hY.store hE (by grind);refine Aa (Jb O) (Ca ?_);refine Ab (Za (Ka (Ic O (l:=y.cells) O bZ nZ O (hF.cellsAll 0 O) (v:=.bool true) O) ?_));have e:Zf t cf=(t[(De t cf).1].sd,true):=by unfold Zf;rw[if_pos h0,List.getElem?_eq_getElem hkl]
 rw[e]
 ·exact⟨y,O,hY.done,hF.same⟩
end Go.Scarf
