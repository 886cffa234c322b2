/- A part of the proof. -/
import Derived.Test.YtgkmigdopohcnaaGreatDoorRe5
import Derived.Test.YtgkmigdopohcnaaGreatDoorRe2
import Derived.Test.YtgkmigdopohcnaaGreatDoorQ4
set_option linter.all false
set_option maxHeartbeats 8000000
set_option maxRecDepth 10000
namespace Go.Scarf
open Go.RowKit Go.Proofs Go.Proofs.Tryz
theorem wrapU{x:Int}(h0:0<=x)(h1:x<=9223372036854775807):IntKind.u64.wrap x=x:=by rw[IntKind.wrap_u64];omega
theorem shr1(n:Nat):((n:Int)).fdiv (2 ^ 1)=((n/2:Nat):Int):=by
  rw[Int.fdiv_eq_ediv_of_nonneg _ Ta];omega
theorem Pw(a b:Str):Lib.compareBytes a b<0↔a<b:=by
  have h:=C6 a b;rw[Cn]at h;have h3:=Ck a b;rw[decide_eq_decide]at h;rw[h];omega
theorem DO{a b:Str}:Lib.compareBytes a b=0↔a=b:=by
  constructor
  ·intro h
   have h1:¬a<b:=λhl=>by have:=(Pw a b).2 hl;omega
   have h2:¬b<a:=λhl=>by have:=(Pw b a).2 hl;rw[K1]at this;omega
   exact X7 h1 h2
  rintro rfl;have h1:¬Lib.compareBytes a a<0:=λh=>Xz ((Pw a a).1 h);have:=K1 a a;omega
theorem QR{t:List Mm}(h:KF t){p:Str}{k i:Nat}(hk:k<t.length)(hi:i<t.length)(hki:k<=i)(hp:t[i].pr<p):t[k].pr<p:=by
  rcases Nat.lt_or_eq_of_le hki with h1|rfl
  ·exact Zo (List.pairwise_iff_getElem.1 h k i hk hi h1) hp
  exact hp
theorem asc_hi{t:List Mm}(h:KF t){p:Str}{k i:Nat}(hk:k<t.length)(hi:i<t.length)(hki:i<=k)(hp:¬t[i].pr<p):¬t[k].pr<p:=λhl=>hp (QR h hi hk hki hl)
theorem low_is{t:List Mm}{p:Str}{i:Nat}(hi:i<=t.length)(hlo:∀k (_:k<t.length),k<i->t[k].pr<p)(hhi:∀k (_:k<t.length),i<=k->¬t[k].pr<p):Vd t p=i:=by
  unfold Vd;rw[Xn (j:=i) (λz hz=>?_) (λh=>?_),List.length_take,Nat.min_eq_left hi]
  ·obtain⟨k, hk, rfl⟩ := List.getElem_of_mem hz
   rw[List.length_take]at hk;rw[List.getElem_take,Cn,decide_eq_true_eq];exact hlo k Ba Ba
  rw[Cn, decide_eq_false_iff_not];exact hhi i h (gQ _)
theorem has_is{t:List Mm}{p:Str}{i:Nat}(h:Vd t p=i):Wq t p=match t[i]? with|some m=>decide (m.pr=p)|none=>false:=by
  unfold Wq;rw[h];cases t[i]? <;> rfl
theorem YY(a b:Str)(x:Sv)(w0:World):Calls prog 64 #[.agg (Gr a x).toArray,I b] w0 (Pc λv w'=>v=J (Lib.compareBytes a b)/\Same [] w0 w'):=by
 refine Ea func64 O ntmps64 Db (Lc _ _) ?_;have hF:=FR.start w0 [];refine Da (Le hF O ?_);rintro b1 w hb1 hF -;refine Aa (Lb O) (Qb (Aa (Ob Nm O) (Tb (Rm iZ O hF.F 0 O O) (Aa (Md O) ?_))));refine Oa hF (Ao a b _) (Ra OB O O O) ?_;intro w hF;refine Aa (Lb O) (Ca ?_);refine Hc (v:=J (Lib.compareBytes a b)) O O ?_;exact⟨O,hF.same⟩
theorem PR(t:List Mm)(p:Str)(A:Option Addr)(c:Nat)(S:Nat->Prop)(w0:World)(hX:Rep S w0 (If t) [.slice A t.length c])(hs_:KF t)(htl:t.length<=1000000):Calls prog 63 #[.slice A t.length c,I p,.func (.func 64) #[] #[]] w0 (Pc λv w'=>v=.tuple #[J (Vd t p:Nat),.bool (Wq t p)]/\Same [] w0 w'):=by
 refine Ea func63 O ntmps63 Db (Fk _ _ _) ?_;have hF:=FR.start w0 [];refine Da (Aa (Lb O) (Aa (Jb O) (Qb (Aa (Wd O) (Aa (Ug bX O) (Aa (Lb O) (Ca (Fa ?_))))))));refine Ha (Aa (Gb O) (Aa (Lb O) (Aa (Lb O) (Ca (Fa (Va ?_))))));refine Tc (λμ σ w=>∃(i:Nat),∃(j:Nat),μ=j-i/\(i<=j/\j<=t.length)/\(∀k (_:k<t.length),k<i->t[k].pr<p)/\(∀k (_:k<t.length),j<=k->¬t[k].pr<p)/\AllEq σ [(0,.slice A t.length c),(1,I p),(2,.func (.func 64) #[] #[]),(8,J ((t.length:Nat))),(9,J ((i:Int))),(10,J ((j:Int)))]/\FR w0 [] [] w) _ ⟨0,t.length,O,(⟨Nat.zero_le _,gQ _⟩),(λk _ h=>by omega),(λk h1 h2=>by omega),U_,hF⟩ ?_;rintro μ σ w ⟨i,j,rfl,hij,hlo,hhi,hs,hF⟩;refine Cg.slots hs ?_;clear hs;intro σ;refine Fa (Da (Aa (Gb O) (Aa (Gb O) (Aa (Sl O O) (Ca ?_)))));refine Pb O O (λhc0=>?_) (λhc0=>?_);refine Na (Ga (Va (Fa ?_)));obtain⟨h_,hh⟩:∃h,h=(i+j)/2:=⟨_,rfl⟩;have hhl:h_<t.length:=by omega
 refine Ha (Aa (Gb O) (Aa (Gb O) (Aa (Bo (((i+j:Nat):Int)) O O) (Ja (v:=.int .u64 (((i+j:Nat):Int))) (Ze zZ underlying161 O (wrapU Ba Ba)) ?_))));refine Ja (v:=.int .u64 (((h_:Nat):Int))) (TR 1 O O Ta (by rw[hh];exact shr1 _)) ?_;refine Ja (v:=J (((h_:Nat):Int))) (Ze underlying161 zZ O (Sm Ba Ba)) (Aa (Lb O) (Qb (Aa (Pr) (Aa (Wd O) (Aa (Gb O) ?_)))));obtain⟨ad0,q0,hA0,hk0,hx0,hp0⟩:=hX.mm_elem (i:=h_) (hhl);refine Ja (v:=.pointer (some (ad0.add (h_*6)))) (Sa (i:=((h_:Nat):Int)) Qi O hA0 O Ba Ba) (Ja (v:=.agg #[I (t[h_].pr),.bool (q0.h),J (q0.v.k),I (q0.v.t),.slice q0.v.A q0.v.n q0.v.c,.slice q0.v.B q0.v.m q0.v.e]) (Xa (l:=(Gr t[h_].pr q0)) fZ pZ O O (hF.cells0 hk0)) (Aa (Md O) ?_));refine Oa hF (YY t[h_].pr p q0 _) (Wh O en_64 O O O) ?_;intro w hF;refine Aa (Sl O O) (Ca ?_);refine Pb O O (λhc1=>?_) (λhc1=>?_);refine Ha (Aa (Gb O) (Aa (Bo (((h_+1:Nat):Int)) O O) (Aa (Lb O) (Ua (Cb ?_)))));refine Xb ⟨_,?_,h_+1,j,O,(⟨by omega,hij.2⟩),(λk h1 h2=>QR hs_ h1 hhl Ba ((Pw _ _).1 hc1)),(hhi),U_,hF⟩;omega;refine Ha (Aa (Gb O) (Aa (Lb O) (Ua (Cb ?_))));refine Xb ⟨_,?_,i,h_,O,(⟨by omega,by omega⟩),(hlo),(λk h1 h2=>asc_hi hs_ h1 hhl h2 (λh=>hc1 ((Pw _ _).2 h))),U_,hF⟩;omega;refine Kc (Ec O ?_);refine Ga (Fa ?_);obtain rfl:i=j:=by omega
 have hlw:=low_is hij.2 hlo hhi;have hhs:=has_is hlw;refine Ha (Aa (Gb O) (Aa (Gb O) (Aa (Gb O) (Aa (Sl O O) (Aa (Dc O) ?_)))));refine Wb (d:=39) O (λhg1=>?_) (λhg1=>?_);refine Aa (Pr) (Aa (Wd O) (Aa (Gb O) ?_));obtain⟨ad2,q2,hA2,hk2,hx2,hp2⟩:=hX.mm_elem (i:=i) Ba;refine Ja (v:=.pointer (some (ad2.add (i*6)))) (Sa (i:=(i:Int)) Qi O hA2 O Ba Ba) (Ja (v:=.agg #[I (t[i].pr),.bool (q2.h),J (q2.v.k),I (q2.v.t),.slice q2.v.A q2.v.n q2.v.c,.slice q2.v.B q2.v.m q2.v.e]) (Xa (l:=(Gr t[i].pr q2)) fZ pZ O O (hF.cells0 hk2)) (Aa (Md O) ?_));refine Oa hF (YY t[i].pr p q2 _) (Wh O en_64 O O O) ?_;intro w hF;refine Aa (Yh O O) (Aa (Yb O O) (Aa (Lb O) (Aa (Jb O) (Ca ?_))));refine Ab (Za (Ka (Vc (v:=J ((i:Int))) (x:=.bool _) O O O) ?_));rw[hlw,hhs];rw[List.getElem?_eq_getElem (by omega:i<t.length)];exact⟨congrArg (λb=>Value.tuple #[J (i:Int),.bool b]) (decide_eq_decide.2 DO),hF.same⟩;refine Ia (Ia (Ia (Ia (Ia (Ia (Ia (Ia (Aa (Bc O O) (Aa (Lb O) (Aa (Jb O) (Ca ?_)))))))))));refine Ab (Za (Ka (Vc (v:=J ((i:Int))) (x:=.bool false) O O O) ?_));rw[hlw,hhs];rw[List.getElem?_eq_none Ba];exact⟨O,hF.same⟩
theorem TK(t:List Mm)(p:Str)(A:Option Addr)(c:Nat)(S:Nat->Prop)(w0:World)(hX:Rep S w0 (If t) [.slice A t.length c])(hs_:KF t)(htl:t.length<=1000000):Calls prog 41 #[.slice A t.length c,I p] w0 (Pc λv w'=>v=.tuple #[J (Vd t p:Nat),.bool (Wq t p)]/\Same [] w0 w'):=by
 refine Ea func41 O ntmps41 Db (Lc _ _) ?_;have hF:=FR.start w0 [];refine Da (Aa (Lb O) (Aa (Jb O) (Qb (Aa (Wd O) (Aa (Md O) ?_)))));refine Oa hF (PR t p A c S _ (hF.rep hX) hs_ htl) (Te en_63 O O O O) ?_;intro w hF;refine Aa (Gj O O) (Aa (Jl O O) (Aa (Lb O) (Aa (Jb O) (Ca ?_))));refine Ab (Za (Ka (Vc (v:=J ((Vd t p:Nat))) (x:=.bool _) O O O) ?_));exact⟨O,hF.same⟩
theorem XI(t:List Mm)(A:Option Addr)(c:Nat)(cf:Cf)(q:Cv)(S S2:Nat->Prop)(w0:World)(hX:Rep S w0 (If t) [.slice A t.length c])(hm:∀m∈t,MmOk m)(htl:t.length<=1000000)(hq:CvOf S2 w0 cf q)(hP:CfP cf)(hG:Gl w0):Calls prog 44 #[.slice A t.length c,.agg q.cells.toArray] w0 (Pc λv w'=>v=.tuple #[J ((Be t cf).1:Nat),.bool (Be t cf).2]/\Same [] w0 w'):=by
 refine Ea func44 O ntmps44 Db (Lc _ _) ?_;have hF:=FR.start w0 [];refine Da (Le hF O ?_);rintro b1 w hb1 hF -;refine Aa (Lb O) (Aa (Jb O) (Qb (Tb (He cZ oZ O hF.F 0 O O) ?_)));refine Oa hF (Uq cf q S2 _ ⟨hq.n,hq.k,hF.rep hq.p,hF.rep hq.x,hF.rep hq.y,hF.rep hq.z⟩ hP (hG.ext hF.same)) (Ma LH O O) ?_;intro w hF;refine Aa (Ri O) (Aa (Kx O O) (Aa (Jl O O) (Aa (Rf O) (Aa (Jb O) (Ca (Fa (Da (Aa (Dc O) (Aa (Oh O) (Aa (Dc O) ?_))))))))));refine Rc (d:=15) O (λhg0=>?_) (λhg0=>?_);refine Ia (Ia (Ia (Aa (Yb O O) (Ca (Fd O (Da (Aa (Lb O) (Aa (Jb O) (Ca ?_)))))))));refine Ab (Za (Ka (Vc (v:=J 0) (x:=.bool false) O O O) ?_));have e:Be t cf=(0,false):=by unfold Be;rw[if_neg (by simp_all)]
 rw[e];exact⟨O,hF.same⟩;refine Aa (Wd O) (Oa hF (Wn t A c S _ (hF.rep hX) hm (hG.ext hF.same)) (Ma I2 O O) ?_);intro w hF;refine Aa (Oh O) (Aa (Bc O O) (Ca ?_));refine Fe O O (λhc0=>?_) (λhc0=>?_);refine Da (Aa (Lb O) (Aa (Jb O) (Ca ?_)));refine Ab (Za (Ka (Vc (v:=J 0) (x:=.bool false) O O O) ?_));have e:Be t cf=(0,false):=by unfold Be;rw[if_neg (by simp_all)]
 rw[e];exact⟨O,hF.same⟩;refine Na (Ga (Fa ?_));have hP1:(Mf cf).2=true:=by simp_all
 have hR1:Df t=true:=by simp_all
 refine Ha (Aa (Wd O) (Aa (Md O) ?_));refine Oa hF (TK t (Mf cf).1 A c S _ (hF.rep hX) (Bi.1 hR1).1 htl) (Ra en_41 O O O) ?_;intro w hF;refine Aa (Gj O O) (Aa (Jl O O) (Aa (Lb O) (Aa (Jb O) (Ca ?_))));refine Ab (Za (Ka (Vc (v:=J ((Vd t (Mf cf).1:Nat))) (x:=.bool _) O O O) ?_));have e:Be t cf=(Vd t (Mf cf).1,Wq t (Mf cf).1):=by unfold Be;rw[if_pos (by rw[hP1,hR1];rfl)]
 rw[e];exact⟨O,hF.same⟩
theorem JC{t:List Mm}{c:Cf}(h:(Be t c).2=true):(Be t c).1<t.length:=by
  unfold Be at h ⊢;split at h
  ·rename_i hc
   rw[if_pos hc];simp only at h ⊢;unfold Wq at h;rcases Nat.lt_or_ge (Vd t (Mf c).1) t.length with h1|h1
   ·exact h1
   rw[List.getElem?_eq_none h1]at h;cases h
  cases h
theorem To(t:List Mm)(A:Option Addr)(c:Nat)(cf:Cf)(q:Cv)(S S2:Nat->Prop)(w0:World)(hX:Rep S w0 (If t) [.slice A t.length c])(hm:∀m∈t,MmOk m)(htl:t.length<=1000000)(hq:CvOf S2 w0 cf q)(hP:CfP cf)(hG:Gl w0):Calls prog 16 #[.slice A t.length c,.agg q.cells.toArray] w0 (Pc λv w'=>∃y:Sv,v=.tuple #[.agg y.cells.toArray,.bool (Zf t cf).2]/\Rep (Btw w0 w') w' (Od (Th (Zf t cf).1)) y.cells/\Same [] w0 w'):=by
 refine Ea func16 O ntmps16 Db (Lc _ _) ?_;have hF:=FR.start w0 [];refine Da (Le hF O ?_);rintro b1 w hb1 hF -;refine Jc (cs:=#[.bool false,J 0,I [],aQ,aQ]) hF lX O ?_;rintro b2 w hb2 hF -;refine Aa (Jb O) (Qb (Aa (Wd O) (Tb (He cZ oZ O hF.F 1 O O) ?_)));refine Oa hF (XI t A c cf q S S2 _ (hF.rep hX) hm htl ⟨hq.n,hq.k,hF.rep hq.p,hF.rep hq.x,hF.rep hq.y,hF.rep hq.z⟩ hP (hG.ext hF.same)) (Ra HZ O O O) ?_;intro w hF;refine Aa (Ri O) (Aa (Gj O O) (Aa (Jl O O) (Aa (Lb O) (Aa (Jb O) (Ca (Fa (Da (Aa (Dc O) (Aa (Oh O) (Ca ?_))))))))));refine Fe O O (λhc0=>?_) (λhc0=>?_);have h0:(Be t cf).2=false:=by simpa using hc0
 refine Da (Ja (w':=w) (v:=.agg #[.bool false,J 0,I [],aQ,aQ]) Ib ?_);refine Xd hF nZ O O Qg ?_;rintro w hF -;refine Aa (Jb O) (Ca ?_);refine Ab (Za (Ka (Ic O (l:=[.bool false,J 0,I [],aQ,aQ]) O bZ nZ O (hF.cellsAll 0 O) (v:=.bool false) O) ?_));have e:Zf t cf=(noS,false):=by unfold Zf;rw[if_neg (by rw[h0];decide)]
 rw[e];exact⟨⟨false,O5⟩,O,Tm,hF.same⟩;have h0:(Be t cf).2=true:=by simpa using hc0
 have hkl:=JC h0;refine Na (Ga (Da (Aa (Wd O) (Aa (Gb O) ?_))));obtain⟨ad0,q0,hA0,hk0,hx0,hp0⟩:=hX.mm_elem (i:=(Be t cf).1) (hkl);refine Ja (v:=.pointer (some (ad0.add ((Be t cf).1*6)))) (Sa (i:=((Be t cf).1:Nat)) Qi O hA0 O Ba Ba) (Ja (v:=.pointer (some ((ad0.add ((Be t cf).1*6)).add 1))) (Ed (a:=ad0.add ((Be t cf).1*6)) Wj O) (Ja (v:=.agg (q0.cells).toArray) (Xa (l:=q0.cells) bZ nZ O O (Cj (hF.cells0 hk0) 1 O)) ?_));refine Ya (Tz t[(Be t cf).1].sd q0 S _ (hF.rep hx0) (hm _ (eQ hkl)).sd (hG.ext hF.same)) (Ma TJ O O) ?_;rintro _ w ⟨y,rfl,hRt,hE⟩;have hY:=RX.made (ids:=[b2,b1]) hF.same.size (λx hx=>hF.lt_ids (by simpa using hx)) hRt;have hF:=hF.ext hE;clear hE hRt;refine Xd hF nZ O O Qg ?_;intro w hF hE;have hY:=hY.store hE (by grind);refine Aa (Jb O) (Ca ?_);refine Ab (Za (Ka (Ic O (l:=y.cells) O bZ nZ O (hF.cellsAll 0 O) (v:=.bool true) O) ?_));have e:Zf t cf=(t[(Be t cf).1].sd,true):=by unfold Zf;rw[if_pos h0,List.getElem?_eq_getElem hkl]
 rw[e]
 ·exact⟨y,O,hY.done,hF.same⟩
end Go.Scarf
