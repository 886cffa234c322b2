/- A part of the proof. -/
import Derived.Test.YtgkmigdopohcnaaGreatDoorE7
import Derived.Test.YtgkmigdopohcnaaGreatDoorMapS
import Derived.Laws.Slices
set_option linter.all false
set_option maxHeartbeats 8000000
set_option maxRecDepth 10000
namespace Go.Scarf
open Go.RowKit Go.Proofs Go.Proofs.Tryz
theorem WO:∀{ks:List Str}{xs:List Tree}{key:Str},key∈ks->∀h:ks.idxOf key<xs.length,Mf ks xs key=some (xs[ks.idxOf key]' h)
  | [],_,_,h,_=>absurd h Ma
  | k::ks,[],key,_,h2=>absurd h2 Ma
  | k :: ks, x :: xs, key, h, h2 => by
    rw[Mf];by_cases he:k=key
    ·have h0 : (k :: ks).idxOf key = 0 := by rw[List.idxOf_cons, he];simp
     rw[if_pos he];simp only[h0,List.getElem_cons_zero]
    have hb : (k==key) = false := by simpa using he
    have h0:(k::ks).idxOf key=ks.idxOf key+1:=by rw[List.idxOf_cons,hb];simp
    have hk:key∈ks:=by
      rcases oQ.1 h with h|h
      ·exact absurd h.symm he
      exact h
    rw[if_neg he,WO hk (by rw[h0]at h2;simpa using h2)];simp only[h0,List.getElem_cons_succ]
theorem at_look{ks:List Str}{xs:List Tree}{key:Str}{q:Nat}(hl:ks.length=xs.length)(h:atZ ks key=(q:Int)):∃hq:q<xs.length,Mf ks xs key=some xs[q]:=by
  unfold atZ at h;by_cases hm:key∈ks
  ·rw[if_pos hm]at h
   have e:ks.idxOf key=q:=by omega
   have hlt:ks.idxOf key<xs.length:=by rw[<-hl];exact List.idxOf_lt_length_iff.2 hm
   have:=WO hm hlt;subst e;exact⟨hlt,this⟩
  rw[if_neg hm]at h;omega
theorem at_no{ks:List Str}{xs:List Tree}{key:Str}(h:atZ ks key<0):Mf ks xs key=none:=by
  unfold atZ at h;by_cases hm:key∈ks
  ·rw[if_pos hm]at h;omega
  cases hl : Mf ks xs key with
  | none=>rfl
  | some y=>exact absurd (L9 hl) hm
theorem Y9:∀{xs ys:List Tree},xs.length=ys.length->(Q2 xs ys=true↔∀i (h:i<xs.length) (h2:i<ys.length),Cm xs[i] ys[i]=true)
  | [],[],_=>by simp[Q2]
  | x :: xs, y :: ys, h => by
    rw[Q2,Bool.and_eq_true,Y9 (xs:=xs) (ys:=ys) (by simpa using h)];constructor
    ·rintro⟨h1, h2⟩ i hi hi2
     cases i with
     | zero=>exact h1
     | succ i=>exact h2 i (by simpa using hi) (by simpa using hi2)
    intro h1;exact⟨h1 0 Ma Ma,λi hi hi2=>h1 (i+1) (by simpa using hi) (by simpa using hi2)⟩
def Mate(k:Int)(ks ks':List Str)(xs ys:List Tree)(i:Nat)(y:Tree):Prop:=(k≠6/\ys[i]? = some y)\/(k=6/\∃h:i<ks.length,Mf ks' ys ks[i]=some y)
theorem Mate.det{k:Int}{ks ks':List Str}{xs ys:List Tree}{i:Nat}{y z:Tree}(h:Mate k ks ks' xs ys i y)(h2:Mate k ks ks' xs ys i z):y=z:=by
  rcases h with ⟨a,b⟩|⟨a,c,b⟩ <;> rcases h2 with ⟨a2,b2⟩|⟨a2,c2,b2⟩
  ·rw[b]at b2;exact lQ b2
  ·exact absurd a2 a
  ·exact absurd a a2
  rw[b]at b2;exact lQ b2
theorem K9{k:Int}{t:Str}{ks ks':List Str}{xs ys:List Tree}(hl:xs.length=ys.length)(hk:k=6->ks.length=xs.length/\ks'.length=ys.length) :
    Cm (.node k t ks xs) (.node k t ks' ys)=true↔∀i (h:i<xs.length),∃y,Mate k ks ks' xs ys i y/\Cm xs[i] y=true:=by
  rw[Cm,decide_eq_true rfl,decide_eq_true rfl,decide_eq_true hl,Bool.true_and,Bool.true_and,Bool.true_and];by_cases h6:k=6
  ·obtain⟨h1, h2⟩ := hk h6
   rw[if_neg (by simpa using h6),decide_eq_true Aa,Bool.true_and,R7 xs ks ks' ys h1];constructor
   ·intro h i hi
    obtain⟨y,hy,hs⟩:=h i Aa;exact⟨y,.inr ⟨h6,by omega,hy⟩,hs⟩
   intro h i hi;obtain⟨y,hy,hs⟩:=h i Aa;rcases hy with ⟨a,_⟩|⟨_,_,b⟩
   ·exact absurd h6 a
   exact⟨y,b,hs⟩
  rw[if_pos h6, Y9 hl];constructor
  ·intro h i hi
   exact⟨ys[i]' Aa,.inl ⟨h6,List.getElem?_eq_getElem Aa⟩,h i hi Aa⟩
  intro h i hi hi2;obtain⟨y,hy,hs⟩:=h i hi;rcases hy with ⟨_,b⟩|⟨a,_⟩
  ·rw[List.getElem?_eq_getElem hi2]at b
   have e:=lQ b;rw[e];exact hs
  exact absurd a h6
theorem N0{k k':Int}{t t':Str}{ks ks':List Str}{xs ys:List Tree}(h:k≠k'\/t≠t'\/((xs.length:Nat):Int)≠((ys.length:Nat):Int)):Cm (.node k t ks xs) (.node k' t' ks' ys)=false:=by
  rw[Cm];rcases h with h|h|h
  ·rw[decide_eq_false h];rfl
  ·rw[decide_eq_false h,Bool.and_false];rfl
  rw[decide_eq_false (by omega:¬xs.length=ys.length),Bool.and_false];rfl
theorem W5{k:Int}{t:Str}{ks ks':List Str}{xs ys:List Tree}(hl:xs.length=ys.length)(hk:k=6->ks.length=xs.length/\ks'.length=ys.length){i:Nat}(h:i<xs.length)(hf:∀y,Mate k ks ks' xs ys i y->Cm xs[i] y=false):Cm (.node k t ks xs) (.node k t ks' ys)=false:=by
  rw[Bool.eq_false_iff];intro hh;obtain⟨y,hy,hs⟩:=(K9 hl hk).1 hh i h;rw[hf y hy]at hs;cases hs
def XJ(x:Tree):Prop:=∀y S S' w0 cs ct,Rep S w0 (Pb x) cs->Rep S' w0 (Pb y) ct->Xc nodeB x=true->Xc nodeB y=true->Calls prog 57 #[.agg cs.toArray,.agg ct.toArray] w0 (Dd λv w'=>v=.bool (Cm x y)/\Same [] w0 w')
theorem VJ(k:Int)(t:Str)(ks:List Str)(xs:List Tree)(ih:∀x,x∈xs->XJ x):XJ (.node k t ks xs):=by
 rintro⟨k',t',ks',ys⟩ S S' w0 cs ct hR hR' hn hn';obtain⟨A,c,B,e,rfl,-,-,hK,hX⟩:=hR.tree_inv;obtain⟨A',c',B',e',rfl,-,-,-,hY⟩:=hR'.tree_inv;have hKl:=hK.slice_len;have hXl:=hX.slice_len;have hYl:=hY.slice_len;have hnx:=Ee hn;have hny:=Ee hn';refine Ia func57 O ntmps57 Eb (Pc _ _) ?_;have hF:=FR.start w0 [];refine Ea (Oe hF O ?_);rintro b1 w hb1 hF -;refine Oe hF O ?_;rintro b2 w hb2 hF -;refine Ba (Db O) (Da (Ga (Ea (Ba (Ob Xd O) (Zb (Th eZ O hF.F 1 O O) (Ba (Ob Xd O) (Zb (Th eZ O hF.F 0 O O) (Ba (Vk O O) (Ba (Vb O) ?_)))))))));refine Ya (d:=13) O (λhg0=>?_) (λhg0=>?_);refine Ca (Ca (Ca (Ca (Ca (Ba (Tb O O) (Ba (Vb O) (Ca (Ca (Ca (Ca (Ca (Ca (Ca ?_)))))))))))));refine Ba (Tb O O) (Da (Ad O (Ea (Ba (Db O) (Da ?_)))));refine Gc (v:=.bool false) O O ?_;exact⟨by rw[N0 (by first|exact .inl (by assumption)|exact .inr (.inl (by assumption))|exact .inr (.inr (by assumption)))],hF.same⟩;refine Ba (Ob Wd O) (Zb (Pk jZ O hF.F 1 O O) (Ba (Ob Wd O) (Zb (Pk jZ O hF.F 0 O O) (Ba (yns O O) (Ba (Kb O O) (Ba (Vb O) ?_))))));refine Ya (d:=20) O (λhg1=>?_) (λhg1=>?_);refine Ca (Ca (Ca (Ca (Ca (Ca (Ca (Ba (Tb O O) (Da (Ad O (Ea (Ba (Db O) ?_)))))))))));refine Da (Gc (v:=.bool false) O O ?_);exact⟨by rw[N0 (by first|exact .inl (by assumption)|exact .inr (.inl (by assumption))|exact .inr (.inr (by assumption)))],hF.same⟩;refine Ba (Ob Xb O) (Zb (Xe zQ O hF.F 1 O O) (Ba (Ch zZ O) (Ba (Ob Xb O) (Zb (Xe zQ O hF.F 0 O O) (Ba (Ch zZ O) (Ba (Vk O O) (Ba (Kb O O) (Da ?_))))))));refine Ib O O (λhc0=>?_) (λhc0=>?_);refine Ea (Ba (Db O) (Da ?_));refine Gc (v:=.bool false) O O ?_;exact⟨by rw[N0 (by first|exact .inl (by assumption)|exact .inr (.inl (by assumption))|exact .inr (.inr (by assumption)))],hF.same⟩;refine La (Fa (Ga (Ea (Ba (Gb O) (Da (Qa ?_))))));have hk_:k'=k:=by omega
 have ht_:t'=t:=(Classical.byContradiction λh=>absurd h (by assumption):t=t').symm;have hll:xs.length=ys.length:=by omega
 have hlk:k=6->ks.length=xs.length/\ks'.length=ys.length:=λh=>⟨(Gr (h▸hnx.1)).2,(Gr ((hk_.trans h)▸hny.1)).2⟩;refine Jc (λμ σ w=>∃(j:Nat),μ=xs.length-j/\(j<=xs.length)/\(∀i (h:i<xs.length),i<j->∃y,Mate k ks ks' xs ys i y/\Cm xs[i] y=true)/\AllEq σ [(2,V b1),(3,V b2),(5,J ((j:Int)))]/\FR w0 [] [(b2,.cells #[J k',I t',.slice A' ks'.length c',.slice B' ys.length e'] 25),(b1,.cells #[J k,I t,.slice A ks.length c,.slice B xs.length e] 25)] w) _ ⟨0,O,(Nat.zero_le _),(λi _ h=>absurd h Aa),Oq,hF⟩ ?_;rintro μ σ w ⟨j,rfl,hj,ha,hs,hF⟩;refine Cg.slots hs ?_;clear hs;intro σ;refine Ga (Ea (Ba (Za O) (Ba (Ob Xb O) (Zb (Xe zQ O hF.F 1 O O) (Ba (Ch zZ O) (Ba (Di O O) (Da ?_)))))));refine Ib O O (λhc1=>?_) (λhc1=>?_);refine La (Fa (Ga (Qa (Ea (Ba (Za O) (Ba (Gb O) (Da ?_)))))));have hjx:j<xs.length:=by omega
 refine Ga (Bf (λσ w=>∃(kk:Int),(kk=if k=6 then (if h:j<ks.length then atZ ks' ks[j] else -1) else (j:Int))/\AllEq σ [(2,V b1),(3,V b2),(5,J ((j:Int))),(6,J kk)]/\FR w0 [] [(b2,.cells #[J k',I t',.slice A' ks'.length c',.slice B' ys.length e'] 25),(b1,.cells #[J k,I t,.slice A ks.length c,.slice B xs.length e] 25)] w) ?_ ?_);refine Ea (Ba (Ob Xd O) (Zb (Th eZ O hF.F 1 O O) (Ba (Qf O O) (Da ?_))));refine Ib O O (λhc2=>?_) (λhc2=>?_);refine Md (zs:=.of []) (bQ [0,1,2,3,4,5] (.act 6 (.free 7 .nil))) hF ?_;intro w hF;refine Fg O (Of aZ nZ O C0 0 O O) (Jb O (Ob Td O) (Fg O (Xe yQ O C0 1 O O) (Jb O (Za O) ?_)));obtain⟨ad2,hA2,hk2,hx2⟩:=hK.str_elem (i:=j) Aa;refine Cb O (v:=.pointer (some (ad2.add (j*1)))) (λw hC=>Sa (i:=(j:Int)) Ip O hA2 O Aa Aa) (Cb O (v:=I (ks[j])) (λw hC=>Qd jZ O (hC.cell0 hk2)) ?_);refine Ed hF (at_c k' t' ks' ys ks[j] _ _ _ (hF.rep hR')) O (Xa en_95 O O O) ?_;intro w hF;refine⟨hF,?_⟩;refine Jb O (Gb O) (Hc ?_)
 ·exact Hb ⟨(atZ ks' ks[j]),(by first|(rw[if_neg (by assumption)];done)|(rw[if_pos (by assumption),dif_pos (show j<ks.length by omega)];done)),Om,hF⟩
 refine La ?_
 ·exact Hb ⟨((j:Int)),(by first|(rw[if_neg (by assumption)];done)|(rw[if_pos (by assumption),dif_pos (show j<ks.length by omega)];done)),Om,hF⟩
 rintro σ w ⟨kk,hkk,hs,hF⟩;refine Eg.slots hs ?_;clear hs;intro σ;refine Fa (Ga (Ea (Ba (Za O) (Ba (Di O O) (Da ?_)))));refine Ib O O (λhc3=>?_) (λhc3=>?_);have h6:k=6:=Classical.byContradiction λh=>by rw[if_neg h]at hkk;omega
 refine Ea (Ba (Db O) (Da ?_));refine Gc (v:=.bool false) O O ?_;subst hk_;subst ht_;exact⟨by rw[W5 hll hlk (i:=j) hjx (λy hy=>by rcases hy with ⟨a,_⟩|⟨_,hh,b⟩;exact absurd h6 a;rw[if_pos h6,dif_pos hh]at hkk;rw[at_no (xs:=ys) Aa]at b;cases b)],hF.same⟩;obtain⟨q,hq⟩:∃q:Nat,kk=(q:Int):=⟨kk.toNat,by omega⟩;subst hq;obtain⟨hq3,hmate⟩:∃h:q<ys.length,Mate k ks ks' xs ys j ys[q]:=by by_cases h6:k=6;(rw[if_pos h6,dif_pos (show j<ks.length by have:=(hlk h6).1;omega)]at hkk;obtain⟨a,b⟩:=at_look (xs:=ys) (hlk h6).2 hkk.symm;exact⟨a,.inr ⟨h6,by have:=(hlk h6).1;omega,b⟩⟩);(rw[if_neg h6]at hkk;obtain rfl:q=j:=Aa;exact⟨by omega,.inl ⟨h6,List.getElem?_eq_getElem Aa⟩⟩)
 refine La (Fa (Ga ?_));refine Md (zs:=.of []) (bQ [0,1,2,3,4,5,6,7,8,9] (.act 10 (.free 11 .nil))) hF ?_;intro w hF;refine Jb O (Ob Xb O) (Fg O (Xe zQ O C0 1 O O) (Jb O (Za O) ?_));obtain⟨ad3,cs3,hA3,hl3,hk3,hx3⟩:=hX.tree_elem (i:=j) Aa;have ho3:=hx3.one_;refine Cb O (v:=.pointer (some (ad3.add (j*4)))) (λw hC=>Sa (i:=(j:Int)) Hg O hA3 O Aa Aa) (Cb O (v:=.agg (List.toArray cs3)) (λw hC=>Wa (l:=cs3) aZ nZ O hl3 (hC.cells0 hk3)) (Jb O (Ob Xb O) (Fg O (Xe zQ O C0 0 O O) (Jb O (Za O) ?_))));obtain⟨ad4,cs4,hA4,hl4,hk4,hx4⟩:=hY.tree_elem (i:=q) (hq3);have ho4:=hx4.one_;refine Cb O (v:=.pointer (some (ad4.add (q*4)))) (λw hC=>Sa (i:=(q:Int)) Hg O hA4 O Aa Aa) (Cb O (v:=.agg (List.toArray cs4)) (λw hC=>Wa (l:=cs4) aZ nZ O hl4 (hC.cells0 hk4)) ?_);refine Ed hF (ih xs[j] (eQ hjx) ys[q] _ _ _ cs3 cs4 (hF.rep hx3) (hF.rep hx4) (hnx.2 _ (eQ hjx)) (hny.2 _ (eQ hq3))) O (Xa en_57 O O O) ?_;intro w hF;refine⟨hF,?_⟩;refine Jb O (Db O) (Hc (Fa (Ea (Ba (Vb O) (Ba (Si O) (Da ?_))))));refine Le O O (λhc4=>?_) (λhc4=>?_);refine Ea (Ba (Db O) (Da ?_));refine Gc (v:=.bool false) O O ?_;subst hk_;subst ht_;exact⟨by rw[W5 hll hlk (i:=j) hjx (λy hy=>by rw[hy.det hmate];exact Gj (by assumption))],hF.same⟩;refine La (Bb (Fa (Ha (Ba (Za O) (Ba (Ek (((j+1:Nat):Int)) O O) (Ba (Gb O) (Ta ?_)))))));refine Hb ⟨_,?_,j+1,rfl,Aa,(λi hi h=>by rcases Nat.lt_or_ge i j with h1|h1;exact ha i hi h1;obtain rfl:i=j:=Aa;exact⟨_,hmate,Gf (by assumption)⟩),Oq,hF⟩;omega;refine Ec (Ac O ?_);refine Fa (Ea (Ba (Db O) (Da ?_)));refine Gc (v:=.bool true) O O ?_;subst hk_;subst ht_;exact⟨by rw[(K9 hll hlk).2 (λi h=>ha i h Aa)],hF.same⟩
theorem QV(x:Tree):XJ x:=Tree.ind VJ x
theorem KW(x y:Tree)(hsx:Qb x<=1000000000)(hsy:Qb y<=1000000000)(hmx:Be x<=1073741824)(hmy:Be y<=1073741824)(S S':Nat->Prop)(w0:World)(cs ct:List Value)(hR:Rep S w0 (Pb x) cs)(hR':Rep S' w0 (Pb y) ct):Calls prog 32 #[.agg cs.toArray,.agg ct.toArray] w0 (Dd λv w'=>v=.bool (Ow x y)/\Same [] w0 w'):=by
 have hl:cs.length=4:=hR.length.trans (Yc x);have ho:=hR.one_;have hl':ct.length=4:=hR'.length.trans (Yc y);have ho':=hR'.one_;refine Ia func32 O ntmps32 Eb (Pc _ _) ?_;have hF:=FR.start w0 [];refine Ea (Jm (v:=.agg (List.toArray cs)) (cs:=(List.toArray cs)) hF O O ?_);rintro b1 w hb1 hF -;refine Jm (v:=.agg (List.toArray ct)) (cs:=(List.toArray ct)) hF O O ?_;rintro b2 w hb2 hF -;refine Ba (Db O) (Rb (Ka (v:=.agg (List.toArray cs)) (Wa (l:=cs) aZ nZ O hl (hF.cellsAll 1 O)) ?_));refine Oa hF (NM x hsx hmx S _ cs (hF.rep hR)) (Na en_56 O O) ?_;intro w hF;refine Ba (Db O) (Rb (Ka (v:=.agg (List.toArray ct)) (Wa (l:=ct) aZ nZ O hl' (hF.cellsAll 0 O)) ?_));refine Oa hF (NM y hsy hmy S' _ ct (hF.rep hR')) (Na en_56 O O) ?_;intro w hF;refine Ba (Db O) (Rb (Ba (Vb O) (Ba (Vb O) ?_)));refine Lc (d:=12) O (λhg0=>?_) (λhg0=>?_);refine Ba (Vb O) (Ba (Tb O O) (Ba (Vb O) ?_));refine Lc (d:=15) O (λhg1=>?_) (λhg1=>?_);refine Ka (v:=.agg (List.toArray cs)) (Wa (l:=cs) aZ nZ O hl (hF.cellsAll 1 O)) (Ka (v:=.agg (List.toArray ct)) (Wa (l:=ct) aZ nZ O hl' (hF.cellsAll 0 O)) ?_);refine Oa hF (QV x y _ _ _ cs ct (hF.rep hR) (hF.rep hR') (Yi (by assumption)) (Yi (by assumption))) (Xa en_57 O O O) ?_;intro w hF;refine Ba (Tb O O) (Ba (Db O) (Da ?_));refine Gc (v:=.bool _) O O ⟨congrArg Value.bool ?_,hF.same⟩;unfold Ow
 first|(rw[(by assumption:Kd x=false)];rfl)|(rw[(by assumption:Kd y=false),Bool.and_false];rfl)|(rw[(by assumption:Kd x=true),(by assumption:Kd y=true)];rfl)
 refine Ca (Ca (Ca (Ba (Kb O O) (Ba (Db O) (Da ?_)))));refine Gc (v:=.bool false) O O ⟨congrArg Value.bool ?_,hF.same⟩;unfold Ow
 first|(rw[(by assumption:Kd x=false)];rfl)|(rw[(by assumption:Kd y=false),Bool.and_false];rfl)|(rw[(by assumption:Kd x=true),(by assumption:Kd y=true)];rfl)
 refine Ca (Ba (Kb O O) (Ba (Vb O) (Ca (Ca (Ca (Ba (Kb O O) (Ba (Db O) (Da ?_))))))));refine Gc (v:=.bool false) O O ⟨congrArg Value.bool ?_,hF.same⟩;unfold Ow
 first|(rw[(by assumption:Kd x=false)];rfl)|(rw[(by assumption:Kd y=false),Bool.and_false];rfl)|(rw[(by assumption:Kd x=true),(by assumption:Kd y=true)];rfl)
theorem F_:∀a b:Str,Zs a b=decide (Lib.compareBytes a b = -1)
  | [],[]=>rfl
  | [],_::_=>rfl
  | _::_,[]=>rfl
  | c :: a, d :: b => by
    have ih:=F_ a b;unfold Zs at ih ⊢;rw[Op.bytesLess,Lib.compareBytes,ih];by_cases h1:c<d
    ·rw[if_pos h1]
     have:=UInt8.lt_iff_toNat_lt.1 h1;simp[h1]
    rw[if_neg h1];by_cases h2:d<c
    ·rw[if_pos h2]
     have:¬c=d:=λe=>by subst e;exact h1 h2
     simp[h1,this]
    rw[if_neg h2];have h3:c=d:=UInt8.toNat.inj (by have a1:¬c.toNat<d.toNat:=λh=>h1 (UInt8.lt_iff_toNat_lt.2 h);have a2:¬d.toNat<c.toNat:=λh=>h2 (UInt8.lt_iff_toNat_lt.2 h);omega);simp[h3]
open Go.RowKit Go.Proofs Go.Maps
section
variable {P:Program}{w0 w:World}{Ds ids:List Nat}
theorem FK{l:List Str}{A:Option Addr}{ad:Addr}{n c:Nat}(h:RX w0 ids w [Ni l] [.slice A n c])(hA:A=some ad):∀q (hq:q<l.length),w.cell? (ad.add (q*1))=some (I (l[q])):=λq hq=>by
  obtain⟨ad',hA',hc,-⟩:=h.rep.str_elem hq;rw[hA]at hA';obtain rfl:=lQ hA';exact hc
theorem RS{l:List Str}{A:Option Addr}{n c:Nat}(h:RX w0 ids w [Ni l] [.slice A n c])(hl:0<l.length):∃ad,A=some ad:=by
  obtain⟨ad,hA,-⟩:=h.rep.str_elem hl;exact⟨ad,hA⟩
theorem RP{t e:TypeId}(h:P.underlying t=some (.slice e)):P.elem t=e:=by unfold Program.elem;rw[h]
theorem Xv{ρ:Operand->Value}{dst:Option Nat}{ty:TypeId}{pos:String}{aft:Array Edge}{g:Option (Nat × Bool)}{t e sz:Nat}{x y:Operand}{A:Option Addr}{n c:Nat}{k:IntKind}(m:Nat)(ht:Sj P t e sz)(hx:ρ x=.slice A n c)(hy:ρ y=.int k (m:Int))(hm:m<=n) :
    (execOp ρ ⟨dst,.slice t x (some y) none none,ty,pos,aft,g⟩).run P w=.ok (.value (.slice (if c=m then A else A.map (·.add (m*sz))) (n-m) (c-m))) w:=by
  have he:=RP ht.1;have ht':P.underlying t=some (.slice (P.elem t)):=by rw[he];exact ht.1
  have h:=run_slice_l (P:=P) w t A n c ht' k m Aa Aa;have hs:(sizeOf (P.elem t)).run P w=.ok sz w:=by rw[he];exact ht.2 w
  rw[hs]at h;simp only[execOp,Option.map_none,Option.map_some,hx,hy,run_sliceAt_slice w t _ _ _ _ ht',Sem.run_bind,h,Result.andThen,sliced,Int.toNat_natCast];rfl
theorem II{α:Type}(l:List α)(m:Nat):l.eraseIdx m=l.take m++l.drop (m+1):=List.eraseIdx_eq_take_drop_succ l m
theorem append_left{t ty e bytes:Nat}{l:List Str}{A:Option Addr}{n c m:Nat}(hE:Elems P t e 1 bytes)(hL:RX w0 ids w [Ni l] [.slice A n c])(hm:m<n)(hids:∀b∈ids,b<w.heap.size)(hw:w0.heap.size<=w.heap.size)(h63:n<=4611686018427387904)(hb:n*bytes<=140737488355328) :
    ∃A' c' w',(Builtin.append_ #[t,t] ty #[.slice A m m,.slice (if c=m+1 then A else A.map (·.add ((m+1)*1))) (n-(m+1)) (c-(m+1))]).run P w=.ok (.slice A' (n-1) c') w'/\RX w0 ids w' [Ni (l.eraseIdx m)] [.slice A' (n-1) c']/\Same [] w w':=by
  have hn:n=l.length:=by have:=hL.rep.slice_len;simpa using this.1
  have hcap:=hL.rep.slice_len.2;obtain⟨ad,hA⟩:=RS hL Aa;subst hA;have hc:=FK hL rfl;have hlen:(l.eraseIdx m).length=n-1:=by rw[List.length_eraseIdx];split <;> omega
  obtain⟨i,z,hi,hz,h2,h3,h4⟩:=hE.info;have hlits:∀(S:Nat->Prop)(wx:World)(q:List Str),(∀s∈q,s.length<=9223372036854775807)->RepL S wx (q.map Cn) (q.map λs=>Value.string (bs s)):=by
    intro S wx q
    induction q with
    | nil=>exact λ_=>RepL.nil_mk
    | cons s q ih=>exact λh=>RepL.cons_mk (Rep.lit_mk (v:=I s) (h s Ma)) (ih λx hx=>h x (by simp[hx]))
  have hls:∀s∈l,s.length<=9223372036854775807:=by
    intro s hs;obtain⟨q,hq,rfl⟩:=List.mem_iff_getElem.1 hs;obtain⟨_,_,_,h⟩:=hL.rep.str_elem hq;exact h
  by_cases hk:n=m+1
  ·
   refine⟨some ad,m,w,?_,?_,Same.refl _ _⟩
   ·have hz0 : n-(m + 1) = 0 := by omega
    rw[hz0,show n-1=m by omega];have hf:∀A2 c2,(Builtin.firstCells i.size 0 (.slice A2 0 c2)).run P w=.ok #[] w:=by
      intro A2 c2;cases A2 <;> simp[Builtin.firstCells,loadCells,loadCellsFrom]
    simp[Builtin.append_,run_underlying hE.ht,sizeOf,typeInfo,hi,Builtin.lenOf,hf,storeCells]
   have e1 : l.eraseIdx m = l.take m := by rw[II, List.drop_eq_nil_of_le Aa, qQ]
   rw[e1,show n-1=m by omega];refine .one (Rep.slice_mk (by simp;omega) (gQ _) Aa λhne=>?_);obtain⟨A',c',hA',_,_,h6⟩:=Rep.slice_inv hL.rep;simp only[List.cons.injEq,Value.slice.injEq,and_true]at hA';obtain⟨rfl,_,_⟩:=hA';obtain⟨ad',hA2,es,hce,hre⟩:=h6 (by intro e;have:=congrArg List.length e;rw[rQ,List.length_nil]at this;omega);obtain rfl:=lQ hA2;have h0:0<es.length:=by
     rcases Nat.eq_zero_or_pos es.length with h|h
     ·have : es = [] := List.eq_nil_of_length_eq_zero h
      subst this;have h7:=hre.length;have hz:∀q:List Str,Ud.sizeL (q.map Cn)=q.length:=by
        intro q
        induction q with
        | nil=>rfl
        | cons a q ih=>rw[List.map_cons,Ud.sizeL,ih,kQ];simp[Cn,Ud];omega
      rw[hz]at h7;simp at h7;omega
     exact h
   refine⟨ad,O,(l.take m).map (λs=>Value.string (bs s)),λq hq=>⟨?_,(hce 0 h0).2⟩,hlits _ _ _ λs hs=>hls s (List.mem_of_mem_take hs)⟩;have hq':q<l.length:=by simp at hq;omega
   have:=hc q hq';rw[Nat.mul_one]at this;rw[this];simp
  have hcm:¬c=m+1:=by omega
  have hold:∀j v,((l.take m).map (λs=>Value.string (bs s)))[j]? = some v->w.cell? (ad.add j)=some v:=by
    intro j v hj;rw[List.getElem?_map]at hj;cases hg:(l.take m)[j]? with
    | none=>rw[hg]at hj;cases hj
    | some s =>
      rw[hg]at hj;obtain⟨hj1,hj2⟩:=List.getElem?_eq_some_iff.1 hg;have hq:j<l.length:=by simp at hj1;omega
      have h8:=hc j hq;rw[Nat.mul_one]at h8;rw[h8];have:s=l[j]:=by rw[<-hj2];simp
      simp only[Option.map_some,Option.some.injEq]at hj;rw[<-hj,this]
  have hnew:∀j v,((l.drop (m+1)).map (λs=>Value.string (bs s)))[j]? = some v->w.cell? ((ad.add ((m+1)*1)).add j)=some v:=by
    intro j v hj;rw[List.getElem?_map]at hj;cases hg:(l.drop (m+1))[j]? with
    | none=>rw[hg]at hj;cases hj
    | some s =>
      rw[hg]at hj;obtain⟨hj1,hj2⟩:=List.getElem?_eq_some_iff.1 hg;have hq:m+1+j<l.length:=by simp at hj1;omega
      have h8:=hc (m+1+j) hq;rw[Nat.mul_one]at h8;rw[Zo,Nat.mul_one,h8];have:s=l[m+1+j]:=by rw[<-hj2];simp
      simp only[Option.map_some,Option.some.injEq]at hj;rw[<-hj,this]
  have hr:=run_append_grow (P:=P) w t ty e i z hE.ht hi hz ad m m ((l.take m).map λs=>Value.string (bs s)) (by rw[h2];simp;omega) hold (ad.add ((m+1)*1)) (n-(m+1)) (c-(m+1)) ((l.drop (m+1)).map λs=>Value.string (bs s)) (by rw[h2];simp;omega) hnew Aa Aa
    (growslice_fits Aa (by rw[h3];exact fQ (Nat.mul_le_mul_right _ Aa) hb))
  rw[if_neg hcm];simp only[Option.map_some];have en:m+(n-(m+1))=n-1:=by omega
  rw[en]at hr;have hsm:=(Same.drew w).trans (Same.alloc w.drew (.cells (((l.take m).map λs=>Value.string (bs s)).toArray++((l.drop (m+1)).map λs=>Value.string (bs s)).toArray++Builtin.zeroCells z.cells (grownCap w (n-1) m e-(n-1))) e));refine⟨_,_,_,hr,?_,hsm⟩;have hge:=grownCap_ge w (n-1) m e;have hcm2:grownCap w (n-1) m e<=maxLen:=grownCap_le_maxLen w (n-1) m e (by simp only[maxLen];omega);simp only[maxLen]at hcm2;refine .one (Rep.slice_mk (by simp[hlen]) hge Aa λ_=>?_);have hhe:=heap_alloc_new w.drew (.cells (((l.take m).map λs=>Value.string (bs s)).toArray++((l.drop (m+1)).map λs=>Value.string (bs s)).toArray++Builtin.zeroCells z.cells (grownCap w (n-1) m e-(n-1))) e);refine⟨_,O,(l.eraseIdx m).map (λs=>Value.string (bs s)),λq hq=>⟨?_,?_⟩,hlits _ _ _ λs hs=>hls s (List.mem_of_mem_eraseIdx hs)⟩
  ·rw[Bh, Nat.zero_add, cell_of_row _ w.heap.size q _ e (0, 0) hhe]
   have hx:((l.eraseIdx m).map λs=>Value.string (bs s))=((l.take m).map λs=>Value.string (bs s))++((l.drop (m+1)).map λs=>Value.string (bs s)):=by rw[II,jQ]
   rw[<-List.getElem?_eq_getElem hq,hx];rw[hx]at hq;rw[Array.getElem?_append_left (by simp at hq ⊢;omega)];simp
  refine⟨by show w0.heap.size <= w.heap.size;exact hw, by show w.heap.size<_;exact Wb hhe, λhm => ?_, ⟨_, e, hhe⟩⟩;have:=hids _ hm;exact absurd this (by show ¬w.heap.size<w.heap.size;omega)
end
section
variable {α:Type}{f:α->α->Int}{xs ys:List α}{j:Nat}{Q q r:Int}
end
open Go.RowKit in
theorem DM{P:Program}{w:World}{ρ:Operand->Value}{dst:Option Nat}{ty:TypeId}{pos:String}{aft:Array Edge}{g:Option (Nat × Bool)}{t kt e:Nat}(ht:P.underlying t=some (.map kt e)) :
    (execOp ρ ⟨dst,.makeMap t none,ty,pos,aft,g⟩).run P w=.ok (.value (.map (some w.heap.size))) (w.alloc (Vh [])):=by
  simp[execOp,Instr.makeMap,run_underlying ht,newObj,Sem.run,Vh,Kc]
end Go.Scarf
