/- A part of the proof. -/
import Derived.Test.YtidlkjpohhbbcaaGreatDoorQ1
set_option linter.all false
set_option maxHeartbeats 8000000
set_option maxRecDepth 10000
namespace Go.Scarf
open Go.RowKit Go.Proofs Go.Proofs.Tryz
theorem Re{w:World}{a:Addr}{L l:List Value}(h:∀j (hj:j<L.length),w.cell? (a.add j)=some L[j])(off:Nat)(hl:(L.drop off).take l.length=l):∀j (hj:j<l.length),w.cell? ((a.add off).add j)=some l[j]:=λj hj=>by
  have e:(a.add off).add j=a.add (off+j):=by
    unfold Addr.add;by_cases h1:off=0 <;> by_cases h2:j=0 <;> simp[h1,h2,Nat.add_assoc]
  have hlen:off+j<L.length:=by
    have:=congrArg List.length hl;rw[List.length_take,List.length_drop]at this;omega
  rw[e,h (off+j) hlen];have h2:((L.drop off).take l.length)[j]? = l[j]?:=by rw[hl]
  rw[List.getElem?_take,if_pos hj,List.getElem?_drop,List.getElem?_eq_getElem hlen,List.getElem?_eq_getElem hj]at h2;exact h2
theorem FR.cellsE{w0 w:World}{E:List Nat}{bs_:List (Nat × Obj)}(hF:FR w0 E bs_ w){a:Addr}{cs:List Value}(hb:a.block∉E)(h:∀j (hj:j<cs.length),w0.cell? (a.add j)=some cs[j]):∀j (hj:j<cs.length),w.cell? (a.add j)=some cs[j]:=λj hj=>by
  rw[<-h j hj];exact World.cell?_of_block (w:=w0) (hF.same.block _ (World.block_lt_of_cell? _ _ (h j hj)) (by rw[Pd];exact hb))
section
variable {S:Nat->Prop}{w:World}{l r:List Tk}{t:Tk}{A:Option Addr}{len c:Nat}
theorem Rep.tok_head(h:Rep S w (Tm l) [.slice A len c])(hl:l=t::r) :
    ∃ad,A=some ad/\S (ad.add (0*3)).block/\∀j (hj:j<[Value.int .i64 t.k,J (t.f:Nat),J (t.t:Nat)].length),w.cell? ((ad.add (0*3)).add j)=some [Value.int .i64 t.k,J (t.f:Nat),J (t.t:Nat)][j]:=by
  subst hl;obtain⟨ad,hA,hk⟩:=Rep.tok_elem h (i:=0) (Nat.succ_pos _);refine⟨ad,hA,?_,hk⟩;obtain⟨A',c',e,-,-,hr⟩:=Rep.slice_inv h;simp only[List.cons.injEq,Value.slice.injEq,and_true]at e;obtain⟨rfl,-,-⟩:=e;obtain⟨ad',rfl,es,hc,hl⟩:=hr Oa;obtain rfl:=lQ hA;obtain⟨c1,c2,rfl,h1,-⟩:=RepL.cons_inv hl;obtain rfl:=T5 h1;have:=(hc 0 Oa).2
  rwa [Pd]
theorem Rep.tok_tail(h:Rep S w (Tm l) [.slice A l.length c])(hl:l=t::r):Rep S w (Tm r) [.slice (if c=1 then A else A.map (·.add (1*3))) (l.length-1) (c-1)]:=by
  subst hl;obtain⟨A',c',e,g1,g2,hr⟩:=Rep.slice_inv h;simp only[List.cons.injEq,Value.slice.injEq,and_true]at e;obtain⟨rfl,-,rfl⟩:=e;simp only[rQ,kQ]at g1;refine Rep.slice_mk Oa (by simp only[kQ];omega) Aa λhne=>?_;have hr0:0<r.length:=by cases r with|nil=>simp at hne|cons=>simp
  rw[if_neg Aa];obtain⟨ad,rfl,es,hc,hl⟩:=hr Oa;obtain⟨c1,c2,rfl,h1,h2⟩:=RepL.cons_inv hl;obtain rfl:=T5 h1;refine⟨_,O,c2,λi hi=>?_,h2⟩;have:=hc (3+i) (by simp;omega);rw[Pd,Lm];refine⟨this.1.trans ?_,this.2⟩;rw[List.getElem_append_right Oa];simp
theorem OA{p:Ps}(h:¬((p.rest.length:Int)=0)):∃t r,p.rest=t::r:=by
  cases hp:p.rest with
  | nil=>exact absurd (by rw[hp];rfl) h
  | cons t r=>exact⟨t,r,rfl⟩
theorem tk_more{p:Ps}{k:Int}(hk:k≠0)(h:¬(p.kind≠k)):∃t r,p.rest=t::r:=by
  unfold Ps.kind at h;cases hp:p.rest with
  | nil=>rw[hp]at h;exact absurd (λe=>hk e.symm) h
  | cons t r=>exact⟨t,r,rfl⟩
theorem SG{p:Ps}(h:(p.rest.length:Int)=0):p.rest=[]:=List.eq_nil_of_length_eq_zero Aa
end
theorem UZ(k:Int)(w0:World):Calls prog 170 #[J k] w0 (Yc λv w'=>v=J (Zf k)/\Same [] w0 w'):=by
 refine Fa func170 O ntmps170 Ab (Wb _) ?_;have hF:=FR.start w0 [];refine Ea (Ba (Fb O) (Da (Ga (Ea (Ba (Za O) (Da (Qa (Ea ?_))))))));refine Ba (Of O O) (Ba (Kb O) (Da ?_));refine Jb O O (λhc0=>?_) (λhc0=>?_);refine Ea (Ba (Fb O) (Da ?_));refine Gc (v:=J 1) O O ?_;exact⟨by unfold Zf;simp_all,hF.same⟩;refine Ga (Ea (Ba (Of O O) (Ba (Kb O) (Da ?_))));refine Jb O O (λhc1=>?_) (λhc1=>?_);refine Ka (Ha (Yd O (Ea (Ba (Fb O) (Da ?_)))));refine Gc (v:=J 2) O O ?_;exact⟨by unfold Zf;simp_all,hF.same⟩;refine Ja (Ba (Of O O) (Ba (Kb O) (Da ?_)));refine Jb O O (λhc2=>?_) (λhc2=>?_);refine Ea (Ba (Fb O) (Da ?_));refine Gc (v:=J 2) O O ?_;exact⟨by unfold Zf;simp_all,hF.same⟩;refine Ea (Ba (Of O O) (Ba (Kb O) (Da ?_)));refine Jb O O (λhc3=>?_) (λhc3=>?_);refine Ea (Ba (Fb O) (Da ?_));refine Gc (v:=J 3) O O ?_;exact⟨by unfold Zf;simp_all,hF.same⟩;refine Ea (Ba (Of O O) (Ba (Kb O) (Da ?_)));refine Jb O O (λhc4=>?_) (λhc4=>?_);refine Ea (Ba (Fb O) (Da ?_));refine Gc (v:=J 4) O O ?_;exact⟨by unfold Zf;simp_all,hF.same⟩;refine Ea (Ba (Of O O) (Ba (Kb O) (Da ?_)));refine Jb O O (λhc5=>?_) (λhc5=>?_);refine Ea (Ba (Fb O) (Da ?_));refine Gc (v:=J 5) O O ?_;exact⟨by unfold Zf;simp_all,hF.same⟩;refine Ea (Ba (Of O O) (Ba (Kb O) (Da ?_)));refine Jb O O (λhc6=>?_) (λhc6=>?_);refine Ea (Ba (Fb O) (Da ?_));refine Gc (v:=J 6) O O ?_;exact⟨by unfold Zf;simp_all,hF.same⟩;refine Ka (Ya (Ha (Ea (Ba (Fb O) (Da ?_)))));refine Gc (v:=J 0) O O ?_;exact⟨by unfold Zf;simp_all,hF.same⟩
theorem kind_c(s:Str)(p:Ps)(Ar A:Option Addr)(cr c pb:Nat)(S:Nat->Prop)(w0:World)(hb:w0.heap[pb]? = some (.cells (Iu s Ar cr p A c).toArray 138))(hT:Rep S w0 (Tm p.rest) [.slice Ar p.rest.length cr])(hS:∀b,S b->b≠pb):Calls prog 171 #[V pb] w0 (Yc λv w'=>v=J p.kind/\Same [] w0 w'):=by
 refine Fa func171 O ntmps171 Ab (Wb _) ?_;have hF:FR w0 [pb] [(pb,.cells #[I s,.slice Ar p.rest.length cr,J ((p.lf:Nat)),J ((p.lt:Nat)),.slice A p.nodes.length c,J ((p.at_:Nat)),J (p.err)] 138)] w0:=FR.open_ (by simp;exact hb) Oa;refine Ea (Ba (Fb O) (Da (Ga (Ea (Ba (Uh O) (Ba (Ek O) (Ba (Mb Xk O) (Xb (Ie uQ O hF.F 0 O O) (Ba (Nf xZ O) (Ba (Of O O) ?_))))))))));refine Da (Jb O O (λhc0=>?_) (λhc0=>?_));refine Ea (Ba (Fb O) (Da ?_));refine Gc (v:=J 0) O O ?_;exact⟨by simp[Ps.kind,SG hc0],Same.refl _ _⟩;refine Ka (Ha (Ga ?_));obtain⟨t,r,hpr⟩:=OA hc0;obtain⟨ad,hA,hSa,hk⟩:=hT.tok_head hpr;subst hA;refine Ja (Ba (Uh O) (Ba (Ek O) (Ba (Mb Xk O) (Xb (Ie uQ O hF.F 0 O O) (Ia (v:=.pointer (some (ad.add (0*3)))) (Na (i:=0) Cz O O O Aa Aa) (Ia (v:=.pointer (some ((ad.add (0*3)).add 0))) (Zb (a:=ad.add (0*3)) YG O) (Ia (v:=J (t.k)) (Nc xQ O (hk 0 Ab)) (Ba (Fb O) (Da ?_)))))))));refine Gc (v:=J (t.k)) O O ?_;exact⟨by simp[Ps.kind,hpr],Same.refl _ _⟩
theorem here_c(s:Str)(p:Ps)(Ar A:Option Addr)(cr c pb:Nat)(S:Nat->Prop)(w0:World)(hb:w0.heap[pb]? = some (.cells (Iu s Ar cr p A c).toArray 138))(hT:Rep S w0 (Tm p.rest) [.slice Ar p.rest.length cr])(hS:∀b,S b->b≠pb):Calls prog 177 #[V pb] w0 (Yc λv w'=>v=J (p.here s.length:Nat)/\Same [] w0 w'):=by
 refine Fa func177 O ntmps177 Ab (Wb _) ?_;have hF:FR w0 [pb] [(pb,.cells #[I s,.slice Ar p.rest.length cr,J ((p.lf:Nat)),J ((p.lt:Nat)),.slice A p.nodes.length c,J ((p.at_:Nat)),J (p.err)] 138)] w0:=FR.open_ (by simp;exact hb) Oa;refine Ea (Ba (Fb O) (Da (Ga (Ea (Ba (Uh O) (Ba (Ek O) (Ba (Mb Xk O) (Xb (Ie uQ O hF.F 0 O O) (Ba (Nf xZ O) (Ba (Of O O) ?_))))))))));refine Da (Jb O O (λhc0=>?_) (λhc0=>?_));refine Ea (Ba (Uh O) (Ba (Ek O) (Ba (Mb fa_138_0 O) (Xb (Ej iZ O hF.F 0 O O) (Ba (Sk kX O) (Ba (Fb O) (Da ?_)))))));refine Db (Cb (La (Gq (v:=J ((((s):Str).length:Int))) O O) ?_));exact⟨by simp[Ps.here,SG hc0],Same.refl _ _⟩;refine Ka (Ha (Ga ?_));obtain⟨t,r,hpr⟩:=OA hc0;obtain⟨ad,hA,hSa,hk⟩:=hT.tok_head hpr;subst hA;refine Ja (Ba (Uh O) (Ba (Ek O) (Ba (Mb Xk O) (Xb (Ie uQ O hF.F 0 O O) (Ia (v:=.pointer (some (ad.add (0*3)))) (Na (i:=0) Cz O O O Aa Aa) (Ia (v:=.pointer (some ((ad.add (0*3)).add 1))) (Zb (a:=ad.add (0*3)) O1 O) (Ia (v:=.pointer (some (((ad.add (0*3)).add 1).add 0))) (Zb (a:=(ad.add (0*3)).add 1) M1 O) ?_)))))));refine Ia (v:=J ((t.f:Nat))) (Nc xQ O (Re (hF.cellsE (by simpa using hS _ hSa) hk) 1 (l:=[J (t.f:Nat),J (t.t:Nat)]) O 0 (Nat.zero_lt_succ _))) (Ba (Fb O) (Da ?_));refine Gc (v:=J ((t.f:Nat))) O O ?_;exact⟨by simp[Ps.here,hpr],Same.refl _ _⟩
theorem fail_c(s:Str)(p:Ps)(Ar A:Option Addr)(cr c pb:Nat)(S:Nat->Prop)(e:Int)(w0:World)(hb:w0.heap[pb]? = some (.cells (Iu s Ar cr p A c).toArray 138))(hT:Rep S w0 (Tm p.rest) [.slice Ar p.rest.length cr])(hS:∀b,S b->b≠pb):Calls prog 114 #[V pb,J e] w0 (Yc λv w'=>v=.bool false/\w'.heap[pb]? = some (.cells (Iu s Ar cr (p.fail s.length e) A c).toArray 138)/\Same [pb] w0 w'):=by
 refine Fa func114 O ntmps114 Ab (Uc _ _) ?_;have hF:FR w0 [pb] [(pb,.cells #[I s,.slice Ar p.rest.length cr,J ((p.lf:Nat)),J ((p.lt:Nat)),.slice A p.nodes.length c,J ((p.at_:Nat)),J (p.err)] 138)] w0:=FR.open_ (by simp;exact hb) Oa;refine Ea (Ba (Kb O) (Lb (Ba (Uh O) (Ba (Uh O) (Ba (Uh O) ?_)))));refine Pa hF (here_c s p Ar A cr c pb S _ (hF.heap (i:=0) O) hT hS) (Ma en_177 O O) ?_;intro w hF;refine Ba (Za O) (Ba (Ek O) (Ba (Mb N6 O) ?_));refine Ro (.int _ _) hF sizeOf3 O O Pi sI5 ?_;rintro w hF -;refine Ba (Ek O) (Ba (Mb Y7 O) ?_);refine Ro (.int _ _) hF sizeOf25 O O Pi sI6 ?_;rintro w hF -;refine Lb (Ba (Kb O) (Da ?_));refine Gc (v:=.bool false) O O ?_;exact⟨O,hF.heap (i:=0) O,hF.same⟩
theorem skip_c(s:Str)(p:Ps)(Ar A:Option Addr)(cr c pb:Nat)(S:Nat->Prop)(t:Tk)(r:List Tk)(w0:World)(hb:w0.heap[pb]? = some (.cells (Iu s Ar cr p A c).toArray 138))(hT:Rep S w0 (Tm p.rest) [.slice Ar p.rest.length cr])(hS:∀b,S b->b≠pb)(hpr:p.rest=t::r):Calls prog 172 #[V pb] w0 (Yc λv w'=>v=.tuple #[]/\∃Ar' cr',w'.heap[pb]? = some (.cells (Iu s Ar' cr' p.skip A c).toArray 138)/\Rep S w' (Tm p.skip.rest) [.slice Ar' p.skip.rest.length cr']/\Same [pb] w0 w'):=by
 refine Fa func172 O ntmps172 Ab (Wb _) ?_;have hF:FR w0 [pb] [(pb,.cells #[I s,.slice Ar p.rest.length cr,J ((p.lf:Nat)),J ((p.lt:Nat)),.slice A p.nodes.length c,J ((p.at_:Nat)),J (p.err)] 138)] w0:=FR.open_ (by simp;exact hb) Oa;obtain⟨ad,hA,hSa,hk⟩:=hT.tok_head hpr;have hTt:=hT.tok_tail hpr;have hln:p.rest.length=r.length+1:=by rw[hpr];rfl
 refine Md ⟨[16,19],λwq=>FR w0 [pb] [] wq,[1,9,10,11,13,14,17]⟩ (bQ [0,1,2,3,4,5,6,7,8,9,10,11,12,13,14,15] (.act 16 (.free 17 (.free 18 (.act 19 .nil))))) hF ?_;rintro w hF -;refine⟨λwq=>FR w0 [pb] _ wq,hF,?_⟩;refine Ib O (Uh O) (Ib O (Uh O) (Ib O (Uh O) (Ib O (Ek O) (Ib O (Mb Xk O) (Ng O (Ie uQ O C0 0 O O) (Sa O (v:=.pointer (some (ad.add (0*3)))) (λw hC=>Na (i:=0) Cz O hA O Aa Aa) (Sa O (v:=.pointer (some ((ad.add (0*3)).add 1))) (λw hC=>Zb (a:=ad.add (0*3)) O1 O) ?_)))))));refine Sa O (λw hC=>Wa (l:=[J ((t.f:Nat)),J ((t.t:Nat))]) isAgg136 sizeOf136 O O (Re (hC.cellsE (by simpa using hS _ hSa) hk) 1 O)) (Ib O (Uh O) (Ib O (Ek O) (Ib O (Mb Xk O) (Ng O (Ie uQ O C0 0 O O) ?_))));refine Tt O (v:=.slice ((if cr=1 then Ar else Ar.map (·.add (1*3)))) ((p.rest.length-1)) ((cr-1))) (λw hC=>Um 1 Cz O O Aa) (λw hC=>Um 1 Cz O O Aa) (Ib O (Ek O) (Ib O (Mb O8 O) ?_));refine Bs 0 (l:=[J ((t.f:Nat)),J ((t.t:Nat))]) (cs':=#[I s,.slice Ar p.rest.length cr,J ((t.f:Nat)),J ((t.t:Nat)),.slice A p.nodes.length c,J ((p.at_:Nat)),J (p.err)]) hF sizeOf136 O (v:=.agg #[J ((t.f:Nat)),J ((t.t:Nat))]) O O Sl O Ab O ?_ O;rintro w hF -;refine⟨hF.mid 1 0,?_⟩;refine Ib O (Ek O) (Ib O (Mb Xk O) ?_);refine Q_ (.slice _ _ _) O hF sizeOf131 O O Pi Tr ?_;rintro w hF -;refine⟨hF.mid 1 0,?_⟩;refine Ic (Kh (Ve (Zj O) ?_));have e:p.skip = { p with lf:=t.f,lt:=t.t,rest:=r }:=by unfold Ps.skip;rw[hpr]
 have el:r.length=p.rest.length-1:=by omega
 rw[e];refine⟨O,(if cr=1 then Ar else Ar.map (·.add (1*3))),cr-1,?_,?_,hF.same⟩;have:=hF.heap (i:=0) rfl;simp only[Iu,el];exact this;show Rep S w (Tm r) [.slice _ r.length _];rw[el];exact hTt.same hF.same (λb hb hs=>hS b hs (by simpa using hb))
theorem takes_c(s:Str)(p:Ps)(Ar A:Option Addr)(cr c pb:Nat)(S:Nat->Prop)(k:Int)(hk0:k≠0)(w0:World)(hb:w0.heap[pb]? = some (.cells (Iu s Ar cr p A c).toArray 138))(hT:Rep S w0 (Tm p.rest) [.slice Ar p.rest.length cr])(hS:∀b,S b->b≠pb):Calls prog 232 #[V pb,J k] w0 (Yc λv w'=>(p.kind≠k/\v=.bool false/\w'.heap[pb]? = some (.cells (Iu s Ar cr p A c).toArray 138)/\Same [pb] w0 w')\/(p.kind=k/\v=.bool true/\∃Ar' cr',w'.heap[pb]? = some (.cells (Iu s Ar' cr' p.skip A c).toArray 138)/\Rep S w' (Tm p.skip.rest) [.slice Ar' p.skip.rest.length cr']/\Same [pb] w0 w')):=by
 refine Fa func232 O ntmps232 Ab (Uc _ _) ?_;have hF:FR w0 [pb] [(pb,.cells #[I s,.slice Ar p.rest.length cr,J ((p.lf:Nat)),J ((p.lt:Nat)),.slice A p.nodes.length c,J ((p.at_:Nat)),J (p.err)] 138)] w0:=FR.open_ (by simp;exact hb) Oa;refine Ea (Ba (Kb O) (Da (Ga (Ea (Ba (Uh O) ?_)))));refine Pa hF (kind_c s p Ar A cr c pb S _ (hF.heap (i:=0) O) hT hS) (Ma JZ O O) ?_;intro w hF;refine Ba (Za O) (Ba (Wm O O) (Da ?_));refine Jb O O (λhc0=>?_) (λhc0=>?_);refine Ea (Ba (Kb O) (Da ?_));refine Gc (v:=.bool false) O O ?_;exact .inl ⟨hc0,O,hF.heap (i:=0) O,hF.same⟩;refine Ka (Ha (Ea (Ba (Uh O) ?_)));have hT2:=hT.same hF.same (λb hb hs=>hS b hs (by simpa using hb));obtain⟨t,r,hpr⟩:=tk_more hk0 hc0;refine Eb (skip_c s p Ar A cr c pb S t r _ (hF.heap (i:=0) O) hT2 hS hpr) (Ma en_172 O O) ?_;rintro v w ⟨rfl,Ar',cr',hb2,hT3,hE⟩;have hF:=hF.change 0 rfl hE hb2;refine Lb (Ba (Kb O) (Da ?_));refine Gc (v:=.bool true) O O ?_;exact .inr ⟨Decidable.not_not.1 hc0,O,Ar',cr',hF.heap (i:=0) O,hT3,hF.same⟩
def Kp(ids_:List Nat)(w:World)(x:Nat):Prop:=x<w.heap.size/\x∉ids_
def KX(ids_:List Nat)(w:World)(ds:List D)(cs:List Value):Prop:=RepL (Kp ids_ w) w ds cs
section
variable {w w' w0:World}{i i' E Ds:List Nat}{ds es:List D}{cs ct:List Value}{bs_ sl sl':List (Nat × Obj)}{S:Nat->Prop}
theorem KX.step(h:KX i w ds cs)(hs:Same E w w')(he:∀b∈E,b∈i)(hi:∀x∈i',x∈i\/w.heap.size<=x):KX i' w' ds cs :=
  RepL.weaken (λb hb _=>⟨Nat.lt_of_lt_of_le hb.1 hs.size,λhm=>(hi b hm).elim hb.2 (λh=>by have:=hb.1;omega)⟩) (RepL.same h hs λb hb hn=>hn.2 (he b hb))
theorem KX.ext(h:KX i w ds cs)(hs:Same [] w w'):KX i w' ds cs:=h.step hs Oa (λ_ hx=>.inl hx)
theorem KX.store(h:KX i w ds cs)(hs:Same E w w')(he:∀b∈E,b∈i):KX i w' ds cs:=h.step hs he (λ_ hx=>.inl hx)
theorem KX.sub(h:KX i w ds cs)(hi:∀x∈i',x∈i):KX i' w ds cs:=h.step (Same.refl [] w) Oa (λx hx=>.inl (hi x hx))
theorem KX.grow(h:KX i w ds cs)(hE:Same (sl.map (·.1)) w w')(hn:∀p∈sl',p.1∈sl.map (·.1)\/w.heap.size<=p.1)(hi:∀x∈sl.map (·.1),x∈i):KX (i++ids sl') w' ds cs :=
  h.step hE hi λx hx=>by
    rcases mQ.1 hx with h1|h1
    ·exact .inl h1
    obtain⟨p, hp, rfl⟩ := nQ.1 h1;rcases hn p hp with h2|h2
    ·exact .inl (hi _ h2)
    exact .inr h2
theorem KX.append(h:KX i w ds cs)(k:KX i w es ct):KX i w (ds++es) (cs++ct):=RepL.append h k
theorem KX.any(h:KX i w ds cs):RepL (λ_=>True) w ds cs:=RepL.weaken (λ_ _ _=>trivial) h
theorem KX.made{d:D}(hF:FR w0 [] bs_ w)(hs:Same [] w w')(hi:∀x∈i,w0.heap.size<=x/\x<w.heap.size)(h:Rep (λb=>b<w0.heap.size\/Btw w w' b) w' d cs):Rep (Kp i w') w' d cs :=
  h.weaken λb hb hl=>⟨hl,λhm=>by
    have h1:=hi b hm;rcases hb with h2|h2
    ·omega
    have:=h2.1;omega⟩
theorem KX.low{d:D}(hF:FR w0 [] bs_ w)(hi:∀x∈i,w0.heap.size<=x)(h:Rep S w0 d cs):Rep (Kp i w) w d cs :=
  (hF.rep h.low).weaken λb hb hl=>⟨hl,λhm=>by have:=hi b hm;omega⟩
end
theorem Rep.tree_at{S:Nat->Prop}{w:World}{l:List Tree}{B:Option Addr}{n e:Nat}(h:Rep S w (.slice (Fe l)) [.slice B n e]){i:Nat}(hi:i<l.length) :
    ∃(ad:Addr)(a:Tv),B=some ad/\(∀j (hj:j<a.cells.length),w.cell? ((ad.add (i*4)).add j)=some a.cells[j])/\Rep S w (Ob l[i]) a.cells:=by
  obtain⟨ad,cs,hA,hl,hk,hx⟩:=h.tree_elem hi;obtain⟨a,rfl,-⟩:=Vg hx;exact⟨ad,a,hA,hk,hx⟩
def ofT(s:Str):Tree:=.node 4 s [] []
def DB(m:Mm):Tree:=.node 5 [] [] [ofT m.pr,Ud m.sd]
def Lu(t:List Mm):Tree:=.node 5 [] [] (t.map DB)
def Ox(t:List Mm):Str × Int:=if Te t=true then (Sm (Ae (Lu t)),Is (Ae (Lu t))) else ([],1)
def Qq:Mm:=⟨[],noS⟩
def Ci(v:Tree):Mm × Bool:=if v.kind=5 then (match v.items with
  | [a,b]=>if a.kind=4/\b.kind=5/\b.items.length<=1 then (⟨a.text,match b.items with|[x]=>⟨true,x⟩|_=>noS⟩,true) else (Qq,false)
  | _=>(Qq,false)) else (Qq,false)
theorem ML{v:Tree}(h:¬(v.kind=5/\v.items.length=2)):Ci v=(Qq,false):=by
  unfold Ci;by_cases hk:v.kind=5
  ·rw[if_pos hk]
   split
   ·rename_i a b e;exact absurd ⟨hk,by rw[e];rfl⟩ h
   rfl
  rw[if_neg hk]
theorem TY{l:List Tree}(h:l.length=2):∃a b,l=[a,b]:=by
  match l,h with
  | [a,b],_=>exact⟨a,b,rfl⟩
theorem VL{S:Nat->Prop}{w:World}{t:Tree}{cs:List Value}(h:Rep S w (Ob t) cs):t.text.length<=9223372036854775807:=by
  obtain⟨k,s,ks,xs⟩:=t;obtain⟨A,c,B,e,-,-,h2,-,-⟩:=h.tree_inv;exact h2
theorem Kz{S:Nat->Prop}{w:World}:Rep S w (Le Qq.sd) (Sv.mk false C4).cells:=Ml
theorem YX{l:List Tree}(h:l.length=1):∃a,l=[a]:=by
  match l,h with
  | [a],_=>exact⟨a,rfl⟩
theorem item_c2(y:Tree)(x:Tv)(S:Nat->Prop)(w0:World)(hX:Rep S w0 (Ob y) x.cells):Calls prog 44 #[.agg x.cells.toArray] w0 (Yc λv w'=>∃z:Sv,v=.tuple #[.agg (Qn (Ci y).1.pr z).toArray,.bool (Ci y).2]/\Rep S w' (Le (Ci y).1.sd) z.cells/\(Ci y).1.pr.length<=9223372036854775807/\Same [] w0 w'):=by
 obtain⟨hp1,hp2,hp3,hp4,-,hpB⟩:=Ji hX;refine Fa func44 O ntmps44 Ab (Wb _) ?_;have hF:=FR.start w0 [];refine Ea (Ce hF O ?_);rintro b1 w hb1 hF -;refine Pc (cs:=#[I [],.bool false,J 0,I [],aQ,aQ]) hF qX O ?_;rintro b2 w hb2 hF -;refine Ba (Kb O) (Da (Ga (Ea (Ba (Mb Xc O) (Xb (Zg xQ O hF.F 1 O O) (Ba (Wm O O) (Ba (Dc O) ?_)))))));refine Bb (d:=9) O (λhg0=>?_) (λhg0=>?_);refine Ca (Ca (Ca (Ca (Ba (Rb O O) (Da (Yd O (Ea (Xb (Bf gZ qZ O hF.F 0 O O) ?_))))))));refine Ge hF qZ O O Pi ?_;rintro w hF -;refine Ba (Kb O) (Da ?_);refine Db (Cb (La (Ld O (l:=[I [],.bool false,J 0,I [],aQ,aQ]) O gZ qZ O (hF.cellsAll 0 O) (v:=.bool false) O) ?_));have e:Ci y=(Qq,false):=ML (by intro h;have h1:=hp1;have h4:=hp4;simp_all;try omega);rw[e];exact⟨⟨false,C4⟩,O,Kz,by simp[Qq],hF.same⟩;refine Ba (Mb Tb O) (Xb (Ie zQ O hF.F 1 O O) (Ba (Nf dX O) (Ba (Wm O O) (Ba (Pb O O) (Da ?_)))));refine Jb O O (λhc0=>?_) (λhc0=>?_);refine Ea (Xb (Bf gZ qZ O hF.F 0 O O) ?_);refine Ge hF qZ O O Pi ?_;rintro w hF -;refine Ba (Kb O) (Da ?_);refine Db (Cb (La (Ld O (l:=[I [],.bool false,J 0,I [],aQ,aQ]) O gZ qZ O (hF.cellsAll 0 O) (v:=.bool false) O) ?_));have e:Ci y=(Qq,false):=ML (by intro h;have h1:=hp1;have h4:=hp4;simp_all;try omega);rw[e];exact⟨⟨false,C4⟩,O,Kz,by simp[Qq],hF.same⟩;refine Ka (Ha ?_);obtain⟨hk5,hm2⟩:y.kind=5/\y.items.length=2:=by have h1:=hp1;have h4:=hp4;constructor <;> (simp_all;try omega)
 obtain⟨ya,yb,hy2⟩:=TY hm2;rw[hy2]at hpB;obtain⟨nad,n_,nA,nk,nX⟩:=hpB.tree_at (i:=0) Oa;obtain⟨had,h_,hA,hk,hX2⟩:=hpB.tree_at (i:=1) Oa;obtain⟨na1,na2,-⟩:=Ji nX;obtain⟨ha1,ha2,ha3,ha4,ha5,ha6⟩:=Ji hX2;simp only[List.getElem_cons_zero,List.getElem_cons_succ]at na1 na2 nX ha1 ha2 ha3 ha4 ha5 ha6 hX2;refine Ga (Fd (λσ w=>∃(bn:Nat),∃(bh:Nat),AllEq σ [(2,V b2),(4,V bn),(5,V bh)]/\FR w0 [] [(bn,.cells (n_.cells).toArray 36),(bh,.cells (h_.cells).toArray 36),(b2,.cells #[I [],.bool false,J 0,I [],aQ,aQ] 44),(b1,.cells (x.cells).toArray 36)] w) ?_ ?_);refine De (zs:=.of [11]) (bQ [0,1,2,3,4,5,6,7] (.alt 8 (cQ [9,10,11] .nil) (cQ [9,8,10,11] .nil))) hF ?_;intro w hF;refine Ib O (Mb Tb O) (Ng O (Ie zQ O C0 1 O O) (Sa O (v:=.pointer (some (nad.add (0*4)))) (λw hC=>Na (i:=0) Wf O nA O Aa Aa) (Sa O (v:=.agg (n_.cells).toArray) (λw hC=>Wa (l:=n_.cells) aZ nZ O O (hC.cells0 nk)) (Ib O (Mb Tb O) (Ng O (Ie zQ O C0 1 O O) (Sa O (v:=.pointer (some (had.add (1*4)))) (λw hC=>Na (i:=1) Wf O hA O Aa Aa) (Sa O (v:=.agg (h_.cells).toArray) (λw hC=>Wa (l:=h_.cells) aZ nZ O O (hC.cells0 hk)) ?_)))))));refine Iv ?_ ?_;refine Vp O (v:=λb=>V b) (o:=.cells #[J 0,I [],aQ,aQ] 36) hF (Xh oX) ?_;rintro b3 w hb3 hF -;refine⟨hF.drop 1,?_⟩;refine Vp O (v:=λb=>V b) (o:=.cells #[J 0,I [],aQ,aQ] 36) hF (Xh oX) ?_;rintro b4 w hb4 hF -;refine⟨hF.drop 2,?_⟩;refine Gx O hF nZ O O Tr ?_;rintro w hF -;refine⟨hF.drop 2,?_⟩;refine Q6 O hF nZ O O Pi ?_;rintro w hF -;refine Ic ?_;exact Ta ⟨(b3),(b4),Oi,((((hF.front 3 O).front 3 O).front 2 O).front 3 O)⟩;refine Vp O (v:=λb=>V b) (o:=.cells #[J 0,I [],aQ,aQ] 36) hF (Xh oX) ?_;rintro b5 w hb5 hF -;refine⟨hF.drop 1,?_⟩;refine Vp O (v:=λb=>V b) (o:=.cells #[J 0,I [],aQ,aQ] 36) hF (Xh oX) ?_;rintro b6 w hb6 hF -;refine⟨hF.drop 2,?_⟩
 refine Gx O hF nZ O O Pi ?_;rintro w hF -;refine⟨hF.drop 2,?_⟩;refine Q6 O hF nZ O O Tr ?_;rintro w hF -;refine Ic ?_;exact Ta ⟨(b6),(b5),Oi,((((hF.front 3 O).front 3 O).front 3 O).front 3 O)⟩;rintro σ w ⟨bn,bh,hs,hF⟩;refine Eg.slots hs ?_;clear hs;intro σ;refine Ha (Ga (Ea (Ba (Mb Xc O) (Xb (Zg xQ O hF.F 0 O O) (Ba (Wm O O) (Ba (Dc O) ?_))))));refine Bb (d:=27) O (λhg1=>?_) (λhg1=>?_);refine Ca (Ca (Ca (Ba (Rb O O) (Ba (Dc O) (Ca (Ca (Ca (Ca (Ba (Rb O O) (Da (Yd O (Ga ?_))))))))))));refine Ja (Xb (Bf gZ qZ O hF.F 2 O O) ?_);refine Ge hF qZ O O V3 ?_;rintro w hF -;refine Ba (Kb O) (Da ?_);refine Db (Cb (La (Ld O (l:=[I [],.bool false,J 0,I [],aQ,aQ]) O gZ qZ O (hF.cellsAll 2 O) (v:=.bool false) O) ?_));have e:Ci y=(Qq,false):=by unfold Ci;rw[if_pos hk5,hy2];simp only;rw[if_neg (by intro h;simp_all;try omega)]
 rw[e];exact⟨⟨false,C4⟩,O,Kz,by simp[Qq],hF.same⟩;refine Ba (Mb Xc O) (Xb (Zg xQ O hF.F 1 O O) (Ba (Wm O O) (Ba (Pb O O) (Ba (Dc O) ?_))));refine Bb (d:=32) O (λhg2=>?_) (λhg2=>?_);refine Ca (Ca (Ca (Ca (Ba (Rb O O) (Da (Yd O (Ea (Xb (Bf gZ qZ O hF.F 2 O O) ?_))))))));refine Ge hF qZ O O V3 ?_;rintro w hF -;refine Ba (Kb O) (Da ?_);refine Db (Cb (La (Ld O (l:=[I [],.bool false,J 0,I [],aQ,aQ]) O gZ qZ O (hF.cellsAll 2 O) (v:=.bool false) O) ?_));have e:Ci y=(Qq,false):=by unfold Ci;rw[if_pos hk5,hy2];simp only;rw[if_neg (by intro h;simp_all;try omega)]
 rw[e];exact⟨⟨false,C4⟩,O,Kz,by simp[Qq],hF.same⟩;refine Ba (Mb Tb O) (Xb (Ie zQ O hF.F 1 O O) (Ba (Nf dX O) (Ba (Mo O O) (Ba (Pb O O) (Da ?_)))));refine Jb O O (λhc1=>?_) (λhc1=>?_);refine Ea (Xb (Bf gZ qZ O hF.F 2 O O) ?_);refine Ge hF qZ O O V3 ?_;rintro w hF -;refine Ba (Kb O) (Da ?_);refine Db (Cb (La (Ld O (l:=[I [],.bool false,J 0,I [],aQ,aQ]) O gZ qZ O (hF.cellsAll 2 O) (v:=.bool false) O) ?_));have e:Ci y=(Qq,false):=by unfold Ci;rw[if_pos hk5,hy2];simp only;rw[if_neg (by intro h;simp_all;try omega)]
 rw[e];exact⟨⟨false,C4⟩,O,Kz,by simp[Qq],hF.same⟩;refine Ka (Ha (Ea (Ba (Mb Id O) (Xb (Ej iZ O hF.F 0 O O) (Ba (Mb Dh O) ?_)))));refine Ro (.string _) hF sZ O O V3 Pi ?_;rintro w hF -;refine Da (Ga (Ea (Ba (Mb Tb O) (Xb (Ie zQ O hF.F 1 O O) (Ba (Nf dX O) (Ba (Of O O) (Da ?_)))))));refine Jb O O (λhc2=>?_) (λhc2=>?_);obtain⟨yx,hyx⟩:=YX (l:=yb.items) (by rw[<-ha4];omega);rw[hyx]at ha6;obtain⟨xad,x_,xA,xk,xX⟩:=ha6.tree_at (i:=0) Oa;simp only[List.getElem_cons_zero]at xX;refine Ja (Ba (Mb Tb O) (Xb (Ie zQ O hF.F 1 O O) (Ia (v:=.pointer (some (xad.add (0*4)))) (Na (i:=0) Wf O xA O Aa Aa) (Ia (v:=.agg (x_.cells).toArray) (Wa (l:=x_.cells) aZ nZ O O (hF.cells0 xk)) ?_))));refine Ia (w':=w) (v:=.agg #[.bool true,J (x_.k),I (x_.t),.slice x_.A x_.n x_.c,.slice x_.B x_.m x_.e]) Qb (Ba (Mb Xg O) ?_);refine Fg 2 (l:=[.bool true,J (x_.k),I (x_.t),.slice x_.A x_.n x_.c,.slice x_.B x_.m x_.e]) (cs':=#[I (n_.t),.bool true,J (x_.k),I (x_.t),.slice x_.A x_.n x_.c,.slice x_.B x_.m x_.e]) hF oZ O (v:=.agg #[.bool true,J (x_.k),I (x_.t),.slice x_.A x_.n x_.c,.slice x_.B x_.m x_.e]) O O Sl O Ab O ?_;rintro w hF -;refine Lb (Xb (Bf gZ qZ O hF.F 2 O O) ?_);refine Ge hF qZ O O V3 ?_;rintro w hF -;refine Ba (Kb O) (Da ?_);refine Db (Cb (La (Ld O (l:=[I (n_.t),.bool true,J (x_.k),I (x_.t),.slice x_.A x_.n x_.c,.slice x_.B x_.m x_.e]) O gZ qZ O (hF.cellsAll 2 O) (v:=.bool true) O) ?_));have hq4:ya.kind=4/\yb.kind=5/\yb.items.length<=1:=by refine⟨?_,?_,?_⟩ <;> (simp_all;try omega)
 have e:Ci y=(⟨ya.text,⟨true,yx⟩⟩,true):=by unfold Ci;rw[if_pos hk5,hy2];simp only;rw[if_pos hq4,hyx]
 rw[e];rw[na2];exact⟨⟨true,x_⟩,O,hF.rep (Xx (s:=⟨true,yx⟩) xX),VL nX,hF.same⟩;refine Ka (Ha (Ea (Xb (Bf gZ qZ O hF.F 2 O O) ?_)));refine Ge hF qZ O O V3 ?_;rintro w hF -;refine Ba (Kb O) (Da ?_);refine Db (Cb (La (Ld O (l:=[I (n_.t),.bool false,J 0,I [],aQ,aQ]) O gZ qZ O (hF.cellsAll 2 O) (v:=.bool true) O) ?_));have hq4:ya.kind=4/\yb.kind=5/\yb.items.length<=1:=by refine⟨?_,?_,?_⟩ <;> (simp_all;try omega)
 have hy0:yb.items=[]:=by refine List.eq_nil_of_length_eq_zero ?_;have h5:=hc2;omega
 have e:Ci y=(⟨ya.text,noS⟩,true):=by unfold Ci;rw[if_pos hk5,hy2];simp only;rw[if_pos hq4,hy0]
 rw[e];rw[na2];exact⟨⟨false,C4⟩,O,Ml,VL nX,hF.same⟩
theorem ins2_c(g:Nat)(x y:Tv)(xT yT:Tree)(S:Nat->Prop)(hS:¬S g)(hgl:8<=g)(w0:World)(hg:w0.heap[g]? = some (.cells #[J (x.k),I (x.t),.slice x.A x.n x.c,.slice x.B x.m x.e,J (y.k),I (y.t),.slice y.A y.n y.c,.slice y.B y.m y.e] 36))(hx:Rep S w0 (Ob xT) x.cells)(hy:Rep S w0 (Ob yT) y.cells)(hsx:Nb xT<=1000000000)(hsy:Nb yT<=1000000000)(hkx:Tq xT)(hky:Tq yT)(hG:Gl w0):Calls prog 126 #[W g 2 2,J 0,J 2,.func (.func 51) #[] #[]] w0 (Yc λv w'=>v=.tuple #[]/\∃u v_:Tv,((Ke yT xT<0/\y=u/\x=v_)\/(¬Ke yT xT<0/\x=u/\y=v_))/\w'.heap[g]? = some (.cells #[J (u.k),I (u.t),.slice u.A u.n u.c,.slice u.B u.m u.e,J (v_.k),I (v_.t),.slice v_.A v_.n v_.c,.slice v_.B v_.m v_.e] 36)/\Same [g] w0 w'):=by
 refine Fa func126 O ntmps126 Ab (VC _ _ _ _) ?_;have hF:FR w0 [g] [(g,.cells #[J (x.k),I (x.t),.slice x.A x.n x.c,.slice x.B x.m x.e,J (y.k),I (y.t),.slice y.A y.n y.c,.slice y.B y.m y.e] 36)] w0:=FR.open_ (by intro q hq;rw[pQ.1 hq];exact⟨hg,by simp⟩) Oa;refine Ea (Ba (Za O) (Ba (Bi (((1:Nat):Int)) O O) (Ba (Fb O) (Da (Qa ?_)))));refine Fc (λμ σ w=>∃(i:Nat),∃(u:Tv),∃(v_:Tv),μ=2-i/\((i=1/\x=u/\y=v_)\/(i=2/\((Ke yT xT<0/\y=u/\x=v_)\/(¬Ke yT xT<0/\x=u/\y=v_))))/\AllEq σ [(0,W g 2 2),(1,J 0),(2,J 2),(3,.func (.func 51) #[] #[]),(8,J ((i:Int)))]/\FR w0 [g] [(g,.cells #[J (u.k),I (u.t),.slice u.A u.n u.c,.slice u.B u.m u.e,J (v_.k),I (v_.t),.slice v_.A v_.n v_.c,.slice v_.B v_.m v_.e] 36)] w) _ ⟨1,x,y,O,(.inl ⟨O,O,O⟩),Uq,hF⟩ ?_;rintro μ σ w ⟨i,u,v_,rfl,hst0,hs,hF⟩;refine Cg.slots hs ?_;clear hs;intro σ;refine Ga (Ea (Ba (Za O) (Ba (Za O) (Ba (Pg O O) (Da ?_)))));refine Jb O O (λhc0=>?_) (λhc0=>?_);refine Ka (Ha (Ga (Qa (Ga ?_))));obtain⟨rfl,rfl,rfl⟩:i=1/\x=u/\y=v_:=hst0.elim (λh=>h) (λh=>absurd hc0 (by have:=h.1;omega));refine Ja (Ba (Za O) (Ba (Fb O) (Da (Qa ?_))));refine Fc (λμ σ w=>∃(j:Nat),∃(u:Tv),∃(v_:Tv),μ=j+1/\((j=1/\x=u/\y=v_)\/(j=0/\y=u/\x=v_/\Ke yT xT<0))/\AllEq σ [(0,W g 2 2),(1,J 0),(2,J 2),(3,.func (.func 51) #[] #[]),(8,J (((1:Nat):Int))),(9,J ((j:Int)))]/\FR w0 [g] [(g,.cells #[J (u.k),I (u.t),.slice u.A u.n u.c,.slice u.B u.m u.e,J (v_.k),I (v_.t),.slice v_.A v_.n v_.c,.slice v_.B v_.m v_.e] 36)] w) _ ⟨1,x,y,O,(.inl ⟨O,O,O⟩),Du,hF⟩ ?_;rintro μ σ w ⟨j,u,v_,rfl,hst,hs,hF⟩;refine Cg.slots hs ?_;clear hs;intro σ;refine Ga (Ga ?_);refine De (zs:=.of []) (bQ [0,1,2,3,4,5,6,7,8,9,10,11,12,13] (.act 14 (.free 15 (.free 16 .nil)))) hF ?_;intro w hF;refine Ib O (Za O) (Ib O (Za O) (Ib O (Mo O O) (Ib O (Dc O) ?_)));refine Xp (d:=21) O (λhg0=>?_) (λhg0=>?_)
 obtain⟨rfl,rfl,rfl⟩:j=1/\x=u/\y=v_:=hst.elim (λh=>h) (λh=>absurd hg0 (by have:=h.1;omega));refine Ib O (Pu) (Ib O (Hd O) (Ib O (Za O) (Sa O (v:=.pointer (some ⟨g,4,none⟩)) (λw hC=>Ee (i:=((1:Nat):Int)) 4 Wf O O Ua Ua O) (Sa O (v:=.agg (y.cells).toArray) (λw hC=>Wa (l:=y.cells) aZ nZ O O (hC.part 0 4 O O)) (Ib O (Hd O) (Ib O (Za O) (Ib O (UN (0) O O) (Sa O (v:=V g) (λw hC=>Ee (i:=0) 0 Wf O O Ua Ua O) (Sa O (v:=.agg (x.cells).toArray) (λw hC=>Wa (l:=x.cells) aZ nZ O O (hC.part 0 0 O O)) ?_)))))))));refine Dd rfl (YP yT xT hsy hsx S S _ y.cells x.cells (hy.same hF.same (by intro b hb;rw[pQ.1 hb];exact hS)) (hx.same hF.same (by intro b hb;rw[pQ.1 hb];exact hS)) hky hkx (hG.same hF.same (λb hb=>by rw[pQ.1 hb];exact hgl))) (Nj rfl en_51 rfl rfl rfl) ?_;rintro _ w ⟨rfl,hE⟩;have hF:=hF.ext hE;refine⟨hF,?_⟩;refine Ib O (Pg O O) (Ib O (Rb O O) (Ic (Ha ?_)));refine Jb O O (λhc1=>?_) (λhc1=>?_);refine Ka (Ha (Ga (Qa ?_)));refine Md ⟨[15,17],λwq=>FR w0 [g] [] wq,[2,3,4,10,11,12]⟩ (bQ [0,1,2,3,4,5,6,7,8,9,10,11,12,13,14] (.act 15 (.free 16 (.act 17 .nil)))) hF ?_;rintro w hF -;refine⟨λwq=>FR w0 [g] _ wq,hF,?_⟩;refine Ib O (Hd O) (Ib O (Za O) (Ib O (Hd O) (Ib O (Za O) (Ib O (UN (0) O O) (Ib O (Hd O) (Ib O (Za O) (Ib O (UN (0) O O) (Sa O (v:=V g) (λw hC=>Ee (i:=0) 0 Wf O O Ua Ua O) (Sa O (v:=.agg (x.cells).toArray) (λw hC=>Wa (l:=x.cells) aZ nZ O O (hC.part 0 0 O O)) (Ib O (Hd O) (Ib O (Za O) ?_)))))))))));refine Tt O (v:=.pointer (some ⟨g,4,none⟩)) (λw hC=>Ee (i:=((1:Nat):Int)) 4 Wf O O Ua Ua O) (λw hC=>Ee (i:=((1:Nat):Int)) 4 Wf O O Ua Ua O) (Sa O (v:=.agg (y.cells).toArray) (λw hC=>Wa (l:=y.cells) aZ nZ O O (hC.part 0 4 O O)) (Sa O (v:=.pointer (some ⟨g,4,none⟩)) (λw hC=>Ee (i:=((1:Nat):Int)) 4 Wf O O Ua Ua O) ?_));refine Bs 0 (l:=[J (x.k),I (x.t),.slice x.A x.n x.c,.slice x.B x.m x.e]) (cs':=#[J (x.k),I (x.t),.slice x.A x.n x.c,.slice x.B x.m x.e,J (x.k),I (x.t),.slice x.A x.n x.c,.slice x.B x.m x.e]) hF nZ O (v:=.agg (x.cells).toArray) O O Sl O Ab O ?_ O
 rintro w hF -;refine⟨hF.mid 1 0,?_⟩;refine Sa O (v:=V g) (λw hC=>Ee (i:=0) 0 Wf O O Ua Ua O) (Bs 0 (l:=[J (y.k),I (y.t),.slice y.A y.n y.c,.slice y.B y.m y.e]) (cs':=#[J (y.k),I (y.t),.slice y.A y.n y.c,.slice y.B y.m y.e,J (x.k),I (x.t),.slice x.A x.n x.c,.slice x.B x.m x.e]) hF nZ O (v:=.agg (y.cells).toArray) O O Sl O Ab O ?_ O);rintro w hF -;refine⟨hF.mid 1 0,?_⟩;refine Ic (Ya (Ha (Ja (Ba (Za O) (Ba (UN (((0:Nat):Int)) O O) (Ba (Fb O) (Va ?_)))))));refine Ta ⟨_,?_,0,y,x,O,(.inr ⟨O,O,O,hc1⟩),Du,hF⟩;omega;refine Bc (Yb O ?_);refine Ya (Ha (Ja (Ba (Za O) (Ba (Bi (((2:Nat):Int)) O O) (Ba (Fb O) (Va ?_))))));refine Ta ⟨_,?_,2,x,y,O,(.inr ⟨O,.inr ⟨hc1,O,O⟩⟩),Uq,hF⟩;omega;refine Ub O (Ub O ?_);refine Ub O (Ub O ?_);refine Ub O (Ub O ?_);refine Ub O (Ub O ?_);refine Ub O (Ub O ?_);refine K2 O ?_ (hF);refine Ub O (Ib O (Pb O O) (Ic (Ha (Zd O ?_))));refine Bc (Yb O ?_);refine Ya (Ha (Ja (Ba (Za O) (Ba (Bi (((2:Nat):Int)) O O) (Ba (Fb O) (Va ?_))))));refine Ta ⟨_,?_,2,u,v_,O,(hst.elim (λh=>absurd (by have:=h.1;omega:(0:Int)<(j:Int)) hg0) (λh=>.inr ⟨O,.inl ⟨h.2.2.2,h.2.1,h.2.2.1⟩⟩)),Uq,hF⟩;omega;refine Bc (Yb O ?_);refine Kh (Ve (Zj O) ?_);have hst1:=hst0.elim (λh=>absurd (show (i:Int)<2 by have:=h.1;omega) hc0) (λh=>h.2);exact⟨O,u,v_,hst1,hF.heap (i:=0) O,hF.same⟩
theorem LV(g:Nat)(x y:Tv)(xT yT:Tree)(S:Nat->Prop)(hS:¬S g)(hgl:8<=g)(w0:World)(hg:w0.heap[g]? = some (.cells #[J (x.k),I (x.t),.slice x.A x.n x.c,.slice x.B x.m x.e,J (y.k),I (y.t),.slice y.A y.n y.c,.slice y.B y.m y.e] 36))(hx:Rep S w0 (Ob xT) x.cells)(hy:Rep S w0 (Ob yT) y.cells)(hsx:Nb xT<=1000000000)(hsy:Nb yT<=1000000000)(hkx:Tq xT)(hky:Tq yT)(hG:Gl w0):Calls prog 80 #[W g 2 2,J 2,.func (.func 51) #[] #[]] w0 (Yc λv w'=>v=.tuple #[]/\∃u v_:Tv,((Ke yT xT<0/\y=u/\x=v_)\/(¬Ke yT xT<0/\x=u/\y=v_))/\w'.heap[g]? = some (.cells #[J (u.k),I (u.t),.slice u.A u.n u.c,.slice u.B u.m u.e,J (v_.k),I (v_.t),.slice v_.A v_.n v_.c,.slice v_.B v_.m v_.e] 36)/\Same [g] w0 w'):=by
 refine Fa func80 O ntmps80 Ab (Ik _ _ _) ?_;have hF:FR w0 [g] [(g,.cells #[J (x.k),I (x.t),.slice x.A x.n x.c,.slice x.B x.m x.e,J (y.k),I (y.t),.slice y.A y.n y.c,.slice y.B y.m y.e] 36)] w0:=FR.open_ (by intro q hq;rw[pQ.1 hq];exact⟨hg,by simp⟩) Oa;refine Ea (Ba (Fb O) (Lb (Ba (Za O) (Ba (Fb O) (Ba (Fb O) (Da (Ga (Qa ?_))))))));refine Fc (λμ σ w=>μ=0/\AllEq σ [(0,W g 2 2),(1,J 2),(2,.func (.func 51) #[] #[]),(6,J 20),(7,J 0),(8,J 20)]/\FR w0 [g] [(g,.cells #[J (x.k),I (x.t),.slice x.A x.n x.c,.slice x.B x.m x.e,J (y.k),I (y.t),.slice y.A y.n y.c,.slice y.B y.m y.e] 36)] w) _ ⟨O,Du,hF⟩ ?_;rintro μ σ w ⟨rfl,hs,hF⟩;refine Cg.slots hs ?_;clear hs;intro σ;refine Ga (Ea (Ba (Za O) (Ba (Za O) (Ba (EB O O) (Da ?_)))));refine Zd (by rfl) (Bc (Yb O ?_));refine Ha (Ea (Ba (Hd O) (Ba (Za O) (Ba (Za O) (Ba (Pu) ?_)))));refine Eb (ins2_c g x y xT yT S hS hgl _ (hF.heap (i:=0) rfl) (hx.same hF.same (by intro b hb;rw[pQ.1 hb];exact hS)) (hy.same hF.same (by intro b hb;rw[pQ.1 hb];exact hS)) hsx hsy hkx hky (hG.same hF.same (λb hb=>by rw[pQ.1 hb];exact hgl))) (MR en_126 rfl rfl rfl rfl rfl) ?_;rintro _ w ⟨rfl,u,v_,hst1,hg1,hE⟩;have hF:=hF.change 0 rfl hE hg1;clear hE hg1;refine Da (Qa ?_);refine Fc (λμ σ w=>μ=0/\AllEq σ [(0,W g 2 2),(1,J 2),(2,.func (.func 51) #[] #[]),(6,J 20)]/\FR w0 [g] [(g,.cells #[J (u.k),I (u.t),.slice u.A u.n u.c,.slice u.B u.m u.e,J (v_.k),I (v_.t),.slice v_.A v_.n v_.c,.slice v_.B v_.m v_.e] 36)] w) _ ⟨O,Jj,hF⟩ ?_;rintro μ σ w ⟨rfl,hs,hF⟩;refine Cg.slots hs ?_;clear hs;intro σ;refine Ga (Ea (Ba (Za O) (Ba (Za O) (Ba (Pg O O) (Da ?_)))));refine Zd (by rfl) (Bc (Yb O ?_));refine Kh (Ve (Zj O) ?_);exact⟨O,u,v_,hst1,hF.heap (i:=0) O,hF.same⟩
theorem sort2_c(g:Nat)(x y:Tv)(xT yT:Tree)(S:Nat->Prop)(hS:¬S g)(hgl:8<=g)(w0:World)(hg:w0.heap[g]? = some (.cells #[J (x.k),I (x.t),.slice x.A x.n x.c,.slice x.B x.m x.e,J (y.k),I (y.t),.slice y.A y.n y.c,.slice y.B y.m y.e] 36))(hx:Rep S w0 (Ob xT) x.cells)(hy:Rep S w0 (Ob yT) y.cells)(hsx:Nb xT<=1000000000)(hsy:Nb yT<=1000000000)(hkx:Tq xT)(hky:Tq yT)(hG:Gl w0):Calls prog 50 #[W g 2 2,.func (.func 51) #[] #[]] w0 (Yc λv w'=>v=.tuple #[]/\∃u v_:Tv,((Ke yT xT<0/\y=u/\x=v_)\/(¬Ke yT xT<0/\x=u/\y=v_))/\w'.heap[g]? = some (.cells #[J (u.k),I (u.t),.slice u.A u.n u.c,.slice u.B u.m u.e,J (v_.k),I (v_.t),.slice v_.A v_.n v_.c,.slice v_.B v_.m v_.e] 36)/\Same [g] w0 w'):=by
 refine Fa func50 O ntmps50 Ab (Uc _ _) ?_;have hF:FR w0 [g] [(g,.cells #[J (x.k),I (x.t),.slice x.A x.n x.c,.slice x.B x.m x.e,J (y.k),I (y.t),.slice y.A y.n y.c,.slice y.B y.m y.e] 36)] w0:=FR.open_ (by intro q hq;rw[pQ.1 hq];exact⟨hg,by simp⟩) Oa;refine Ja (Ba (Hd O) (Ba (Hd O) (Ba (Nf dX O) (Ba (Pu) ?_))));refine Eb (LV g x y xT yT S hS hgl _ (hF.heap (i:=0) rfl) (hx.same hF.same (by intro b hb;rw[pQ.1 hb];exact hS)) (hy.same hF.same (by intro b hb;rw[pQ.1 hb];exact hS)) hsx hsy hkx hky (hG.same hF.same (λb hb=>by rw[pQ.1 hb];exact hgl))) (Af en_80 rfl rfl rfl rfl) ?_;rintro _ w ⟨rfl,u,v_,hst1,hg1,hE⟩;have hF:=hF.change 0 rfl hE hg1;clear hE hg1;refine Va (Kh (Ve (Zj O) ?_));exact⟨O,u,v_,hst1,hF.heap (i:=0) O,hF.same⟩
def UY(s:Str)(l:List Nd)(z:Int):Str:=match l[z.toNat]? with|none=>[]|some y=>(Ue (Gd s y.kf y.kt)).1
def Zs(s:Str)(l:List Nd)(d:Nat)(x:Nd)(j:Nat):List Str × List Tree:=(if x.k=6 then (x.kids.take j).map (UY s l) else [],(x.kids.take j).map λz=>Tp s l (d-1) z.toNat)
theorem Aq{α:Type}{p:α->Bool}:∀{l:List α}{j:Nat},(∀z∈l.take j,p z=true)->(∀h:j<l.length,p l[j]=false)->l.takeWhile p=l.take j
  | [],j,_,_=>by simp
  | a :: l, 0, _, h => by
    have:=h (Nat.succ_pos _);simp only[List.getElem_cons_zero]at this;rw[List.takeWhile_cons_of_neg (by rw[this];decide),List.take_zero]
  | a :: l, j + 1, h1, h2 => by
    rw[List.take_succ_cons]at h1 ⊢;rw[List.takeWhile_cons_of_pos (h1 a List.mem_cons_self),Aq (λz hz=>h1 z (List.mem_cons_of_mem _ hz)) λh=>by
      have:=h2 (Nat.succ_lt_succ h);simpa using this]
def inN(l:List Nd)(z:Int):Prop:=0<=z/\z<(l.length:Int)
theorem Xs{s:Str}{l:List Nd}{d k j:Nat}(hk:k<l.length)(h1:∀z∈l[k].kids.take j,inN l z)(h2:∀h:j<l[k].kids.length,¬inN l l[k].kids[j]\/d=0)(h3:0<j->0<d) :
    Tp s l d k=.node l[k].k (Nk l[k].k (Gd s l[k].f l[k].t)) (Zs s l d l[k] j).1 (Zs s l d l[k] j).2:=by
  have e:l[k]? = some l[k]:=List.getElem?_eq_getElem hk;cases d with
  | zero =>
    have hj:j=0:=by
      rcases Nat.eq_zero_or_pos j with h|h
      ·exact h
      have:=h3 h;omega
    subst hj;rw[Tp,e];simp[Zs]
  | succ d =>
    have hw:l[k].kids.takeWhile (λj:Int=>decide (0<=j)&&decide (j<(l.length:Int)))=l[k].kids.take j:=Aq
      (λz hz=>by have:=h1 z hz;unfold inN at this;simp[this]) λh=>by
        rcases h2 h with h|h
        ·unfold inN at h
         rw[Bool.and_eq_false_iff,decide_eq_false_iff_not,decide_eq_false_iff_not];omega
        cases h
    rw[Tp,e];simp only[hw];rfl
theorem acc_six{s:Str}{l:List Nd}{d j:Nat}{x:Nd}(h:x.k=6)(hj:j<x.kids.length):Zs s l d x (j+1)=((Zs s l d x j).1++[UY s l x.kids[j]],(Zs s l d x j).2++[Tp s l (d-1) x.kids[j].toNat]):=by
  unfold Zs;rw[if_pos h,if_pos h,iQ hj];simp only[jQ,List.map_cons,List.map_nil]
theorem acc_not{s:Str}{l:List Nd}{d j:Nat}{x:Nd}(h:¬x.k=6)(hj:j<x.kids.length):Zs s l d x (j+1)=((Zs s l d x j).1,(Zs s l d x j).2++[Tp s l (d-1) x.kids[j].toNat]):=by
  unfold Zs;rw[if_neg h,if_neg h,iQ hj];simp only[jQ,List.map_cons,List.map_nil]
theorem acc_zero(s:Str)(l:List Nd)(d:Nat)(x:Nd):Zs s l d x 0=([],[]):=by unfold Zs;simp
theorem PB(hr:∀n,(Ai n).length<=4)(t:Str):∀(f at_:Nat)(out:Str),(Wq f t at_ out).1.length<=out.length+4*f
  | 0,at_,out=>by rw[Wq];exact Nat.zero_le _
  | f + 1, at_, out => by
    rw[Wq];split
    ·split
     ·simp only;omega
     split
     ·exact Nat.zero_le _
     have := PB hr t f (at_ + (Ql (t.drop at_)).2) (out ++ Ai (Ql (t.drop at_)).1);rw[dQ]at this;have:=hr (Ql (t.drop at_)).1;omega
    exact Nat.zero_le _
theorem X0(hr:∀n,(Ai n).length<=4)(t:Str):(Ue t).1.length<=4*t.length:=by
  have h:(Lf t 0).1.length<=4*t.length:=by
    unfold Lf;split
    ·have := PB hr t (t.length-0) (0 + 1) []
     simp only[List.length_nil]at this;omega
    exact Nat.zero_le _
  unfold Ue;split
  ·exact Nat.zero_le _
  exact h
theorem V8(x:Num):(Rg x).length<=1100:=by
  by_cases h:Lc x=true
  ·have hr := Wc h
   have hi:=Lib.itoa_length_le x.exp Aa Aa;unfold Rg;split
   ·simp
   split
   ·simp
   rw[dQ];have h1:(if x.neg=true then 45::x.digits else x.digits).length<=1001:=by split <;> (try simp) <;> omega
   have h2:(if x.exp≠0 then 101::Lib.itoa x.exp else []).length<=22:=by split <;> (try simp) <;> omega
   omega
  unfold Rg;rw[if_pos (by simpa using h)];exact Nat.zero_le _
theorem Ww(k:Int)(s:Str):(Nk k s).length<=4*s.length+1100:=by
  unfold Nk;split
  ·omega
  split
  ·have:=V8 (Kc s).1;omega
  split
  ·have:=X0 (λn=>(Aj n).2) s;omega
  exact Nat.zero_le _
theorem Qm(s:Str)(f t:Nat):(Gd s f t).length<=s.length:=by
  unfold Gd;split
  ·rw[List.length_drop,List.length_take];omega
  exact Nat.zero_le _
theorem keyF_len(s:Str)(l:List Nd)(z:Int):(UY s l z).length<=4*s.length:=by
  unfold UY;split
  ·exact Nat.zero_le _
  rename_i y _
  have:=X0 (λn=>(Aj n).2) (Gd s y.kf y.kt);have:=Qm s y.kf y.kt;omega
theorem keyF_at{s:Str}{l:List Nd}{q:Nat}(h:q<l.length):UY s l (q:Int)=(Ue (Gd s l[q].kf l[q].kt)).1:=by
  unfold UY;rw[Int.toNat_natCast,List.getElem?_eq_getElem h]
theorem J0{s:Str}{l:List Nd}{d j:Nat}{x:Nd}:∀y∈(Zs s l d x j).1,y.length<=4*s.length:=by
  unfold Zs;intro y hy;split at hy
  ·obtain⟨z, _, rfl⟩ := nQ.1 hy
   exact keyF_len s l z
  cases hy
theorem acc_len{s:Str}{l:List Nd}{d j:Nat}{x:Nd}(hj:j<=x.kids.length):(Zs s l d x j).1.length<=j/\(Zs s l d x j).2.length=j:=by
  unfold Zs;refine⟨?_,by simp;omega⟩;dsimp only;split
  ·simp;omega
  exact Nat.zero_le _
structure CfP (c:Cf):Prop where
  ok:CfOk c
  sz:Nb c.b.val+Nb c.l.val+Nb c.r.val<=100000000
  mb:Kd c.b.val<=1073741824
  ml:Kd c.l.val<=1073741824
  mr:Kd c.r.val<=1073741824
theorem W6{s:Sd}(h:Kd s.val<=1073741824):Kd (Ud s)<=1073741824:=by
  unfold Ud;split <;> simp[Kd,Rk,Mk,h]
theorem Ey{x y:Tree}{q:Tree->Prop}(hx:q x)(hy:q y):q (Qo x y).1/\q (Qo x y).2:=by
  unfold Qo;split
  ·exact⟨hy,hx⟩
  exact⟨hx,hy⟩
theorem EE{k:Int}(h:1<=k/\k<=6):(Rg (Kw k)).length<=1073741824:=by
  have:=V8 (Kw k);omega
theorem BB{c:Cf}(h:CfP c)(hk:1<=c.cls/\c.cls<=6):Nb (Po c)<=1000000000/\Kd (Po c)<=1073741824:=by
  have hb:=Ip h.ok.b;have hl:=Ip h.ok.l;have hr:=Ip h.ok.r;have hs:=h.sz;have e:Nb (Qo (Ud c.l) (Ud c.r)).1+Nb (Qo (Ud c.l) (Ud c.r)).2=Nb (Ud c.l)+Nb (Ud c.r):=by unfold Qo;split <;> simp only <;> omega
  have hm:=Ey (q:=λt=>Kd t<=1073741824) (W6 h.ml) (W6 h.mr);have hw:=W6 h.mb;have hc:=EE hk;unfold Po Y_;refine⟨?_,?_⟩
  ·simp only[Nb,Ec];omega
  simp only[Kd, Rk, Mk, List.length_nil];omega
theorem loHi_rep{S:Nat->Prop}{w:World}{xT yT:Tree}{x y u v:Tv}(h:(Ke yT xT<0/\y=u/\x=v)\/(¬Ke yT xT<0/\x=u/\y=v))(hx:Rep S w (Ob xT) x.cells)(hy:Rep S w (Ob yT) y.cells):Rep S w (Ob (Qo xT yT).1) u.cells/\Rep S w (Ob (Qo xT yT).2) v.cells:=by
  unfold Qo;rcases h with ⟨h,rfl,rfl⟩|⟨h,rfl,rfl⟩
  ·rw[if_pos h];exact⟨hy,hx⟩
  rw[if_neg h];exact⟨hx,hy⟩
theorem Rep.anyS{S:Nat->Prop}{w:World}{d:D}{cs:List Value}(h:Rep S w d cs):Rep (λ_=>True) w d cs:=h.weaken λ_ _ _=>trivial
theorem D6(c:Cf)(q:Cv)(S:Nat->Prop)(w0:World)(hq:CvOf S w0 c q)(hP:CfP c)(hG:Gl w0):Calls prog 18 #[.agg q.cells.toArray] w0 (Yc λv w'=>v=.tuple #[I ((Uf c).1),.bool (Uf c).2]/\Same [] w0 w'):=by
 refine Fa func18 O ntmps18 Ab (Wb _) ?_;have hF:=FR.start w0 [];refine Ea (Ce hF O ?_);rintro b1 w hb1 hF -;refine Ba (He O) (Ba (Kb O) (Da (Ga (Ea (Xb (Bf fZ pZ O hF.F 0 O O) ?_)))));refine Pa hF (rightC_c c q S _ ⟨hq.n,hq.k,hF.rep hq.p,hF.rep hq.x,hF.rep hq.y,hF.rep hq.z⟩ hP.ok (hG.ext hF.same)) (Ma en_49 O O) ?_;intro w hF;refine Ba (Di O) (Da ?_);refine Jd O O (λhc0=>?_) (λhc0=>?_);have h0:Jk c=false:=by simpa using hc0
 refine Ea (Ba (He O) (Ba (Kb O) (Da ?_)));refine Db (Cb (La (Oc (v:=I []) (x:=.bool false) O O O) ?_));have e:Uf c=([],false):=by unfold Uf;rw[if_neg (by rw[h0];decide)]
 rw[e];exact⟨O,hF.same⟩;have h0:Jk c=true:=by simpa using hc0
 have hkc:1<=c.cls/\c.cls<=6:=by unfold Jk at h0;simp only[Bool.and_eq_true,decide_eq_true_eq]at h0;exact h0.2.2.2
 refine Ka (Ha (Ga ?_));refine De (zs:=.of []) (bQ [0,1,3,4] (cQ [2,5,6] (.free 7 .nil))) hF ?_;intro w hF;refine Ib O (Mb Bu O) (Sa O (v:=.agg (q.y.cells).toArray) (λw hC=>Wa (l:=q.y.cells) cZ oZ O O (hC.part 0 7 O O)) (Ib O (Mb Dt O) (Sa O (v:=.agg (q.z.cells).toArray) (λw hC=>Wa (l:=q.z.cells) cZ oZ O O (hC.part 0 12 O O)) ?_)));refine Dd O (Sw c.l q.y S _ (hF.rep hq.y)) (Ma BT O O) ?_;rintro _ w ⟨ct,rfl,hXl,hE⟩;obtain⟨xl,rfl,-⟩:=Vg hXl;have hF:=hF.ext hE;have hXl:=hXl.low;refine⟨hF,?_⟩;refine Dd O (Sw c.r q.z S _ (hF.rep hq.z)) (Ma BT O O) ?_;rintro _ w ⟨ct,rfl,hXr,hE⟩;obtain⟨xr,rfl,-⟩:=Vg hXr;have hF:=hF.ext hE;have hXl:=(hXl.ext hE).low;have hXr:=hXr.low;obtain⟨N,hN⟩:∃N,N=w.heap.size:=⟨_,rfl⟩;rw[<-hN]at hXl hXr;refine⟨hF,?_⟩;refine Jf 2 O hF (Gb (cs:=#[J (xl.k),I (xl.t),.slice xl.A xl.n xl.c,.slice xl.B xl.m xl.e,J (xr.k),I (xr.t),.slice xr.A xr.n xr.c,.slice xr.B xr.m xr.e]) dX nZ oX Ua Ua Qb) ?_;intro b2 w hb2 hF hE;have hXl:=hXl.ext hE;have hXr:=hXr.ext hE;refine⟨hF.drop 1,?_⟩;refine Ib O (Yi O) (Ic (Ha (Ea (Ba (Hd O) ?_))));refine Eb (sort2_c b2 xl xr (Ud c.l) (Ud c.r) (λx=>x<N) Aa (by have:=hG.size;have:=hF.ge (i:=0) O;omega) _ (hF.heap (i:=0) O) hXl hXr (by have:=(Ip hP.ok.l).2;have:=hP.ok.l.sz;have:=hP.sz;omega) (by have:=(Ip hP.ok.r).2;have:=hP.ok.r.sz;have:=hP.sz;omega) (Ip hP.ok.l).1 (Ip hP.ok.r).1 (hG.ext hF.same)) (Xa en_50 O O O) ?_;rintro _ w ⟨rfl,u,v_,hst1,hg1,hE⟩;have hNb:∀x∈[b2],¬x<N:=λx hx=>by rw[pQ.1 hx];omega
 have hXl:=hXl.same hE hNb;have hXr:=hXr.same hE hNb;have hF:=hF.change 0 rfl hE hg1;clear hE hg1 hNb;obtain⟨hXu,hXv⟩:=loHi_rep hst1 hXl hXr;clear hXl hXr;refine Da (Ga ?_);refine Md (.of []) (bQ [0,1,3,4,6,7,8,9,10,11] (cQ [2,5,12,13,14] (bQ [15,16,17,18,19] .nil))) hF ?_;intro w hF hE;have hXu:=hXu.ext hE;have hXv:=hXv.ext hE;refine⟨λwq=>FR w0 [] _ wq,hF,?_⟩;refine Ib O (Mb Li O) (Ng O (Zg xQ O C0 1 O O) (Ib O (Mb Ct O) (Sa O (v:=.agg (q.x.cells).toArray) (λw hC=>Wa (l:=q.x.cells) cZ oZ O O (hC.part 1 2 O O)) (Ib O (Hd O) (Sa O (v:=V b2) (λw hC=>Ee (i:=0) 0 Wf O O Ua Ua O) (Sa O (v:=.agg (u.cells).toArray) (λw hC=>Wa (l:=u.cells) aZ nZ O O (hC.part 0 0 O O)) (Ib O (Hd O) (Sa O (v:=.pointer (some ⟨b2,4,none⟩)) (λw hC=>Ee (i:=1) 4 Wf O O Ua Ua O) (Sa O (v:=.agg (v_.cells).toArray) (λw hC=>Wa (l:=v_.cells) aZ nZ O O (hC.part 0 4 O O)) ?_)))))))));refine Dd O (GC q.k (by have:=hq.k;omega) (by have:=hq.k;omega) _ (hG.ext hF.same)) (Ma AB O O) ?_;rintro _ w ⟨rfl,hE⟩;have hF:=hF.ext hE;have hXu:=hXu.ext hE;have hXv:=hXv.ext hE;refine⟨hF,?_⟩;refine Dd O (Sw c.b q.x S _ (hF.rep hq.x)) (Ma BT O O) ?_;rintro _ w ⟨ct,rfl,hXb,hE⟩;obtain⟨xb,rfl,-⟩:=Vg hXb;have hF:=hF.ext hE;have hXu:=hXu.ext hE;have hXv:=hXv.ext hE;refine⟨hF,?_⟩;refine Jf 4 O hF (Gb (cs:=#[J 3,I (Rg (Kw q.k)),aQ,aQ,J (xb.k),I (xb.t),.slice xb.A xb.n xb.c,.slice xb.B xb.m xb.e,J (u.k),I (u.t),.slice u.A u.n u.c,.slice u.B u.m u.e,J (v_.k),I (v_.t),.slice v_.A v_.n v_.c,.slice v_.B v_.m v_.e]) dX nZ oX Ua Ua Qb) ?_;intro b3 w hb3 hF hE;have hXu:=hXu.ext hE;have hXv:=hXv.ext hE;have hXb:=hXb.ext hE;refine⟨hF.drop 1,?_⟩;refine Dd O (JJ (some ⟨b3,0,none⟩) 4 4 _) (Ma SJ O O) ?_;rintro _ w ⟨rfl,hE⟩;have hF:=hF.ext hE;have hXu:=hXu.ext hE;have hXv:=hXv.ext hE
 have hXb:=hXb.ext hE;refine⟨hF.drop 1,?_⟩;have hNum:Rep (λ_=>True) w (Ob (Y_ c.cls)) [J 3,I (Rg (Kw q.k)),aQ,aQ]:=by rw[hq.k];exact OG 3 (Rg (Kw c.cls)) ⟨by decide,by decide⟩ (by have:=EE hkc;omega) _
 have hrow:Rep (λx=>True\/x=b3) _ (.slice ([Y_ c.cls,Ud c.b,(Qo (Ud c.l) (Ud c.r)).1,(Qo (Ud c.l) (Ud c.r)).2].map Ob)) _:=hF.rowS 0 rfl (n:=4) (RepL.cons_mk hNum (RepL.cons_mk hXb.anyS (RepL.cons_mk hXu.anyS (RepL.cons_mk (c2:=[]) hXv.anyS RepL.nil_mk)))) rfl Aa;have hX:Rep (λ_=>True) _ (Ob (Po c)) [J 5,I [],aQ,W b3 4 4]:=Rep.tree_mk (ks:=[]) (xs:=[Y_ c.cls,Ud c.b,(Qo (Ud c.l) (Ud c.r)).1,(Qo (Ud c.l) (Ud c.r)).2]) ⟨by decide,by decide⟩ Oa (Rep.nil_slice 0 Aa none) (by rw[Je];exact hrow.anyS);refine Dd O (DU (Po c) (λ_=>True) _ _ hX (hG.ext hF.same) (BB hP hkc).1 (BB hP hkc).2) (Ma en_38 O O) ?_;rintro _ w ⟨rfl,hE⟩;have hF:=hF.ext hE;have hXu:=hXu.ext hE;have hXv:=hXv.ext hE;have hXb:=hXb.ext hE;refine⟨hF.drop 1,?_⟩;refine Ib O (Mj O) (Ib O (Ly O O) (Ib O (Rj O O) (Ib O (He O) (Ib O (Fb O) (Ic (Ha (Ea (Ba (Ad O) (Ba (Za O) (Ba (Of O O) (Ba (He O) (Ba (Kb O) ?_))))))))))));refine Da (Db (Cb (La (Oc (v:=I (Sm (Ae (Po c)))) (x:=.bool _) O O O) ?_)));have e:Uf c=(Sm (Ae (Po c)),decide (Is (Ae (Po c))=0)):=by unfold Uf;rw[if_pos h0]
 rw[e];exact⟨O,hF.same⟩
end Go.Scarf
