/- A part of the proof. -/
import Derived.Test.YthhhbkkelnaekaaGreatDoorTd1
import Derived.Test.YthhhbkkelnaekaaGreatDoorTr
import Derived.Test.YthhhbkkelnaekaaGreatDoorMore
import Derived.Test.YthhhbkkelnaekaaGreatDoorFacts
import Derived.Test.YthhhbkkelnaekaaGreatDoorRow
import Derived.Test.YthhhbkkelnaekaaGreatDoorE9
set_option linter.all false
set_option maxHeartbeats 8000000
set_option maxRecDepth 10000
namespace Go.Scarf
open Go.RowKit Go.Proofs Go.Proofs.Tryz
theorem LG {α:Type} {a b:List α} {j:Nat} (h:∀ i (h:i < a.length) (h2:i < b.length),i < j→a[i]=b[i]) (hl:a.length=b.length) (hj:a.length≤j):a=b:=List.ext_getElem hl fun i h1 h2=>h i h1 h2 U
theorem E6 {α:Type} {a b:List α} {j:Nat} {h1:j < a.length} {h2:j < b.length} (hq:∀ i (h:i < a.length) (h2:i < b.length),i < j→a[i]=b[i]) (h:a[j]=b[j]):∀ i (h:i < a.length) (h2:i < b.length),i < j+1→a[i]=b[i]:=fun i h3 h4 h5=>by
  by_cases e:i=j
  · subst e; exact h
  · exact hq i h3 h4 U
theorem Sr (S S':Nat→Prop) (w0:World) (a b:List Int) (A B:Option Addr) (c e:Nat) (hX:Rep S w0 (.slice (a.map Ug)) [.slice A a.length c]) (hY:Rep S' w0 (.slice (b.map Ug)) [.slice B b.length e]):Calls prog 14 #[.slice A a.length c,.slice B b.length e] w0 (De fun v w'=>v=.bool (decide (a=b))∧Same [] w0 w'):=by
 have hXl:=hX.slice_len
 have hYl:=hY.slice_len
 rw [List.length_map] at hXl hYl
 refine Ka func14 O ntmps14 Kb (Ee _ _) ?_
 have hF:=FR.start w0 []
 refine Ia (Ca (Hc O) (Ea (Ha (Ia (Ca (Yd O) (Ca (Df underlying42 O) (Ca (Yd O) (Ca (Df underlying42 O) (Ca (Sq O O) (Xa ?_))))))))))
 refine Ga ?_
 refine Yb O O (fun hc0=>?_) (fun hc0=>?_)
 refine Ia (Ca (Hc O) (Ea ?_))
 refine Td (v:=.bool false) O O ?_
 exact ⟨congrArg Value.bool (decide_eq_false fun q=>by subst q; omega).symm,hF.same⟩
 refine Qa (Ga (Ha (Ia (Ca (Wb O) (Ea (Ta ?_))))))
 have hll:a.length=b.length:=by omega
 refine Lc (fun μ σ w=>∃ (j:Nat),μ=a.length - j∧(j≤a.length)∧(∀ i (h:i < a.length) (h2:i < b.length),i < j→a[i]=b[i])∧AllEq σ [(0,.slice A a.length c),(1,.slice B b.length e),(5,.int .i64 ((j:Int)))]∧FR w0 [] [] w) _ ⟨0,O,U,(fun i _ _ h=>by omega),Vp,hF⟩ ?_
 clear hF; rintro μ σ w ⟨j,rfl,hj,hq,hs,hF⟩
 refine Cg.slots hs ?_
 clear hs; intro σ
 refine Ha (Ia (Ca (Va O) (Ca (Yd O) (Ca (Df underlying42 O) (Ca (Yg O O) (Ea ?_))))))
 refine Yb O O (fun hc1=>?_) (fun hc1=>?_)
 refine Qa (Ga (Ha (Ta (Ha ?_))))
 refine Ff (zs:=[]) (.free 0 (.free 1 (.free 2 (.free 3 (.free 4 (.free 5 (.free 6 (.free 7 (.free 8 .nil))))))))) hF ?_
 clear hF; intro w hF
 refine Db O (Yd O) (Db O (Va O) ?_)
 obtain ⟨ad0,hA0,hk0,hx0⟩:=hX.int_elem (i:=j) U
 refine Oa O (v:=.pointer (some (ad0.add (j * 1)))) (fun w hC=>Pa (i:=(j:Int)) Nd O hA0 O U U) (Oa O (v:=.int .i64 (a[j])) (fun w hC=>Ya isAgg3 O (hC.cell0 hk0)) (Db O (Yd O) (Db O (Va O) ?_)))
 obtain ⟨ad1,hA1,hk1,hx1⟩:=hY.int_elem (i:=j) U
 refine Oa O (v:=.pointer (some (ad1.add (j * 1)))) (fun w hC=>Pa (i:=(j:Int)) Nd O hA1 O U U) (Oa O (v:=.int .i64 (b[j])) (fun w hC=>Ya isAgg3 O (hC.cell0 hk1)) (Db O (Sq O O) (Mc (Ga ?_))))
 refine Yb O O (fun hc2=>?_) (fun hc2=>?_)
 refine Ia (Ca (Hc O) (Ea ?_))
 refine Td (v:=.bool false) O O ?_
 exact ⟨congrArg Value.bool (decide_eq_false fun q=>by subst q; exact absurd rfl (by assumption)).symm,hF.same⟩
 refine Qa (Eb (Ga (Fa (Ca (Va O) (Ca (If (((j+1:Nat):Int)) O O) (Ca (Wb O) (Xa ?_)))))))
 refine Ib ⟨_,?_,j+1,O,U,(E6 hq (Classical.not_not.1 (by assumption))),Vp,hF⟩
 omega
 refine Dc (Cc O ?_)
 refine Ga (Ia (Ca (Hc O) (Ea ?_)))
 refine Td (v:=.bool true) O O ?_
 exact ⟨congrArg Value.bool (decide_eq_true (LG hq hll U)).symm,hF.same⟩
end Go.Scarf
namespace Go.Scarf
open Go.RowKit Go.Proofs Go.Proofs.Tryz
section
variable {P:Program} {w:World}
theorem KF {ρ:Operand→Value} {dst:Option Nat} {ty:TypeId} {pos:String} {aft:Array Edge} {g:Option (Nat × Bool)} {t e sz:Nat} {x y:Operand} {A:Option Addr} {n c:Nat} {k:IntKind} (m:Nat) (ht:Vk P t e sz) (hx:ρ x=.slice A n c) (hy:ρ y=.int k (m:Int)) (hm:m≤c) :
    (execOp ρ ⟨dst,.slice t x none (some y) none,ty,pos,aft,g⟩).run P w=.ok (.value (.slice A m c)) w:=by
  have he:=V9 ht.1
  have ht':P.underlying t=some (.slice (P.elem t)):=by rw [he]; exact ht.1
  have h:=run_slice_h (P:=P) w t A n c ht' k m U U
  have hs:(sizeOf (P.elem t)).run P w=.ok sz w:=by rw [he]; exact ht.2 w
  rw [hs] at h
  have e1:sliced A 0 (m:Int).toNat c sz=.slice A m c:=by
    unfold sliced
    simp only [Int.toNat_natCast,Nat.zero_mul,Nat.sub_zero]
    split
    · rfl
    · cases A <;> simp [Vl]
  simp only [execOp,Option.map_none,Option.map_some,hx,hy,run_sliceAt_slice w t _ _ _ _ ht',Sem.run_bind,h,Result.andThen,e1]
  rfl
end
def CK (tp:List Nat):List Value:=tp.map fun i:Nat=>Value.int .i64 (i:Int)
theorem SlB.pop {e n m c:Nat} {A:Option Addr} {xs ys:List Value} {v:Value} {sb:List (Nat × Obj)} (h:SlB e 1 A n c xs sb) (hx:xs=ys++[v]) (hn:n=m+1):SlB e 1 A m c ys sb:=by
  subst hn
  obtain ⟨h1,h2⟩:=h
  rw [hx,List.length_append,List.length_singleton] at h1
  refine ⟨by omega,.inr ?_⟩
  rcases h2 with ⟨h3,-⟩ | ⟨g,cur,h3,h4,h5,h6,h7,h8⟩
  · omega
  · refine ⟨g, cur, h3, h4, by omega, h6, h7, ?_⟩
    have e1:(cur.toList.take ((m+1) * 1)).take (m * 1)=cur.toList.take (m * 1):=by rw [List.take_take]; congr 1; omega
    rw [←e1,h8,hx,List.take_left']
    omega
theorem FQ {w0 w:World} {Ds:List Nat} {pre post sb:List (Nat × Obj)} {e n c:Nat} {A:Option Addr} {xs:List Value} (hS:SlB e 1 A n c xs sb) (hF:FR w0 Ds (pre++(sb++post)) w) (j:Nat) {u:Value} (hu:xs[j]? = some u) :
    ∃ ad,A=some ad∧w.cell? (ad.add (j * 1))=some u:=by
  have hA:∃ ad,A=some ad:=by
    rcases hS.2 with ⟨h1,-⟩ | ⟨g,cur,hA,-⟩
    · have h2 := hS.1
      have:=(List.getElem?_eq_some_iff.1 hu).1
      omega
    · exact ⟨_,hA⟩
  obtain ⟨ad,hA⟩:=hA
  exact ⟨ad,hA,by rw [Nat.mul_one]; exact hS.cells hF ad hA j u hu⟩
theorem XS {tp:List Nat} (h:0 < tp.length):∃ l r,tp=l++[r]:=by
  cases hr:tp.reverse with
  | nil =>
    have e:tp=[]:=by simpa using hr
    subst e; simp at h
  | cons r l=>exact ⟨l.reverse,r,by have:=congrArg List.reverse hr; simpa using this⟩
theorem IB (l:List Nat) (r:Nat):(CK (l++[r]))[l.length]? = some (.int .i64 (r:Int)):=by simp [CK]
theorem QK (S:Nat→Prop) (w0:World) (la:List Str) (fa:List Int) (Aa Ba:Option Addr) (ca ea:Nat) (hLa:Rep S w0 (Hf la) [.slice Aa la.length ca]) (hNa:Rep S w0 (.slice (fa.map Ug)) [.slice Ba fa.length ea]):Calls prog 128 #[.agg #[.slice Aa la.length ca,.slice Ba fa.length ea]] w0 (De fun v w'=>∃ (A:Option Addr) (n c:Nat) (b:Bool),v=.tuple #[.slice A n c,.bool b]∧(b=true↔Xh la fa)∧Same [] w0 w'):=by
 have hLla:=hLa.slice_len
 have hNla:=hNa.slice_len
 rw [List.length_map] at hLla hNla
 refine Ka func128 O ntmps128 Kb (Sc _) ?_
 have hF:=FR.start w0 []
 refine Ia ?_
 refine Bh hF O ?_
 clear hF; rintro b1 w hb1 hF -
 refine Ca (Sh O) (Ca (Hc O) (Ea (Ha (Ia (Ca (Ec Xc O) (Tc (Mf isAgg25 O hF.F 0 O O) (Ca (Df underlying25 O) (Ca (Ec Qd O) (Tc (Mf isAgg42 O hF.F 0 O O) (Ca (Df underlying42 O) (Ca (Sq O O) ?_)))))))))))
 refine Ca (Jc O) ?_
 refine Hb (d:=16) O (fun hg0=>?_) (fun hg0=>?_)
 refine Da (Da (Da (Da (Ca (Ic O O) (Ea (Ae O (Ia (Ca (Sh O) (Ca (Hc O) (Ea ?_))))))))))
 refine Ub (Rb (Sa (Ld (v:=.slice _ _ _) (x:=.bool false) O O O) ?_))
 refine ⟨_,_,_,false,O,⟨fun h=>(by cases h),fun h=>?_⟩,hF.same⟩
 exfalso
 have:=h.1
 have:=h.2.1
 omega
 refine Ca (Ec Xc O) (Tc (Mf isAgg25 O hF.F 0 O O) (Ca (Df underlying25 O) (Ca (Ho O O) (Ca (Gc O O) (Ea ?_)))))
 refine Yb O O (fun hc0=>?_) (fun hc0=>?_)
 refine Ia (Ca (Sh O) (Ca (Hc O) (Ea ?_)))
 refine Ub (Rb (Sa (Ld (v:=.slice _ _ _) (x:=.bool false) O O O) ?_))
 refine ⟨_,_,_,false,O,⟨fun h=>(by cases h),fun h=>?_⟩,hF.same⟩
 exfalso
 have:=h.1
 have:=h.2.1
 omega
 refine Qa (Ga (Ia (Ca (Ec Qd O) (Tc (Mf isAgg42 O hF.F 0 O O) (Ca (Df underlying42 O) ?_)))))
 refine St (v:=fun b=>.slice (some ⟨b,0,none⟩) fa.length fa.length) (o:=.cells (Mb (fa.length) fun _=>0) 3) hF (Mj Wh Qb O O U) ?_
 clear hF; rintro b2 w hb2 hF -
 refine Ca (Sh O) (Bc (Ca (Sh O) (Ea (Ha (Ha ?_)))))
 have hlf5:la.length=fa.length∧la.length≤512:=by omega
 replace hF:FR w0 [] ([(b2,.cells (Mb (fa.length) (fun _=>0)) 3),(b1,.cells #[.slice Aa la.length ca,.slice Ba fa.length ea] 56)]++([]++[])) w:=hF
 refine Fa (Ca (Ec Qd O) (Tc (Mf isAgg42 O hF.F 1 O O) (Ca (Df underlying42 O) (Ca (Va O) (Ea (Ta ?_))))))
 refine Lc (fun μ σ w=>∃ (j:Nat),∃ (tp:List Nat),∃ (A:Option Addr),∃ (c:Nat),∃ (sb:List (Nat × Obj)),∃ (f:Nat→Int),μ=fa.length - j∧(j≤fa.length)∧(lfOk fa j)∧(Rts fa j tp)∧(SlB 3 1 A tp.length c (CK tp) sb)∧AllEq σ [(1,.pointer (some ⟨b1,0,none⟩)),(4,.slice (some ⟨b2,0,none⟩) fa.length fa.length),(5,.slice A tp.length c),(27,.slice Ba fa.length ea),(28,.int .i64 ((fa.length:Nat))),(29,.int .i64 ((j:Int)))]∧FR w0 [] ([(b2,.cells (Mb (fa.length) (f)) 3),(b1,.cells #[.slice Aa la.length ca,.slice Ba fa.length ea] 56)]++(sb++[])) w) _ ⟨0,[],none,0,[],(fun _=>0),O,(Nat.zero_le _),(fun i _ h=>by omega),(.nil),(SlB.nil _ _),Iu,hF⟩ ?_
 clear hF; rintro μ σ w ⟨j,tp,A,c,sb,f,rfl,hj,hok,hrt,hS,hs,hF⟩
 refine Cg.slots hs ?_
 clear hs; intro σ
 refine Ia (Ca (Yg O O) (Ea (Ha ?_)))
 refine Yb O O (fun hc1=>?_) (fun hc1=>?_)
 refine Qa (Ga (Ha (Ta (Ia (Ca (Va O) ?_)))))
 obtain ⟨ad1,hA1,hk1,hx1⟩:=hNa.int_elem (i:=j) U
 refine Ja (v:=.pointer (some (ad1.add (j * 1)))) (Pa (i:=(j:Int)) Nd O hA1 O U U) (Ja (v:=.int .i64 (fa[j])) (Ya isAgg3 O (hF.cell0 hk1)) (Ca (Wb O) (Ca (Wb O) (Ea (Ha (Ia (Ca (Va O) (Ca (Yg O O) (Ca (Jc O) ?_)))))))))
 refine Hb (d:=36) O (fun hg2=>?_) (fun hg2=>?_)
 refine Da (Da (Da (Ca (Ic O O) (Ea (Ae O (Ia (Ca (Sh O) (Ca (Hc O) (Ea ?_)))))))))
 refine Ub (Rb (Sa (Ld (v:=.slice _ _ _) (x:=.bool false) O O O) ?_))
 refine ⟨_,_,_,false,O,⟨fun h=>(by cases h),fun h=>?_⟩,hF.same⟩
 exfalso
 have:=h.2.2 j U U
 omega
 refine Ca (Va O) (Ca (Va O) (Ca (Ho O O) (Ca (Gc O O) (Ea ?_))))
 refine Yb O O (fun hc2=>?_) (fun hc2=>?_)
 refine Ia (Ca (Sh O) (Ca (Hc O) (Ea ?_)))
 refine Ub (Rb (Sa (Ld (v:=.slice _ _ _) (x:=.bool false) O O O) ?_))
 refine ⟨_,_,_,false,O,⟨fun h=>(by cases h),fun h=>?_⟩,hF.same⟩
 exfalso
 have:=h.2.2 j U U
 omega
 refine Qa (Ga (Ha (Ta ?_)))
 refine Lc (fun μ σ w=>∃ (p:Nat),∃ (tp:List Nat),∃ (A:Option Addr),∃ (c:Nat),∃ (sb:List (Nat × Obj)),∃ (f:Nat→Int),μ=tp.length∧(fa[j]≤(p:Int)∧p≤j)∧(∀ z (hz:z < j),p≤z→fa[j]≤fa[z])∧(Rts fa p tp)∧(SlB 3 1 A tp.length c (CK tp) sb)∧AllEq σ [(1,.pointer (some ⟨b1,0,none⟩)),(4,.slice (some ⟨b2,0,none⟩) fa.length fa.length),(5,.slice A tp.length c),(6,.int .i64 ((j:Int))),(7,.int .i64 (fa[j])),(27,.slice Ba fa.length ea),(28,.int .i64 ((fa.length:Nat))),(29,.int .i64 ((j:Int)))]∧FR w0 [] ([(b2,.cells (Mb (fa.length) (f)) 3),(b1,.cells #[.slice Aa la.length ca,.slice Ba fa.length ea] 56)]++(sb++[])) w) _ ⟨j,tp,A,c,sb,f,O,U,(fun z hz h=>by omega),(hrt),(hS),K5,hF⟩ ?_
 clear hF; rintro μ σ w ⟨p,tp,A,c,sb,f,rfl,hp,hcl,hrt,hS,hs,hF⟩
 refine Cg.slots hs ?_
 clear hs; intro σ
 refine Ha (Ia (Ca (Yd O) (Ca (Df underlying42 O) (Ca (Ho O O) (Ca (Jc O) ?_)))))
 refine Hb (d:=44) O (fun hg3=>?_) (fun hg3=>?_)
 refine Ca (Yd O) (Ca (Yd O) (Ca (Df underlying42 O) ?_))
 obtain ⟨l,r,hlr⟩:=XS (tp:=tp) U
 have hlen:tp.length=l.length+1:=by rw [hlr]; simp
 have hlb5:l.length≤512:=by have:=Rts.len hrt; omega
 obtain ⟨hpr,hrl⟩:=Rts.last (hlr ▸ hrt)
 refine Ca (Hw ((l.length:Nat)) O O) ?_
 obtain ⟨adp,hAp,hkp⟩:=FQ (pre:=[(b2,.cells (Mb (fa.length) (f)) 3),(b1,.cells #[.slice Aa la.length ca,.slice Ba fa.length ea] 56)]) (post:=[]) hS hF l.length (u:=.int .i64 (r:Int)) (by rw [hlr]; exact IB l r)
 refine Ja (v:=.pointer (some (adp.add (l.length * 1)))) (Pa (i:=((l.length:Nat):Int)) Nd O hAp O U U) (Ja (v:=.int .i64 ((r:Nat))) (Ya isAgg3 O hkp) (Ca (Va O) (Ca (Rv O O) (Ca (Ic O O) (Ea ?_)))))
 refine Yb O O (fun hc3=>?_) (fun hc3=>?_)
 refine Qa (Ga (Ta (Ia (Ca (Yd O) (Ca (Yd O) (Ca (Df underlying42 O) (Ca (Hw ((l.length:Nat)) O O) ?_)))))))
 obtain ⟨adq,hAq,hkq⟩:=FQ (pre:=[(b2,.cells (Mb (fa.length) (f)) 3),(b1,.cells #[.slice Aa la.length ca,.slice Ba fa.length ea] 56)]) (post:=[]) hS hF l.length (u:=.int .i64 (r:Int)) (by rw [hlr]; exact IB l r)
 refine Ja (v:=.pointer (some (adq.add (l.length * 1)))) (Pa (i:=((l.length:Nat):Int)) Nd O hAq O U U) (Ja (v:=.int .i64 ((r:Nat))) (Ya isAgg3 O hkq) (Ca (Wb O) (Ea (Ha (Ia (Ca (Ec Qd O) (Tc (Mf isAgg42 O hF.F 1 O O) (Ca (Va O) ?_))))))))
 obtain ⟨ad4,hA4,hk4,hx4⟩:=hNa.int_elem (i:=r) U
 refine Ja (v:=.pointer (some (ad4.add (r * 1)))) (Pa (i:=(r:Nat)) Nd O hA4 O U U) (Ja (v:=.int .i64 (fa[r])) (Ya isAgg3 O (hF.cell0 hk4)) (Ca (Va O) (Ca (Yg O O) (Ea ?_))))
 refine Yb O O (fun hc4=>?_) (fun hc4=>?_)
 refine Ia (Ca (Sh O) (Ca (Hc O) (Ea ?_)))
 refine Ub (Rb (Sa (Ld (v:=.slice _ _ _) (x:=.bool false) O O O) ?_))
 refine ⟨_,_,_,false,O,⟨fun h=>(by cases h),fun h=>?_⟩,hF.same⟩
 exfalso
 have:=(h.2.2 j U U).2.2 r U U
 omega
 refine Qa (Ga ?_)
 refine Uc [] (.free 0 (.free 1 (.free 2 (.free 3 (.free 4 (.free 5 (.free 6 (.free 7 (.free 8 (.act 9 (.free 10 .nil))))))))))) hF ?_
 clear hF; rintro w hF -
 refine ⟨fun wq=>FR w0 [] [(b1,.cells #[.slice Aa la.length ca,.slice Ba fa.length ea] 56)] wq,hF.sub (.cons _ (.cons_cons _ (List.nil_sublist _))),?_⟩
 refine Db O (Yd O) (Db O (Va O) (Db O (Va O) (Db O (Yd O) (Db O (Yd O) (Db O (Df underlying42 O) (Db O (Hw ((l.length:Nat)) O O) ?_))))))
 refine Oa O (v:=.slice A l.length c) (fun w hC=>KF l.length Nd O O (by have:=hS.cap; omega)) ?_
 refine Oa O (v:=.pointer (some ⟨b2,r,none⟩)) (fun w hC=>Gb (i:=(r:Nat)) (r) Nd O O U U U) ?_
 refine Rm O 0 (l:=[.int .i64 ((j:Int))]) (cs':=Mb (fa.length) (Pf (f) (r) ((j:Int)))) hF sizeOf3 O (v:=.int .i64 ((j:Int))) O O Ed O (by rw [Xf]; simp only [List.length_singleton]; exact Nat.succ_le_of_lt U) (Bg _) ?_
 clear hF; rintro w hF -
 replace hF:FR w0 [] ([(b2,.cells (Mb (fa.length) (Pf (f) (r) ((j:Int)))) 3),_]++_) w:=hF
 refine ⟨hF.sub (.cons _ (.cons_cons _ (List.nil_sublist _))),?_⟩
 refine Db O (Sh O) (Mc (Eb ?_))
 have hat:=hok.at (j:=r) U U
 have hlr2:Li fa r≤r:=Nat.min_le_right _ _
 have hp2:fa[j]≤((Li fa r:Nat):Int)∧Li fa r≤j:=by constructor <;> omega
 refine Ib ⟨_,?_,Li fa r,l,A,c,sb,(Pf (f) (r) ((j:Int))),O,(hp2),(fun z hz hle=>if hzr:z≤r then hok.popped hj U U hle hzr else hcl z hz U),(hrl),(SlB.pop hS (by rw [hlr]; simp [CK]; rfl) hlen),K5,hF⟩
 omega
 refine Dc (Cc O ?_)
 refine Ga (Ha ?_)
 have hpe:(p:Int)=fa[j]:=by first | (have e0:tp=[]:=List.eq_nil_of_length_eq_zero U; have:=Rts.none (e0 ▸ hrt); omega) | omega
 refine Fa (Ca (Yd O) (Ca (Va O) (Ja (v:=.pointer (some ⟨b2,j,none⟩)) (Gb (i:=(j:Int)) (j) Nd O O U U U) ?_)))
 refine Me 0 (l:=[.int .i64 ((-1))]) (cs':=Mb (fa.length) (Pf (f) (j) ((-1)))) hF sizeOf3 O (v:=.int .i64 ((-1))) O O Ed O (by rw [Xf]; simp only [List.length_singleton]; exact Nat.succ_le_of_lt U) (Bg _) ?_
 clear hF; rintro w hF -
 replace hF:FR w0 [] ([(b2,.cells (Mb (fa.length) (Pf (f) (j) ((-1)))) 3),_]++_) w:=hF
 refine Ea (Fa (Ca (Yd O) (Ca (Va O) ?_)))
 refine Pe 1 hF (Za (cs:=#[.int .i64 ((j:Int))]) underlying42 sizeOf3 zeroValue3 Ua Ua Qb) ?_
 clear hF; rintro b3 w hb3 hF -
 refine Kf [(b3,.cells #[.int .i64 ((j:Int))] 3),(b2,.cells (Mb (fa.length) (Pf (f) (j) ((-1)))) 3),(b1,.cells #[.slice Aa la.length ca,.slice Ba fa.length ea] 56)] [] (news:=[.int .i64 ((j:Int))]) (len':=(tp++[j]).length) (ys:=CK (tp++[j])) Wh hF hS O O (O) (fun _=>⟨_,O,Xb (hF.cellsAll 0 O)⟩) (by simp [Value.oneCell']) (by have:=Rts.len hrt; simp only [maxLen]; omega) Ma (by simp [CK]) (by have:=Rts.len hrt; omega) ?_
 clear hF; intro A5 c5 o_5 w hS5_o hF hE hnew
 clear hE hnew
 refine Ca (Sh O) (Xa (Eb (Ga (Fa (Ca (If (((j+1:Nat):Int)) O O) (Ca (Va O) (Xa ?_)))))))
 have hok2:lfOk fa (j+1):=hok.snoc U U U (fun z hz hle=>hcl z hz U)
 have hlf:Li fa j=p:=by have:=hok2.at (j:=j) U U; omega
 have hrt2:Rts fa (j+1) (tp++[j]):=.snoc (by rw [hlf]; exact hrt)
 refine Ib ⟨_,?_,j+1,tp++[j],A5,c5,o_5,(Pf (f) (j) ((-1))),O,U,(hok2),(hrt2),(hS5_o),Iu,hF.drop 1⟩
 omega
 refine Da (Da (Da (Da (Da (Da (Da (Da (Ca (Gc O O) (Ea (Ie O ?_))))))))))
 refine Dc (Cc O ?_)
 refine Ga (Ha ?_)
 have hpe:(p:Int)=fa[j]:=by first | (have e0:tp=[]:=List.eq_nil_of_length_eq_zero U; have:=Rts.none (e0 ▸ hrt); omega) | omega
 refine Fa (Ca (Yd O) (Ca (Va O) (Ja (v:=.pointer (some ⟨b2,j,none⟩)) (Gb (i:=(j:Int)) (j) Nd O O U U U) ?_)))
 refine Me 0 (l:=[.int .i64 ((-1))]) (cs':=Mb (fa.length) (Pf (f) (j) ((-1)))) hF sizeOf3 O (v:=.int .i64 ((-1))) O O Ed O (by rw [Xf]; simp only [List.length_singleton]; exact Nat.succ_le_of_lt U) (Bg _) ?_
 clear hF; rintro w hF -
 replace hF:FR w0 [] ([(b2,.cells (Mb (fa.length) (Pf (f) (j) ((-1)))) 3),_]++_) w:=hF
 refine Ea (Fa (Ca (Yd O) (Ca (Va O) ?_)))
 refine Pe 1 hF (Za (cs:=#[.int .i64 ((j:Int))]) underlying42 sizeOf3 zeroValue3 Ua Ua Qb) ?_
 clear hF; rintro b4 w hb4 hF -
 refine Kf [(b4,.cells #[.int .i64 ((j:Int))] 3),(b2,.cells (Mb (fa.length) (Pf (f) (j) ((-1)))) 3),(b1,.cells #[.slice Aa la.length ca,.slice Ba fa.length ea] 56)] [] (news:=[.int .i64 ((j:Int))]) (len':=(tp++[j]).length) (ys:=CK (tp++[j])) Wh hF hS O O (O) (fun _=>⟨_,O,Xb (hF.cellsAll 0 O)⟩) (by simp [Value.oneCell']) (by have:=Rts.len hrt; simp only [maxLen]; omega) Ma (by simp [CK]) (by have:=Rts.len hrt; omega) ?_
 clear hF; intro A6 c6 o_6 w hS6_o hF hE hnew
 clear hE hnew
 refine Ca (Sh O) (Xa (Eb (Ga (Fa (Ca (If (((j+1:Nat):Int)) O O) (Ca (Va O) (Xa ?_)))))))
 have hok2:lfOk fa (j+1):=hok.snoc U U U (fun z hz hle=>hcl z hz U)
 have hlf:Li fa j=p:=by have:=hok2.at (j:=j) U U; omega
 have hrt2:Rts fa (j+1) (tp++[j]):=.snoc (by rw [hlf]; exact hrt)
 refine Ib ⟨_,?_,j+1,tp++[j],A6,c6,o_6,(Pf (f) (j) ((-1))),O,U,(hok2),(hrt2),(hS6_o),Iu,hF.drop 1⟩
 omega
 refine Dc (Cc O ?_)
 refine Ga (Ia (Ca (Yd O) (Ca (Sh O) (Ca (Hc O) (Ea ?_)))))
 refine Ub (Rb (Sa (Ld (v:=.slice _ _ _) (x:=.bool true) O O O) ?_))
 obtain rfl:j=fa.length:=by omega
 exact ⟨_,_,_,true,O,⟨fun _=>⟨hlf5.1,hlf5.2,hok⟩,fun _=>rfl⟩,hF.same⟩
theorem W2 (S:Nat→Prop) (w0:World) (la:List Str) (fa:List Int) (Aa Ba:Option Addr) (ca ea:Nat) (hLa:Rep S w0 (Hf la) [.slice Aa la.length ca]) (hNa:Rep S w0 (.slice (fa.map Ug)) [.slice Ba fa.length ea]):Calls prog 100 #[.agg #[.slice Aa la.length ca,.slice Ba fa.length ea]] w0 (De fun v w'=>∃ b:Bool,v=.bool b∧(b=true↔Xh la fa)∧Same [] w0 w'):=by
 refine Ka func100 O ntmps100 Kb (Sc _) ?_
 have hF:=FR.start w0 []
 refine Ia ?_
 refine Bh hF O ?_
 clear hF; rintro b1 w hb1 hF -
 refine Ca (Hc O) (Bc (Tc (Wj isAgg56 sizeOf56 O hF.F 0 O O) ?_))
 refine Pb (QK _ _ la fa Aa Ba ca ea (hF.rep hLa) (hF.rep hNa)) (Cb YW O O) ?_
 rintro _ w ⟨A,n,c,b,rfl,hb,hE⟩
 replace hF:=hF.ext hE
 clear hE
 refine Ca (Ul O) (Ca (W4 O O) (Ca (Ss O O) (Ca (Sh O) (Ca (Hc O) (Bc (Ca (Jc O) (Ca (Hc O) (Ea ?_))))))))
 refine Td (v:=.bool _) O O ?_
 exact ⟨_,O,hb,hF.same⟩
end Go.Scarf
namespace Go.Scarf
open Go.RowKit Go.Proofs Go.Proofs.Tryz
def gi (m p q:Nat):Nat:=p * (m+1)+q
theorem Y8 {m p q p' q':Nat} (hq:q≤m) (hq':q'≤m) (h:gi m p q=gi m p' q'):p=p'∧q=q':=by
  unfold gi at h
  have e:p=p':=by
    have h1:(p * (m+1)+q) / (m+1)=p:=by rw [Nat.mul_comm,Nat.mul_add_div U,Nat.div_eq_of_lt U]; omega
    have h2:(p' * (m+1)+q') / (m+1)=p':=by rw [Nat.mul_comm,Nat.mul_add_div U,Nat.div_eq_of_lt U]; omega
    rw [←h1,←h2,h]
  subst e
  exact ⟨O,by omega⟩
theorem Rp {m n p q:Nat} (hp:p≤n) (hq:q≤m):gi m p q < (n+1) * (m+1):=by
  unfold gi
  have:p * (m+1)≤n * (m+1):=Nat.mul_le_mul_right _ hp
  rw [Nat.add_mul,Nat.one_mul]
  omega
theorem J_ {n m:Nat} (hn:n≤512) (hm:m≤512):(n+1) * (m+1)≤263169:=Nat.le_trans (Nat.mul_le_mul (Nat.succ_le_succ hn) (Nat.succ_le_succ hm)) Ua
theorem FR.adopt {w0 w:World} {Ds:List Nat} {bs_:List (Nat × Obj)} {b:Nat} {o:Obj} (hF:FR w0 Ds bs_ w) (h:w.heap[b]? = some o) (hb:w0.heap.size≤b) (hn:∀ q∈bs_,q.1≠b):FR w0 Ds ((b,o)::bs_) w :=
  ⟨hF.same,fun q hq=>by
    rcases List.mem_cons.1 hq with rfl | hq
    · exact ⟨h,.inl hb⟩
    · exact hF.own q hq,List.pairwise_cons.2 ⟨fun q hq=>hn q hq,hF.desc⟩⟩
theorem LK (w0:World) (n m:Nat) (hn:n≤512) (hm:m≤512):Calls prog 102 #[.int .i64 ((n:Nat):Int),.int .i64 ((m:Nat):Int)] w0 (De fun v w'=>∃ gb cb:Nat,v=.pointer (some ⟨gb,0,none⟩)∧w'.heap[gb]? = some (.cells #[.int .i64 ((m+1:Nat):Int),.slice (some ⟨cb,0,none⟩) ((n+1) * (m+1)) ((n+1) * (m+1))] 138)∧w'.heap[cb]? = some (.cells (Mb ((n+1) * (m+1)) fun _=>0) 3)∧w0.heap.size≤gb∧w0.heap.size≤cb∧gb≠cb∧Same [] w0 w'):=by
 have hN:=J_ hn hm
 refine Ka func102 O ntmps102 Kb (Ee _ _) ?_
 have hF:=FR.start w0 []
 refine Ia (Ca (I_ O) (Bc (Ca (Va O) (Ca (If (((m+1:Nat):Int)) O O) (Ca (Va O) (Ca (If (((n+1:Nat):Int)) O O) (Ca (Va O) (Ca (If (((m+1:Nat):Int)) O O) ?_))))))))
 refine Ja (v:=.int .i64 ((((n+1) * (m+1)):Nat))) (Fl O O (Id (by rw [Int.natCast_mul]) U U)) ?_
 refine St (v:=fun b=>.slice (some ⟨b,0,none⟩) (((n+1) * (m+1))) (((n+1) * (m+1)))) (o:=.cells (Mb (((n+1) * (m+1))) fun _=>0) 3) hF (Mj Wh Qb O O U) ?_
 clear hF; rintro b1 w hb1 hF -
 refine Ja (w':=w) (v:=.agg #[.int .i64 (((m+1:Nat):Int)),.slice (some ⟨b1,0,none⟩) (((n+1) * (m+1))) (((n+1) * (m+1)))]) Qb ?_
 refine Bh hF O ?_
 clear hF; rintro b2 w hb2 hF -
 refine Ca (I_ O) (Ea ?_)
 refine Td (v:=.pointer _) O O ?_
 have h0:=hF.ge (i:=0) rfl
 have h1:=hF.ge (i:=1) rfl
 exact ⟨_,_,O,hF.heap (i:=0) O,hF.heap (i:=1) O,h0,h1,(by have:=(List.pairwise_cons.1 hF.desc).1 _ (List.mem_cons_self ..); exact fun e=>this e.symm),hF.same⟩
theorem at_k (w0:World) (gb cb N m p q k:Nat) (i j:Int) (hi:i+1=(p:Int)) (hj:j+1=(q:Int)) (hg:w0.heap[gb]? = some (.cells #[.int .i64 ((m+1:Nat):Int),.slice (some ⟨cb,0,none⟩) N N] 138)) (hk:p * (m+1)=k) (hN:k+q < N) (hm:m≤512) (hp:p≤1000) (hNm:N≤263169):Calls prog 76 #[.pointer (some ⟨gb,0,none⟩),.int .i64 i,.int .i64 j] w0 (De fun v w'=>v=.pointer (some ⟨cb,gi m p q,none⟩)∧Same [] w0 w'):=by
 refine Ka func76 O ntmps76 Kb (Dp _ _ _) ?_
 have hF:=FR.start w0 []
 refine Ia (Ca (I_ O) (Ea (Ha ?_)))
 refine Ff (zs:=[]) (.free 0 (.free 1 (.free 2 (.free 3 (.free 4 (.free 5 (.free 6 (.free 7 (.free 8 (.free 9 (.free 10 (.free 11 (.free 12 (.free 13 (.free 14 (.free 15 .nil)))))))))))))))) hF ?_
 clear hF; intro w hF
 refine Db O (Ue O) (Db O (Gg O) (Db O (Ec TN O) (Oa O (v:=.slice (some ⟨cb,0,none⟩) N N) (fun w hC=>Ya isAgg42 O (hC.cell0 (Ac hg 1))) (Db O (Va O) (Db O (If ((p:Nat)) O O) (Db O (Ue O) (Db O (Gg O) (Db O (Ec LL O) (Oa O (v:=.int .i64 (((m+1:Nat):Int))) (fun w hC=>Ya isAgg3 O (hC.cell0 (Ac hg 0))) ?_)))))))))
 refine Oa O (v:=.int .i64 ((k:Nat))) (fun w hC=>Fl O O (Id (by rw [←hk,Int.natCast_mul]) U U)) ?_
 refine Db O (Va O) (Db O (Sl O O) (Db O (If (((k+q:Nat):Int)) O O) (Oa O (v:=.pointer (some ⟨cb,k+q,none⟩)) (fun w hC=>Gb (i:=((k+q:Nat):Int)) (k+q) Nd O O U U U) (Db O (I_ O) (Mc (Ga ?_))))))
 refine Td (v:=.pointer _) O O ?_
 exact ⟨by rw [gi,hk],hF.same⟩
theorem It (w0:World) (gb cb n m p q:Nat) (i j:Int) (hi:i+1=(p:Int)) (hj:j+1=(q:Int)) (hg:w0.heap[gb]? = some (.cells #[.int .i64 ((m+1:Nat):Int),.slice (some ⟨cb,0,none⟩) ((n+1) * (m+1)) ((n+1) * (m+1))] 138)) (hp:p≤n) (hq:q≤m) (hn:n≤512) (hm:m≤512):Calls prog 76 #[.pointer (some ⟨gb,0,none⟩),.int .i64 i,.int .i64 j] w0 (De fun v w'=>v=.pointer (some ⟨cb,gi m p q,none⟩)∧Same [] w0 w') :=
  at_k w0 gb cb _ m p q _ i j hi hj hg rfl (Rp hp hq) hm U (J_ hn hm)
def Sk (N0 n:Nat) (q:Nat→Nat) (b:Nat):Prop:=b < N0∧∀ i,i < n→q i≠b
structure Rk (w:World) (N0 rb pb:Nat) (q:Nat→Nat) (la:List Str) (fa:List Int) (lb:List Str) (fb:List Int) (Aa Ba Ab Bb:Option Addr) (k1 k2 k3 k4:Nat) (P:Nat→Nat→Int):Prop where
  cell:w.heap[rb]? = some (.cells #[.slice Aa la.length k1,.slice Ba fa.length k2,.slice Ab lb.length k3,.slice Bb fb.length k4,.slice (some ⟨pb,0,none⟩) la.length la.length] 134)
  La:Rep (Sk N0 la.length q) w (Hf la) [.slice Aa la.length k1]
  Na:Rep (Sk N0 la.length q) w (.slice (fa.map Ug)) [.slice Ba fa.length k2]
  Lb:Rep (Sk N0 la.length q) w (Hf lb) [.slice Ab lb.length k3]
  Nb:Rep (Sk N0 la.length q) w (.slice (fb.map Ug)) [.slice Bb fb.length k4]
  grid:Grid2 w pb la.length lb.length 42 3 q P
  lt:rb < N0∧pb < N0∧∀ i,i < la.length→q i < N0
  ne:∀ i,i < la.length→q i≠rb
section
variable {w w':World} {N0 rb pb:Nat} {q:Nat→Nat} {la lb:List Str} {fa fb:List Int} {Aa Ba Ab Bb:Option Addr} {k1 k2 k3 k4:Nat} {P:Nat→Nat→Int} {E:List Nat}
theorem Rk.step (h:Rk w N0 rb pb q la fa lb fb Aa Ba Ab Bb k1 k2 k3 k4 P) (hs:Same E w w') (he:∀ b∈E,N0≤b):Rk w' N0 rb pb q la fa lb fb Aa Ba Ab Bb k1 k2 k3 k4 P:=by
  have ns:∀ b∈E,¬Sk N0 la.length q b:=fun b hb h2=>by have:=he b hb; have:=h2.1; omega
  have nl:∀ x,x < N0→x∉E:=fun x hx hm=>by have:=he x hm; omega
  exact ⟨(hs.block _ (Ra h.cell) (nl _ h.lt.1)).trans h.cell,h.La.same hs ns,h.Na.same hs ns,h.Lb.same hs ns,h.Nb.same hs ns,h.grid.keep hs (nl _ h.lt.2.1) (fun i hi=>nl _ (h.lt.2.2 i hi)),h.lt,h.ne⟩
theorem Rk.ext (h:Rk w N0 rb pb q la fa lb fb Aa Ba Ab Bb k1 k2 k3 k4 P) (hs:Same [] w w'):Rk w' N0 rb pb q la fa lb fb Aa Ba Ab Bb k1 k2 k3 k4 P:=h.step hs Ma
theorem Rk.put (h:Rk w N0 rb pb q la fa lb fb Aa Ba Ab Bb k1 k2 k3 k4 P) {i j:Nat} {v:Int} (hi:i < la.length) (hs:Same [q i] w w') (hn:w'.heap[q i]? = some (.cells (Mb lb.length (Pf (P i) j v)) 3)):Rk w' N0 rb pb q la fa lb fb Aa Ba Ab Bb k1 k2 k3 k4 (Hj P i j v):=by
  have ns:∀ b∈[q i],¬Sk N0 la.length q b:=fun b hb h2=>h2.2 i hi (List.mem_singleton.1 hb).symm
  exact ⟨(hs.block _ (Ra h.cell) (by simpa using fun e=>h.ne i hi e.symm)).trans h.cell,h.La.same hs ns,h.Na.same hs ns,h.Lb.same hs ns,h.Nb.same hs ns,h.grid.put hi hs hn,h.lt,h.ne⟩
theorem Rk.c0 (h:Rk w N0 rb pb q la fa lb fb Aa Ba Ab Bb k1 k2 k3 k4 P):w.cell? ⟨rb,0,none⟩=some (.slice Aa la.length k1):=Ac h.cell 0
theorem Rk.c1 (h:Rk w N0 rb pb q la fa lb fb Aa Ba Ab Bb k1 k2 k3 k4 P):w.cell? ⟨rb,1,none⟩=some (.slice Ba fa.length k2):=Ac h.cell 1
theorem Rk.c2 (h:Rk w N0 rb pb q la fa lb fb Aa Ba Ab Bb k1 k2 k3 k4 P):w.cell? ⟨rb,2,none⟩=some (.slice Ab lb.length k3):=Ac h.cell 2
theorem Rk.c3 (h:Rk w N0 rb pb q la fa lb fb Aa Ba Ab Bb k1 k2 k3 k4 P):w.cell? ⟨rb,3,none⟩=some (.slice Bb fb.length k4):=Ac h.cell 3
theorem Rk.c4 (h:Rk w N0 rb pb q la fa lb fb Aa Ba Ab Bb k1 k2 k3 k4 P):w.cell? ⟨rb,4,none⟩=some (.slice (some ⟨pb,0,none⟩) la.length la.length):=Ac h.cell 4
theorem Qp {S:Nat→Prop} {fs:List Int} {B:Option Addr} {n e:Nat} {ad:Addr} (h:Rep S w (.slice (fs.map Ug)) [.slice B n e]) (hA:B=some ad) {i:Nat} (hi:i < fs.length):w.cell? (ad.add (i * 1))=some (.int .i64 fs[i]):=by
  obtain ⟨ad',hA',hc,-⟩:=h.int_elem hi
  rw [hA] at hA'
  obtain rfl:=Option.some.inj hA'
  exact hc
theorem QE {S:Nat→Prop} {ls:List Str} {B:Option Addr} {n e:Nat} {ad:Addr} (h:Rep S w (Hf ls) [.slice B n e]) (hA:B=some ad) {i:Nat} (hi:i < ls.length):w.cell? (ad.add (i * 1))=some (.string (bs ls[i])):=by
  obtain ⟨ad',hA',hc,-⟩:=h.str_elem hi
  rw [hA] at hA'
  obtain rfl:=Option.some.inj hA'
  exact hc
theorem T8 {S:Nat→Prop} {fs:List Int} {B:Option Addr} {n e:Nat} (h:Rep S w (.slice (fs.map Ug)) [.slice B n e]) (hi:0 < fs.length):∃ ad,B=some ad:=by
  obtain ⟨ad,hA,-⟩:=h.int_elem hi
  exact ⟨ad,hA⟩
end
theorem AV (w0:World) (N0 rb pb:Nat) (q:Nat→Nat) (la:List Str) (fa:List Int) (lb:List Str) (fb:List Int) (Aa Ba Ab Bb:Option Addr) (k1 k2 k3 k4:Nat) (P:Nat→Nat→Int) (h:Rk w0 N0 rb pb q la fa lb fb Aa Ba Ab Bb k1 k2 k3 k4 P) (i j:Nat) (hi:i < la.length) (hj:j < lb.length) (hn:la.length≤512) (hm:lb.length≤512):Calls prog 103 #[.pointer (some ⟨rb,0,none⟩),.int .i64 ((i:Nat):Int),.int .i64 ((j:Nat):Int)] w0 (De fun v w'=>v=.int .i64 ((turn (Fb la fa) (Fb lb fb) i j:Nat):Int)∧Same [] w0 w'):=by
 have turnT:turn (Fb la fa) (Fb lb fb) i j=if la[i]=lb[j] then 0 else 1:=by simp [turn,Fb,List.getD,hi,hj]
 refine Ka func103 O ntmps103 Kb (Dp _ _ _) ?_
 have hF:=FR.start w0 []
 refine Ia (Ca (Wb O) (Ea (Ha (Ha ?_))))
 refine Ff (zs:=[]) (.free 0 (.free 1 (.free 2 (.free 3 (.free 4 (.free 5 (.free 6 (.free 7 (.free 8 (.free 9 (.free 10 (.free 11 (.free 12 (.free 13 (.free 14 (.free 15 (.free 16 .nil))))))))))))))))) hF ?_
 clear hF; intro w hF
 refine Db O (Ue O) (Db O (Gg O) (Db O (Ec VA O) (Db O (Ec Xc O) (Oa O (v:=.slice Aa la.length k1) (fun w hC=>Ya isAgg25 O (hC.cell0 h.c0)) (Db O (Va O) ?_)))))
 obtain ⟨ad0,hA0,hk0,hx0⟩:=h.La.str_elem (i:=i) U
 refine Oa O (v:=.pointer (some (ad0.add (i * 1)))) (fun w hC=>Pa (i:=(i:Nat)) Gk O hA0 O U U) (Oa O (v:=.string (bs (la[i]))) (fun w hC=>Ya isAgg9 O (hC.cell0 hk0)) (Db O (Ue O) (Db O (Gg O) (Db O (Ec NA O) (Db O (Ec Xc O) (Oa O (v:=.slice Ab lb.length k3) (fun w hC=>Ya isAgg25 O (hC.cell0 h.c2)) (Db O (Va O) ?_)))))))
 obtain ⟨ad1,hA1,hk1,hx1⟩:=h.Lb.str_elem (i:=j) U
 refine Oa O (v:=.pointer (some (ad1.add (j * 1)))) (fun w hC=>Pa (i:=(j:Nat)) Gk O hA1 O U U) (Oa O (v:=.string (bs (lb[j]))) (fun w hC=>Ya isAgg9 O (hC.cell0 hk1)) (Db O (Ay O O) (Mc (Ga ?_))))
 refine Yb O O (fun hc0=>?_) (fun hc0=>?_)
 refine Ia (Ca (Wb O) (Ea ?_))
 refine Td (v:=.int .i64 0) O O ?_
 exact ⟨by rw [turnT,if_pos (by assumption)]; rfl,hF.same⟩
 refine Qa (Ga (Ia (Ca (Wb O) (Ea ?_))))
 refine Td (v:=.int .i64 1) O O ?_
 exact ⟨by rw [turnT,if_neg (by assumption)]; rfl,hF.same⟩
end Go.Scarf
