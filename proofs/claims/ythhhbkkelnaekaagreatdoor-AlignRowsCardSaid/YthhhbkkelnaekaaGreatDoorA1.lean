/- A part of the proof. -/
import Derived.Test.YthhhbkkelnaekaaGreatDoorAp
import Derived.Test.YthhhbkkelnaekaaGreatDoorW19
import Derived.Test.YthhhbkkelnaekaaGreatDoorZ1
import Derived.Test.YthhhbkkelnaekaaGreatDoorZ11
import Derived.Test.YthhhbkkelnaekaaGreatDoorZ4
import Derived.Test.YthhhbkkelnaekaaGreatDoorMore
import Derived.Test.YthhhbkkelnaekaaGreatDoorW4
set_option linter.all false
set_option maxHeartbeats 8000000
set_option maxRecDepth 10000
namespace Go.Scarf
open Go.RowKit Go.Proofs Go.Proofs.Tryz
def Yk (l:List Tree):Bool:=l.all (fun x=>Vu x 8) && decide ((l.length:Int)≤66)
theorem XL {l:List Tree} {j:Nat} {h:j < l.length} (hs:Vu l[j] 8=false):Yk l=false:=by
  unfold Yk
  have:(l.all fun x=>Vu x 8)=false:=by
    rw [Bool.eq_false_iff]
    intro ha
    rw [List.all_eq_true.1 ha l[j] (List.getElem_mem h)] at hs
    cases hs
  rw [this]; rfl
theorem AE {l:List Tree} {j:Nat} (hs:∀ i (h:i < l.length),i < j→Vu l[i] 8=true) (hj:∀ h:j < l.length,Vu l[j] 8=true):∀ i (h:i < l.length),i < j+1→Vu l[i] 8=true:=fun i h h2=>by
  by_cases e:i=j
  · subst e; exact hj h
  · exact hs i h U
theorem X6 {l:List Tree} {j:Nat} (hj:∀ i (h:i < l.length),i < j→Vu l[i] 8=true) (he:¬(j < l.length∧j < 70)):Yk l=decide ((l.length:Int)≤66):=by
  unfold Yk
  by_cases h:l.length≤66
  · have:(l.all fun x=>Vu x 8)=true:=by
      rw [List.all_eq_true]
      intro s hs
      obtain ⟨i,hi,rfl⟩:=List.getElem_of_mem hs
      exact hj i hi U
    rw [this,decide_eq_true U]; rfl
  · rw [decide_eq_false U,Bool.and_false]
theorem Fj {l:List Tree} (h:Yk l=true):l.length≤66∧∀ x∈l,Vu x 8=true:=by
  unfold Yk at h
  rw [Bool.and_eq_true,decide_eq_true_eq,List.all_eq_true] at h
  exact ⟨by omega,h.1⟩
theorem HH (l:List Tree) (A:Option Addr) (c:Nat) (S:Nat→Prop) (w0:World) (hX:Rep S w0 (.slice (Wc l)) [.slice A l.length c]):Calls prog 5 #[.slice A l.length c] w0 (De fun v w'=>v=.bool (Yk l)∧Same [] w0 w'):=by
 have hXl:=hX.slice_len
 rw [Cf] at hXl
 refine Ka func5 O ntmps5 Kb (Sc _) ?_
 have hF:=FR.start w0 []
 refine Ia (Ca (Hc O) (Ea (Ha (Ia (Ca (Wb O) (Ea (Ta ?_)))))))
 refine Lc (fun μ σ w=>∃ (j:Nat),μ=l.length - j∧(j≤l.length∧j≤70)∧(∀ i (h:i < l.length),i < j→Vu l[i] 8=true)∧AllEq σ [(0,.slice A l.length c),(3,.int .i64 ((j:Int)))]∧FR w0 [] [] w) _ ⟨0,O,U,(fun i _ h=>by omega),Iw,hF⟩ ?_
 clear hF; rintro μ σ w ⟨j,rfl,hj,hs_,hs,hF⟩
 refine Cg.slots hs ?_
 clear hs; intro σ
 refine Ha (Ia (Ca (Va O) (Ca (Yd O) (Ca (Df underlying22 O) (Ca (Yg O O) (Ca (Jc O) ?_))))))
 refine Hb (d:=9) O (fun hg0=>?_) (fun hg0=>?_)
 refine Ca (Va O) (Ca (Yg O O) (Ca (Ic O O) (Ea ?_)))
 refine Yb O O (fun hc0=>?_) (fun hc0=>?_)
 refine Qa (Ga (Ha (Ta (Ia (Ca (Yd O) (Ca (Va O) ?_))))))
 obtain ⟨ad1,cs1,hA1,hl1,hk1,hx1⟩:=hX.tree_elem (i:=j) U
 have ho1:=hx1.one_
 refine Ja (v:=.pointer (some (ad1.add (j * 4)))) (Pa (i:=(j:Int)) Mg O hA1 O U U) (Ja (v:=.agg (List.toArray cs1)) (Fc (l:=cs1) isAgg27 sizeOf27 O hl1 (hF.cells0 hk1)) ?_)
 refine Jb hF (KZ l[j] 8 Ua Ua _ _ cs1 (hF.rep hx1)) (Vb LY O O O) ?_
 clear hF; intro w hF
 refine Ca (Hc O) (Bc (Ca (Jc O) (Ca (Pn O) (Ea ?_))))
 refine Mi O O (fun hc1=>?_) (fun hc1=>?_)
 refine Ia (Ca (Hc O) (Ea ?_))
 refine Td (v:=.bool false) O O ?_
 exact ⟨congrArg Value.bool (XL (j:=j) (h:=by omega) (by simp_all)).symm,hF.same⟩
 refine Qa (Eb (Ga (Fa (Ca (Va O) (Ca (If (((j+1:Nat):Int)) O O) (Ca (Wb O) (Xa ?_)))))))
 refine Ib ⟨_,?_,j+1,O,U,(AE hs_ (fun _=>by simp_all)),Iw,hF⟩
 omega
 refine Dc (Cc O ?_)
 refine Ga (Ia (Ca (Yd O) (Ca (Df underlying22 O) (Ca (J1 O O) (Ca (Hc O) (Ea ?_))))))
 refine Td (v:=.bool _) O O ?_
 exact ⟨congrArg Value.bool (X6 (j:=j) hs_ U).symm,hF.same⟩
 refine Da (Da (Ca (Gc O O) (Ea (Ie O ?_))))
 refine Dc (Cc O ?_)
 refine Ga (Ia (Ca (Yd O) (Ca (Df underlying22 O) (Ca (J1 O O) (Ca (Hc O) (Ea ?_))))))
 refine Td (v:=.bool _) O O ?_
 exact ⟨congrArg Value.bool (X6 (j:=j) hs_ U).symm,hF.same⟩
theorem L3 (w:World) (a b:Int × Int):(Op.equal 41 (.agg (Bl a).toArray) (.agg (Bl b).toArray)).run prog w=.ok (decide (a=b)) w:=by
  obtain ⟨a1,a2⟩:=a
  obtain ⟨b1,b2⟩:=b
  simp only [Bl,Prod.mk.injEq]
  simp [Op.equal,Op.maxDepth,run_equalIn_struct,go_sem]
  by_cases h1:a1=b1 <;> by_cases h2:a2=b2 <;> simp [h1,h2]
theorem RI {ρ:Operand→Value} {w:World} {dst:Option Nat} {ty:TypeId} {pos:String} {aft:Array Edge} {g:Option (Nat × Bool)} {x y:Operand} {a b:Int × Int} (hx:ρ x=.agg (Bl a).toArray) (hy:ρ y=.agg (Bl b).toArray) :
    (execOp ρ ⟨dst,.binOp .neq 41 x y 41,ty,pos,aft,g⟩).run prog w=.ok (.value (.bool (decide (a≠b)))) w:=by
  have hg:(eqGuard .neq 41 x y (.agg (Bl a).toArray) (.agg (Bl b).toArray)).run prog w=.ok () w:=by
    simp [eqGuard,Bl]
  have h:=L3 w a b
  simp only [execOp,hx,hy,Sem.run_bind,hg,Result.andThen_ok]
  have hb:(binOp .neq 41 (.agg (Bl a).toArray) (.agg (Bl b).toArray)).run prog w=.ok (.bool (decide (a≠b))) w:=by
    simp only [Bl,binOp] at h ⊢
    simp only [Sem.run_bind,h,Result.andThen_ok,Sem.run_pure,decide_not]
  rw [hb]; rfl
theorem Zq (S S':Nat→Prop) (w0:World) (a b:List (Int × Int)) (A B:Option Addr) (c e:Nat) (hX:Rep S w0 (Lj a) [.slice A a.length c]) (hY:Rep S' w0 (Lj b) [.slice B b.length e]):Calls prog 10 #[.slice A a.length c,.slice B b.length e] w0 (De fun v w'=>v=.bool (decide (a=b))∧Same [] w0 w'):=by
 have hXl:=hX.pairs_len
 have hYl:=hY.pairs_len
 refine Ka func10 O ntmps10 Kb (Ee _ _) ?_
 have hF:=FR.start w0 []
 refine Ia (Ca (Hc O) (Ea (Ha (Ia (Ca (Yd O) (Ca (Df underlying29 O) (Ca (Yd O) (Ca (Df underlying29 O) (Ca (Sq O O) (Xa ?_))))))))))
 refine Ga ?_
 refine Yb O O (fun hc0=>?_) (fun hc0=>?_)
 refine Ia (Ca (Hc O) (Ea ?_))
 refine Td (v:=.bool false) O O ?_
 exact ⟨congrArg Value.bool (decide_eq_false fun q=>by subst q; omega).symm,hF.same⟩
 refine Qa (Ga (Ha (Ia (Ca (Wb O) (Ea (Ta ?_))))))
 have hll:a.length=b.length:=by omega
 refine Lc (fun μ σ w=>∃ (j:Nat),μ=a.length - j∧(j≤a.length)∧(∀ i (h:i < a.length) (h2:i < b.length),i < j→a[i]=b[i])∧AllEq σ [(0,.slice A a.length c),(1,.slice B b.length e),(5,.int .i64 ((j:Int)))]∧FR w0 [] [] w) _ ⟨0,O,U,(fun i _ _ h=>by omega),Vp,hF⟩ ?_
 clear hF; rintro μ σ w ⟨j,rfl,hj,hq,hs,hF⟩
 refine Cg.slots hs ?_
 clear hs; intro σ
 refine Ha (Ia (Ca (Va O) (Ca (Yd O) (Ca (Df underlying29 O) (Ca (Yg O O) (Ea ?_))))))
 refine Yb O O (fun hc1=>?_) (fun hc1=>?_)
 refine Qa (Ga (Ha (Ta (Ha ?_))))
 refine Ff (zs:=[]) (.free 0 (.free 1 (.free 2 (.free 3 (.free 4 (.free 5 (.free 6 (.free 7 (.free 8 .nil))))))))) hF ?_
 clear hF; intro w hF
 refine Db O (Yd O) (Db O (Va O) ?_)
 obtain ⟨ad0,hA0,hk0,hx0⟩:=hX.pair_elem (i:=j) U
 refine Oa O (v:=.pointer (some (ad0.add (j * 2)))) (fun w hC=>Pa (i:=(j:Int)) G3 O hA0 O U U) (Oa O (v:=.agg #[.int .i64 ((a[j]).1),.int .i64 ((a[j]).2)]) (fun w hC=>Fc (l:=Bl a[j]) isAgg41 sizeOf41 O O (hC.cells0 hk0)) (Db O (Yd O) (Db O (Va O) ?_)))
 obtain ⟨ad1,hA1,hk1,hx1⟩:=hY.pair_elem (i:=j) U
 refine Oa O (v:=.pointer (some (ad1.add (j * 2)))) (fun w hC=>Pa (i:=(j:Int)) G3 O hA1 O U U) (Oa O (v:=.agg #[.int .i64 ((b[j]).1),.int .i64 ((b[j]).2)]) (fun w hC=>Fc (l:=Bl b[j]) isAgg41 sizeOf41 O O (hC.cells0 hk1)) (Oa O (v:=.bool (decide (a[j]≠b[j]))) (fun w hC=>RI (a:=a[j]) (b:=b[j]) O O) (Mc (Ga ?_))))
 refine Yb O O (fun hc2=>?_) (fun hc2=>?_)
 refine Ia (Ca (Hc O) (Ea ?_))
 refine Td (v:=.bool false) O O ?_
 exact ⟨congrArg Value.bool (decide_eq_false fun q=>by subst q; exact absurd rfl (by assumption)).symm,hF.same⟩
 refine Qa (Eb (Ga (Fa (Ca (Va O) (Ca (If (((j+1:Nat):Int)) O O) (Ca (Wb O) (Xa ?_)))))))
 refine Ib ⟨_,?_,j+1,O,U,(E6 hq (Classical.not_not.1 (by assumption))),Vp,hF⟩
 omega
 refine Dc (Cc O ?_)
 refine Ga (Ia (Ca (Hc O) (Ea ?_)))
 refine Td (v:=.bool true) O O ?_
 exact ⟨congrArg Value.bool (decide_eq_true (LG hq hll U)).symm,hF.same⟩
def Lx (n:Int):Int × Int→List (Int × Int)→Bool
  | _,[]=>true
  | q,z::m=>!(decide (z.1≤q.1) || (decide (z.2≤q.2) || decide (n≤z.1))) && Lx n z m
def Oz (n:Int) (m:List (Int × Int)):Bool:=Lx n (-1,-1) m && (decide (0≤n) && decide (n≤64))
theorem Bu {n x y:Int} {m:List (Int × Int)} {j:Nat} (h:j < m.length):Lx n (x,y) (m.drop j)=(!(decide (m[j].1≤x) || (decide (m[j].2≤y) || decide (n≤m[j].1))) && Lx n (m[j].1,m[j].2) (m.drop (j+1))):=by
  rw [List.drop_eq_getElem_cons h,Lx]
theorem W_ (S:Nat→Prop) (w0:World) (n:Int) (m:List (Int × Int)) (A:Option Addr) (c:Nat) (hX:Rep S w0 (Lj m) [.slice A m.length c]):Calls prog 24 #[.int .i64 n,.slice A m.length c] w0 (De fun v w'=>v=.bool (Oz n m)∧Same [] w0 w'):=by
 have hXl:=hX.pairs_len
 refine Ka func24 O ntmps24 Kb (Ee _ _) ?_
 have hF:=FR.start w0 []
 refine Ia (Ca (Hc O) (Bc ?_))
 refine Ja (w':=w0) (v:=.agg #[.int .i64 ((-1)),.int .i64 ((-1))]) Qb ?_
 refine Ym hF zeroValue41 sizeOf41 O ?_
 clear hF; rintro b1 w hb1 hF -
 refine Ea (Ha (Ia (Ca (Yd O) (Ca (Df underlying29 O) (Ca (Va O) (Ea (Ta ?_)))))))
 refine Lc (fun μ σ w=>∃ (j:Nat),∃ (x:Int),∃ (y:Int),μ=m.length - j∧(j≤m.length)∧(Lx n (-1,-1) m=Lx n (x,y) (m.drop j))∧AllEq σ [(0,.int .i64 n),(5,.pointer (some ⟨b1,0,none⟩)),(9,.slice A m.length c),(10,.int .i64 ((m.length:Nat))),(11,.int .i64 ((j:Int)))]∧FR w0 [] [(b1,.cells #[.int .i64 x,.int .i64 y] 41)] w) _ ⟨0,-1,-1,O,U,(O),Am,hF⟩ ?_
 clear hF; rintro μ σ w ⟨j,x,y,rfl,hj,hr,hs,hF⟩
 refine Cg.slots hs ?_
 clear hs; intro σ
 refine Ia (Ca (Yg O O) (Ea (Ha ?_)))
 refine Yb O O (fun hc0=>?_) (fun hc0=>?_)
 refine Qa (Ga (Ha (Ta (Ia ?_))))
 obtain ⟨ad0,hA0,hk0,hx0⟩:=hX.pair_elem (i:=j) U
 refine Ja (v:=.pointer (some (ad0.add (j * 2)))) (Pa (i:=(j:Int)) G3 O hA0 O U U) (Ja (v:=.agg #[.int .i64 ((m[j]).1),.int .i64 ((m[j]).2)]) (Fc (l:=Bl m[j]) isAgg41 sizeOf41 O O (hF.cells0 hk0)) ?_)
 refine Ym hF zeroValue41 sizeOf41 O ?_
 clear hF; rintro b2 w hb2 hF -
 refine Ea (Ha (Ia (Ca (Ec Mw O) (Tc (Hl isAgg3 O hF.F 0 O O) (Ca (Ec Mw O) (Tc (Hl isAgg3 O hF.F 1 O O) (Ca (J1 O O) (Ca (Jc O) ?_))))))))
 refine Hb (d:=20) O (fun hg1=>?_) (fun hg1=>?_)
 refine Da (Da (Da (Da (Da (Ca (Ic O O) (Ca (Jc O) (Da (Da (Da (Da (Ca (Ic O O) (Ea ?_))))))))))))
 refine Ae O (Ia (Ca (Hc O) (Ea ?_)))
 refine Td (v:=.bool false) O O ?_
 exact ⟨congrArg Value.bool (by rw [Oz,hr,Bu (j:=j) U]; simp_all),hF.same⟩
 refine Ca (Ec Rr O) (Tc (Hl isAgg3 O hF.F 0 O O) (Ca (Ec Rr O) (Tc (Hl isAgg3 O hF.F 1 O O) (Ca (J1 O O) (Ca (Gc O O) (Ca (Jc O) ?_))))))
 refine Hb (d:=27) O (fun hg2=>?_) (fun hg2=>?_)
 refine Da (Da (Da (Da (Ca (Ic O O) (Ea (Ae O (Ia (Ca (Hc O) (Ea ?_)))))))))
 refine Td (v:=.bool false) O O ?_
 exact ⟨congrArg Value.bool (by rw [Oz,hr,Bu (j:=j) U]; simp_all),hF.same⟩
 refine Ca (Ec Mw O) (Tc (Hl isAgg3 O hF.F 0 O O) (Ca (Va O) (Ca (Rv O O) (Ca (Gc O O) (Ea ?_)))))
 refine Yb O O (fun hc1=>?_) (fun hc1=>?_)
 refine Ia (Ca (Hc O) (Ea ?_))
 refine Td (v:=.bool false) O O ?_
 exact ⟨congrArg Value.bool (by rw [Oz,hr,Bu (j:=j) U]; simp_all),hF.same⟩
 refine Qa (Ga (Fa (Tc (Wj isAgg41 sizeOf41 O hF.F 0 O O) ?_)))
 refine Ll hF sizeOf41 O O I5 ?_
 clear hF; rintro w hF -
 refine Xa (Eb (Ga (Fa (Ca (If (((j+1:Nat):Int)) O O) (Ca (Va O) (Xa ?_))))))
 refine Ib ⟨_,?_,j+1,m[j].1,m[j].2,O,U,(by rw [hr,Bu U]; simp_all),Am,hF.drop 1⟩
 omega
 refine Dc (Cc O ?_)
 refine Ga (Ia (Ca (Va O) (Ca (Rv O O) (Ca (Jc O) ?_))))
 refine Hb (d:=37) O (fun hg3=>?_) (fun hg3=>?_)
 refine Ca (Va O) (Ca (J1 O O) (Ca (Ic O O) (Ca (Hc O) (Ea ?_))))
 refine Td (v:=.bool _) O O ?_
 have ej:j=m.length:=by omega
 exact ⟨congrArg Value.bool (by rw [Oz,hr,ej,List.drop_length,Lx]; simp_all <;> omega),hF.same⟩
 refine Da (Da (Ca (Gc O O) (Ca (Hc O) (Ea ?_))))
 refine Td (v:=.bool false) O O ?_
 have ej:j=m.length:=by omega
 exact ⟨congrArg Value.bool (by rw [Oz,hr,ej,List.drop_length,Lx]; simp_all <;> omega),hF.same⟩
end Go.Scarf
namespace Go.Scarf
open Go.RowKit Go.Proofs Go.Proofs.Tryz
abbrev TreeN:=List Str × List Int
structure GridC (w:World) (pb n m:Nat) (T1 T2:TypeId) (rb:Nat→Nat) (p:Nat→Nat→Int):Prop where
  top:∃ cur,w.heap[pb]? = some (.cells cur T1)∧∀ i,i < n→cur[i]? = some (.slice (some ⟨rb i,0,none⟩) m m)
  row:∀ i,i < n→w.heap[rb i]? = some (.cells (Mb m (p i)) T2)
  inj:∀ i j,i < n→j < n→rb i=rb j→i=j
  ne:∀ i,i < n→rb i≠pb
section
variable {w w':World} {pb n m:Nat} {T1 T2:TypeId} {rb:Nat→Nat} {p:Nat→Nat→Int}
theorem GridC.rowCell (h:GridC w pb n m T1 T2 rb p) {i:Nat} (hi:i < n):w.cell? ⟨pb,i,none⟩=some (.slice (some ⟨rb i,0,none⟩) m m):=by
  obtain ⟨cur,h1,h2⟩:=h.top
  rw [Ac h1]; exact h2 i hi
theorem GridC.cell (h:GridC w pb n m T1 T2 rb p) {i j:Nat} (hi:i < n) (hj:j < m):w.cell? ⟨rb i,j,none⟩=some (.int .i64 (p i j)):=by
  rw [Ac (h.row i hi),Wl hj]
theorem GridC.keep (h:GridC w pb n m T1 T2 rb p) {E:List Nat} (hs:Same E w w') (h1:pb∉E) (h2:∀ i,i < n→rb i∉E):GridC w' pb n m T1 T2 rb p:=by
  obtain ⟨cur,h3,h4⟩:=h.top
  exact ⟨⟨cur,(hs.block _ (Ra h3) h1).trans h3,h4⟩,fun i hi=>(hs.block _ (Ra (h.row i hi)) (h2 i hi)).trans (h.row i hi),h.inj,h.ne⟩
theorem GridC.put (h:GridC w pb n m T1 T2 rb p) {i j:Nat} {v:Int} (hi:i < n) (hs:Same [rb i] w w') (hn:w'.heap[rb i]? = some (.cells (Mb m (Pf (p i) j v)) T2)):GridC w' pb n m T1 T2 rb (Hj p i j v):=by
  obtain ⟨cur,h3,h4⟩:=h.top
  refine ⟨⟨cur,(hs.block _ (Ra h3) (by simpa using fun e=>h.ne i hi e.symm)).trans h3,h4⟩,fun a ha=>?_,h.inj,h.ne⟩
  by_cases e:a=i
  · subst e; rw [hn]; simp [Hj]
  · have : w'.heap[rb a]? = w.heap[rb a]? := hs.block _ (Ra (h.row a ha)) (by simpa using fun q => e (h.inj a i ha hi q))
    rw [this,h.row a ha,Hj,if_neg e]
end
structure Ck (w:World) (N0 cb pb rb:Nat) (la lb:List TreeN) (Aa Ab:Option Addr) (k1 k2 k3 k4:Nat) (q r:Nat→Nat) (P R:Nat→Nat→Int):Prop where
  cell:w.heap[cb]? = some (.cells #[.slice Aa la.length k1,.slice Ab lb.length k2,.slice (some ⟨pb,0,none⟩) (la.length+1) k3,.slice (some ⟨rb,0,none⟩) (la.length+1) k4] 53)
  La:Rep (fun b=>b < N0) w (.slice (la.map Dm)) [.slice Aa la.length k1]
  Lb:Rep (fun b=>b < N0) w (.slice (lb.map Dm)) [.slice Ab lb.length k2]
  pair:GridC w pb (la.length+1) (lb.length+1) 42 3 q P
  rest:GridC w rb (la.length+1) (lb.length+1) 42 3 r R
  lo:N0≤cb∧N0≤pb∧N0≤rb∧(∀ i,i < la.length+1→N0≤q i)∧∀ i,i < la.length+1→N0≤r i
  nq:∀ i,i < la.length+1→q i≠cb∧q i≠pb∧q i≠rb
  nr:∀ i,i < la.length+1→r i≠cb∧r i≠pb∧r i≠rb
  ne:∀ i j,i < la.length+1→j < la.length+1→q i≠r j
section
variable {w w':World} {N0 cb pb rb:Nat} {la lb:List TreeN} {Aa Ab:Option Addr} {k1 k2 k3 k4:Nat} {q r:Nat→Nat} {P R:Nat→Nat→Int}
theorem Ck.keep (h:Ck w N0 cb pb rb la lb Aa Ab k1 k2 k3 k4 q r P R) {E:List Nat} (hs:Same E w w') (he:∀ b∈E,N0≤b) (h1:cb∉E) (h2:pb∉E) (h3:rb∉E) (h4:∀ i,i < la.length+1→q i∉E) (h5:∀ i,i < la.length+1→r i∉E):Ck w' N0 cb pb rb la lb Aa Ab k1 k2 k3 k4 q r P R :=
  have ns:∀ b∈E,¬b < N0:=fun b hb=>Nat.not_lt.2 (he b hb)
  ⟨(hs.block _ (Ra h.cell) h1).trans h.cell,h.La.same hs ns,h.Lb.same hs ns,h.pair.keep hs h2 h4,h.rest.keep hs h3 h5,h.lo,h.nq,h.nr,h.ne⟩
theorem Ck.ext (h:Ck w N0 cb pb rb la lb Aa Ab k1 k2 k3 k4 q r P R) (hs:Same [] w w'):Ck w' N0 cb pb rb la lb Aa Ab k1 k2 k3 k4 q r P R:=h.keep hs Ma Ma Ma Ma Ma Ma
theorem Ck.putP (h:Ck w N0 cb pb rb la lb Aa Ab k1 k2 k3 k4 q r P R) {i j:Nat} {v:Int} (hi:i < la.length+1) (hs:Same [q i] w w') (hn:w'.heap[q i]? = some (.cells (Mb (lb.length+1) (Pf (P i) j v)) 3)):Ck w' N0 cb pb rb la lb Aa Ab k1 k2 k3 k4 q r (Hj P i j v) R:=by
  have ns:∀ b∈[q i],¬b < N0:=fun b hb=>by obtain rfl:=List.mem_singleton.1 hb; exact Nat.not_lt.2 (h.lo.2.2.2.1 i hi)
  have hq:=h.nq i hi
  exact ⟨(hs.block _ (Ra h.cell) (by simpa using fun e=>hq.1 e.symm)).trans h.cell,h.La.same hs ns,h.Lb.same hs ns,h.pair.put hi hs hn,h.rest.keep hs (by simpa using fun e=>hq.2.2 e.symm) (fun a ha=>by simpa using fun e=>h.ne i a hi ha e.symm),h.lo,h.nq,h.nr,h.ne⟩
theorem Ck.putR (h:Ck w N0 cb pb rb la lb Aa Ab k1 k2 k3 k4 q r P R) {i j:Nat} {v:Int} (hi:i < la.length+1) (hs:Same [r i] w w') (hn:w'.heap[r i]? = some (.cells (Mb (lb.length+1) (Pf (R i) j v)) 3)):Ck w' N0 cb pb rb la lb Aa Ab k1 k2 k3 k4 q r P (Hj R i j v):=by
  have ns:∀ b∈[r i],¬b < N0:=fun b hb=>by obtain rfl:=List.mem_singleton.1 hb; exact Nat.not_lt.2 (h.lo.2.2.2.2 i hi)
  have hq:=h.nr i hi
  exact ⟨(hs.block _ (Ra h.cell) (by simpa using fun e=>hq.1 e.symm)).trans h.cell,h.La.same hs ns,h.Lb.same hs ns,h.pair.keep hs (by simpa using fun e=>hq.2.1 e.symm) (fun a ha=>by simpa using fun e=>h.ne a i ha hi e),h.rest.put hi hs hn,h.lo,h.nq,h.nr,h.ne⟩
theorem Ck.c0 (h:Ck w N0 cb pb rb la lb Aa Ab k1 k2 k3 k4 q r P R):w.cell? ⟨cb,0,none⟩=some (.slice Aa la.length k1):=by rw [Ac h.cell]; rfl
theorem Ck.c1 (h:Ck w N0 cb pb rb la lb Aa Ab k1 k2 k3 k4 q r P R):w.cell? ⟨cb,1,none⟩=some (.slice Ab lb.length k2):=by rw [Ac h.cell]; rfl
theorem Ck.c2 (h:Ck w N0 cb pb rb la lb Aa Ab k1 k2 k3 k4 q r P R):w.cell? ⟨cb,2,none⟩=some (.slice (some ⟨pb,0,none⟩) (la.length+1) k3):=by rw [Ac h.cell]; rfl
theorem Ck.c3 (h:Ck w N0 cb pb rb la lb Aa Ab k1 k2 k3 k4 q r P R):w.cell? ⟨cb,3,none⟩=some (.slice (some ⟨rb,0,none⟩) (la.length+1) k4):=by rw [Ac h.cell]; rfl
end
section
variable {Pg:Program} {R:Exit→Act→World→Prop} {n:Nat} {k:Kt} {s:Nat→Value} {w:World} {ops:List Oper} {zs:List Nat} {C:World→Prop} {order:Ord} {i:Nat}
variable {ty:TypeId} {pos:String} {aft:Array Edge} {g:Option (Nat × Bool)} {w0:World} {Ds:List Nat} {bs:List (Nat × Obj)}
theorem Ht {t T:TypeId} {x y:Operand} {b j m:Nat} {f:Nat→Int} {v:Int} (hi:ops[i]? = some ⟨none,.store t x y,ty,pos,aft,g⟩) (hF:FR w0 Ds bs w) (hs:∀ w,(sizeOf t).run Pg w=.ok 1 w)
    (hx:ev n s x=.pointer (some ⟨b,j,none⟩)) (hy:ev n s y=.int .i64 v) (hh:w.heap[b]? = some (.cells (Mb m f) T)) (hj:j < m) (hD:b∈Ds∨w0.heap.size≤b) (hn:∀ p∈bs,p.1≠b)
    (h:∀ w',FR w0 Ds bs w'→Same [b] w w'→w'.heap[b]? = some (.cells (Mb m (Pf f j v)) T)→Dg Pg R n ops k zs order (fun _=>True) s w')
    (hw:Kc ops n s ⟨none,.store t x y,ty,pos,aft,g⟩=true:=by rfl) (hz:zs.contains i=true:=by rfl):Dg Pg R n ops k zs (.act i order) C s w:=by
  have hsp:=Ri b j (fz:=(0,0)) [.int .i64 v] 0 w (Mb m f) hh
  rw [Nat.add_zero,Bg] at hsp
  refine HR hi (Hu (l:=[.int .i64 v]) hs hx hy O Ed fun i hi=>?_) (h (putCells w ⟨b,j,none⟩ 0 [.int .i64 v]) (hF.touch hsp.2 fun b' hb=>?_) hsp.2 hsp.1) hw hz
  · obtain rfl : i = 0 := by simp at hi; omega
    rw [Vl,Ac hh]
    exact ⟨⟨_,Wl hj⟩,Bj hh _⟩
  · obtain rfl := List.mem_singleton.1 hb
    exact ⟨fun h=>hD.resolve_right U,hn⟩
theorem W9 {P:Program} {w:World} {ρ:Operand→Value} {dst:Option Nat} {x y z:Operand} {ats:Array TypeId} {kk:IntKind} {a b c:Int} (hx:ρ x=.int kk a) (hy:ρ y=.int kk b) (hz:ρ z=.int kk c):(execOp ρ ⟨dst,.call ⟨.builtin .min,#[x,y,z],ats⟩,ty,pos,aft,g⟩).run P w=.ok (.value (.int kk (min (min a b) c))) w:=by
  have e:∀ a b:Int,(if b < a then b else a)=min a b:=fun a b=>by rw [Int.min_def]; split <;> split <;> omega
  simp [execOp,resolve,invoke,builtin,hx,hy,hz,Builtin.min_,Builtin.min2,go_sem,e,Int.min_assoc]
end
theorem Wx (w0:World) (N0 cb pb rb:Nat) (la lb:List TreeN) (Aa Ab:Option Addr) (k1 k2 k3 k4:Nat) (q r:Nat→Nat) (P R:Nat→Nat→Int) (hK:Ck w0 N0 cb pb rb la lb Aa Ab k1 k2 k3 k4 q r P R) (i j:Nat) (hll:la.length≤64∧lb.length≤64) (hi:i < la.length) (hj:j < lb.length) (hP:(0≤P i j∧P i j≤1000000)) (hR:(0≤R (i+1) (j+1)∧R (i+1) (j+1)≤1000000)):Calls prog 18 #[.pointer (some ⟨cb,0,none⟩),.int .i64 ((i:Nat):Int),.int .i64 ((j:Nat):Int)] w0 (De fun v w'=>v=.int .i64 (P i j+R (i+1) (j+1))∧Same [] w0 w'):=by
 have hk3:=hK.pair
 refine Ka func18 O ntmps18 Kb (Dp _ _ _) ?_
 have hF:=FR.start w0 []
 refine Ia (Ca (Wb O) (Ea (Ha ?_)))
 refine Uc [] (.free 0 (.free 1 (.free 2 (.free 3 (.free 4 (.free 5 (.free 6 (.free 7 (.free 8 (.free 9 (.free 10 (.free 11 (.free 12 (.free 13 (.free 14 (.free 15 (.free 16 (.free 17 (.free 18 (.free 19 (.free 20 (.free 21 (.free 22 (.free 23 .nil)))))))))))))))))))))))) hF ?_
 clear hF; intro w hF hE
 replace hK:=hK.ext hE
 clear hE
 refine ⟨fun wq=>FR w0 [] _ wq∧Ck wq N0 cb pb rb la lb Aa Ab k1 k2 k3 k4 q r P R,⟨hF,hK⟩,?_⟩
 refine Db O (Ue O) (Db O (Gg O) (Db O (Ec Hk O) (Oa O (v:=.slice (some ⟨pb,0,none⟩) (la.length+1) (k3)) (fun w hC=>Ya isAgg37 O hC.2.c2) (Db O (Va O) (Oa O (v:=.pointer (some ⟨pb,i,none⟩)) (fun w hC=>Gb (i:=((i:Nat):Int)) (i) Vj O O U U U) (Oa O (v:=.slice (some ⟨q (i),0,none⟩) (lb.length+1) (lb.length+1)) (fun w hC=>Ya isAgg42 O (hC.2.pair.rowCell U)) (Db O (Va O) (Oa O (v:=.pointer (some ⟨q (i),j,none⟩)) (fun w hC=>Gb (i:=((j:Nat):Int)) (j) Nd O O U U U) (Oa O (v:=.int .i64 (P (i) (j))) (fun w hC=>Ya isAgg3 O (hC.2.pair.cell U U)) (Db O (Ue O) (Db O (Gg O) (Db O (Ec Ci O) (Oa O (v:=.slice (some ⟨rb,0,none⟩) (la.length+1) (k4)) (fun w hC=>Ya isAgg37 O hC.2.c3) ?_)))))))))))))
 refine Db O (Va O) (Db O (If (((i+1:Nat):Int)) O O) (Oa O (v:=.pointer (some ⟨rb,i+1,none⟩)) (fun w hC=>Gb (i:=((i+1:Nat):Int)) (i+1) Vj O O U U U) (Oa O (v:=.slice (some ⟨r (i+1),0,none⟩) (lb.length+1) (lb.length+1)) (fun w hC=>Ya isAgg42 O (hC.2.rest.rowCell U)) (Db O (Va O) (Db O (If (((j+1:Nat):Int)) O O) (Oa O (v:=.pointer (some ⟨r (i+1),j+1,none⟩)) (fun w hC=>Gb (i:=((j+1:Nat):Int)) (j+1) Nd O O U U U) (Oa O (v:=.int .i64 (R (i+1) (j+1))) (fun w hC=>Ya isAgg3 O (hC.2.rest.cell U U)) (Db O (If (P (i) (j)+R (i+1) (j+1)) O O) (Db O (Wb O) (Mc (Ga ?_)))))))))))
 refine Td (v:=.int .i64 (P (i) (j)+R (i+1) (j+1))) O O ?_
 exact ⟨O,hF.same⟩
theorem Bs (w0:World) (N0 cb pb rb:Nat) (la lb:List TreeN) (Aa Ab:Option Addr) (k1 k2 k3 k4:Nat) (q r:Nat→Nat) (P R:Nat→Nat→Int) (hK:Ck w0 N0 cb pb rb la lb Aa Ab k1 k2 k3 k4 q r P R) (i j:Nat) (hll:la.length≤64∧lb.length≤64) (hi:i < la.length) (hj:j≤lb.length) (hla:∀ i (h:i < la.length),la[i].1.length≤512) (hR:(0≤R (i+1) j∧R (i+1) j≤1000000)):Calls prog 19 #[.pointer (some ⟨cb,0,none⟩),.int .i64 ((i:Nat):Int),.int .i64 ((j:Nat):Int)] w0 (De fun v w'=>v=.int .i64 ((la[i].1.length:Int)+R (i+1) j)∧Same [] w0 w'):=by
 have hLa0:=hK.La
 refine Ka func19 O ntmps19 Kb (Dp _ _ _) ?_
 have hF:=FR.start w0 []
 refine Ia (Ca (Wb O) (Ea (Ha ?_)))
 refine Uc [] (.free 0 (.free 1 (.free 2 (.free 3 (.free 4 (.free 5 (.free 6 (.free 7 (.free 8 (.free 9 (.free 10 (.free 11 (.free 12 (.free 13 (.free 14 (.free 15 (.free 16 (.free 17 (.free 18 (.free 19 (.free 20 (.free 21 .nil)))))))))))))))))))))) hF ?_
 clear hF; intro w hF hE
 replace hK:=hK.ext hE
 clear hE
 refine ⟨fun wq=>FR w0 [] _ wq∧Ck wq N0 cb pb rb la lb Aa Ab k1 k2 k3 k4 q r P R,⟨hF,hK⟩,?_⟩
 refine Db O (Ue O) (Db O (Gg O) (Db O (Ec K1 O) (Oa O (v:=.slice Aa la.length k1) (fun w hC=>Ya isAgg47 O hC.2.c0) (Db O (Va O) ?_))))
 obtain ⟨ad0,P0,p0,Q0,q0,hA0,hk0,hx0,hy0⟩:=hLa0.node_elem (i:=i) U
 refine Oa O (v:=.pointer (some (ad0.add (i * 2)))) (fun w hC=>Pa (i:=(i:Nat)) Pr O hA0 O U U) (Oa O (v:=.pointer (some ((ad0.add (i * 2)).add 0))) (fun w hC=>Ph (a:=ad0.add (i * 2)) Xc O) (Oa O (v:=.slice (P0) ((la[i]).1.length) (p0)) (fun w hC=>Ya isAgg25 O (hC.1.cell0 (hk0 0 Kb))) (Db O (Df underlying25 O) (Db O (Ue O) (Db O (Gg O) (Db O (Ec Ci O) (Oa O (v:=.slice (some ⟨rb,0,none⟩) (la.length+1) (k4)) (fun w hC=>Ya isAgg37 O hC.2.c3) (Db O (Va O) (Db O (If (((i+1:Nat):Int)) O O) (Oa O (v:=.pointer (some ⟨rb,i+1,none⟩)) (fun w hC=>Gb (i:=((i+1:Nat):Int)) (i+1) Vj O O U U U) (Oa O (v:=.slice (some ⟨r (i+1),0,none⟩) (lb.length+1) (lb.length+1)) (fun w hC=>Ya isAgg42 O (hC.2.rest.rowCell U)) (Db O (Va O) (Oa O (v:=.pointer (some ⟨r (i+1),j,none⟩)) (fun w hC=>Gb (i:=((j:Nat):Int)) (j) Nd O O U U U) ?_)))))))))))))
 refine Oa O (v:=.int .i64 (R (i+1) (j))) (fun w hC=>Ya isAgg3 O (hC.2.rest.cell U U)) ?_
 refine Oa O (v:=.int .i64 (((la[i]).1.length:Int)+R (i+1) (j))) (fun w hC=>Il O O (Id O (by have:=hla i hi; omega) (by have:=hla i hi; omega))) ?_
 refine Db O (Wb O) (Mc (Ga ?_))
 refine Td (v:=.int .i64 (((la[i]).1.length:Int)+R (i+1) (j))) O O ?_
 exact ⟨O,hF.same⟩
theorem Fz (w0:World) (N0 cb pb rb:Nat) (la lb:List TreeN) (Aa Ab:Option Addr) (k1 k2 k3 k4:Nat) (q r:Nat→Nat) (P R:Nat→Nat→Int) (hK:Ck w0 N0 cb pb rb la lb Aa Ab k1 k2 k3 k4 q r P R) (i j:Nat) (hll:la.length≤64∧lb.length≤64) (hi:i≤la.length) (hj:j < lb.length) (hlb:∀ j (h:j < lb.length),lb[j].1.length≤512) (hR:(0≤R i (j+1)∧R i (j+1)≤1000000)):Calls prog 45 #[.pointer (some ⟨cb,0,none⟩),.int .i64 ((i:Nat):Int),.int .i64 ((j:Nat):Int)] w0 (De fun v w'=>v=.int .i64 ((lb[j].1.length:Int)+R i (j+1))∧Same [] w0 w'):=by
 have hLb0:=hK.Lb
 refine Ka func45 O ntmps45 Kb (Dp _ _ _) ?_
 have hF:=FR.start w0 []
 refine Ia (Ca (Wb O) (Ea (Ha ?_)))
 refine Uc [] (.free 0 (.free 1 (.free 2 (.free 3 (.free 4 (.free 5 (.free 6 (.free 7 (.free 8 (.free 9 (.free 10 (.free 11 (.free 12 (.free 13 (.free 14 (.free 15 (.free 16 (.free 17 (.free 18 (.free 19 (.free 20 (.free 21 .nil)))))))))))))))))))))) hF ?_
 clear hF; intro w hF hE
 replace hK:=hK.ext hE
 clear hE
 refine ⟨fun wq=>FR w0 [] _ wq∧Ck wq N0 cb pb rb la lb Aa Ab k1 k2 k3 k4 q r P R,⟨hF,hK⟩,?_⟩
 refine Db O (Ue O) (Db O (Gg O) (Db O (Ec I1 O) (Oa O (v:=.slice Ab lb.length k2) (fun w hC=>Ya isAgg47 O hC.2.c1) (Db O (Va O) ?_))))
 obtain ⟨ad0,P0,p0,Q0,q0,hA0,hk0,hx0,hy0⟩:=hLb0.node_elem (i:=j) U
 refine Oa O (v:=.pointer (some (ad0.add (j * 2)))) (fun w hC=>Pa (i:=(j:Nat)) Pr O hA0 O U U) (Oa O (v:=.pointer (some ((ad0.add (j * 2)).add 0))) (fun w hC=>Ph (a:=ad0.add (j * 2)) Xc O) (Oa O (v:=.slice (P0) ((lb[j]).1.length) (p0)) (fun w hC=>Ya isAgg25 O (hC.1.cell0 (hk0 0 Kb))) (Db O (Df underlying25 O) (Db O (Ue O) (Db O (Gg O) (Db O (Ec Ci O) (Oa O (v:=.slice (some ⟨rb,0,none⟩) (la.length+1) (k4)) (fun w hC=>Ya isAgg37 O hC.2.c3) (Db O (Va O) (Oa O (v:=.pointer (some ⟨rb,i,none⟩)) (fun w hC=>Gb (i:=((i:Nat):Int)) (i) Vj O O U U U) (Oa O (v:=.slice (some ⟨r (i),0,none⟩) (lb.length+1) (lb.length+1)) (fun w hC=>Ya isAgg42 O (hC.2.rest.rowCell U)) (Db O (Va O) (Db O (If (((j+1:Nat):Int)) O O) (Oa O (v:=.pointer (some ⟨r (i),j+1,none⟩)) (fun w hC=>Gb (i:=((j+1:Nat):Int)) (j+1) Nd O O U U U) ?_)))))))))))))
 refine Oa O (v:=.int .i64 (R (i) (j+1))) (fun w hC=>Ya isAgg3 O (hC.2.rest.cell U U)) ?_
 refine Oa O (v:=.int .i64 (((lb[j]).1.length:Int)+R (i) (j+1))) (fun w hC=>Il O O (Id O (by have:=hlb j hj; omega) (by have:=hlb j hj; omega))) ?_
 refine Db O (Wb O) (Mc (Ga ?_))
 refine Td (v:=.int .i64 (((lb[j]).1.length:Int)+R (i) (j+1))) O O ?_
 exact ⟨O,hF.same⟩
abbrev Tl (x:TreeN):Nat:=x.1.length
abbrev pN (x y:TreeN):Nat:=Ts x.1 x.2 y.1 y.2
theorem IF {xs ys:List TreeN} (hx:∀ x∈xs,Tl x≤512) (hy:∀ y∈ys,Tl y≤512):al Tl pN xs ys≤512 * (xs.length+ys.length):=by
  induction xs with
  | nil =>
    induction ys with
    | nil=>exact Nat.le_refl _
    | cons y ys ih =>
      have h1:=hy y Ma
      have h2:=ih (fun z hz=>hy z (by simp [hz]))
      rw [VG]; simp only [List.length_cons,List.length_nil] at *; omega
  | cons x xs ih =>
    have h1:=hx x Ma
    have h2:=ih (fun z hz=>hx z (by simp [hz]))
    have h3:=VE (sz:=Tl) (p:=pN) x xs ys
    simp only [List.length_cons]; omega
theorem Rep.node_block {S:Nat→Prop} {w:World} {l:List TreeN} {ad:Addr} {len c:Nat} (h:Rep S w (.slice (l.map Dm)) [.slice (some ad) len c]) (hi:0 < l.length):S ad.block:=by
  rw [Rep] at h
  obtain ⟨A,c',he,_,_,hr⟩:=h
  simp only [List.cons.injEq,Value.slice.injEq,and_true] at he
  obtain ⟨ad',hA,es,hc,hl⟩:=hr (by intro e; rw [List.map_eq_nil_iff] at e; subst e; simp at hi)
  rw [←he.1] at hA
  obtain rfl:=Option.some.inj hA
  have hlen:=hl.length
  have hpos:0 < es.length:=by
    rw [hlen]
    match l,hi with
    | x::l,_=>simp [Vf.sizeL,Dm,Vf,Hf]; omega
  exact (hc 0 hpos).2
theorem EN {w w':World} {E:List Nat} (hE:Same E w w') {a:Addr} {v:Value} (hb:a.block∉E) (h:w.cell? a=some v):w'.cell? a=some v:=by
  rw [←h]; exact World.cell?_of_block (w:=w) (hE.block _ (World.block_lt_of_cell? _ _ h) hb)
theorem FR.repD {w0 w:World} {Ds:List Nat} {bs_:List (Nat × Obj)} {S:Nat→Prop} {d:D} {cs:List Value} (hF:FR w0 Ds bs_ w) (hR:Rep S w0 d cs) (hS:∀ b,S b→b < w0.heap.size∧b∉Ds):Rep S w d cs:=hR.same hF.same (fun b hb hs=>(hS b hs).2 hb)
theorem FR.cellsD {w0 w:World} {Ds:List Nat} {bs_:List (Nat × Obj)} {a:Addr} {m:Nat} {cs:List Value} (hF:FR w0 Ds bs_ w) (hb:a.block∉Ds) (h:∀ j (hj:j < cs.length),w0.cell? ((a.add m).add j)=some cs[j]):∀ j (hj:j < cs.length),w.cell? ((a.add m).add j)=some cs[j]:=fun j hj =>
  EN hF.same (by rw [Mm,Mm]; exact hb) (h j hj)
theorem RN (w0:World) (N0 cb pb rb:Nat) (la lb:List TreeN) (Aa Ab:Option Addr) (k1 k2 k3 k4:Nat) (q r:Nat→Nat) (P R:Nat→Nat→Int) (hK:Ck w0 N0 cb pb rb la lb Aa Ab k1 k2 k3 k4 q r P R) (i j:Nat) (hll:la.length≤64∧lb.length≤64) (hi:i≤la.length) (hj:j≤lb.length) (hN0:N0≤w0.heap.size) (hRa:∀ x∈la,Xh x.1 x.2) (hRb:∀ x∈lb,Xh x.1 x.2) (hla:∀ x∈la,Tl x≤512) (hlb:∀ x∈lb,Tl x≤512) (hR1:i < la.length→R (i+1) j=((al Tl pN (la.drop (i+1)) (lb.drop (j)):Nat):Int)) (hR2:j < lb.length→R i (j+1)=((al Tl pN (la.drop (i)) (lb.drop (j+1)):Nat):Int)) (hR3:i < la.length→j < lb.length→R (i+1) (j+1)=((al Tl pN (la.drop (i+1)) (lb.drop (j+1)):Nat):Int)):Calls prog 30 #[.pointer (some ⟨cb,0,none⟩),.int .i64 ((i:Nat):Int),.int .i64 ((j:Nat):Int)] w0 (De fun v w'=>∃ P':Nat→Nat→Int,v=.int .i64 ((al Tl pN (la.drop (i)) (lb.drop (j)):Nat):Int)∧Ck w' N0 cb pb rb la lb Aa Ab k1 k2 k3 k4 q r P' R∧(∀ (h1:i < la.length) (h2:j < lb.length),P' i j=((pN la[i] lb[j]:Nat):Int))∧(∀ a b,¬(a=i∧b=j)→P' a b=P a b)∧Same (Rows q (la.length+1)) w0 w'):=by
 have hL0:=hK.La
 have hL1:=hK.Lb
 have hlo:=hK.lo
 have hS0:∀ b,b < N0→b < w0.heap.size∧b∉Rows q (la.length+1):=fun b hb=>⟨by omega,fun hm=>by obtain ⟨i,hi,rfl⟩:=Ml.1 hm; have:=hlo.2.2.2.1 i hi; omega⟩
 have hmx:∀ x y,al Tl pN (la.drop x) (lb.drop y)≤65536:=fun x y=>Nat.le_trans (IF (fun z hz=>hla z (List.mem_of_mem_drop hz)) (fun z hz=>hlb z (List.mem_of_mem_drop hz))) (by simp only [List.length_drop]; omega)
 have hQ1:i < la.length→0≤R (i+1) j∧R (i+1) j≤1000000:=fun h=>by have h1:=hmx (i+1) j; rw [hR1 h]; omega
 have hQ2:j < lb.length→0≤R i (j+1)∧R i (j+1)≤1000000:=fun h=>by have h1:=hmx i (j+1); rw [hR2 h]; omega
 have hQ3:i < la.length→j < lb.length→0≤R (i+1) (j+1)∧R (i+1) (j+1)≤1000000:=fun h h2=>by have h1:=hmx (i+1) (j+1); rw [hR3 h h2]; omega
 refine Ka func30 O ntmps30 Kb (Dp _ _ _) ?_
 have hF:=FR.start w0 (Rows q (la.length+1))
 refine Ia (Ca (Wb O) (Ea (Ha ?_)))
 refine Uc [] (.free 0 (.free 1 (.free 2 (.free 3 (.free 4 (.free 5 (.free 6 (.free 7 (.free 8 (.free 9 (.free 10 (.free 11 .nil)))))))))))) hF ?_
 clear hF; intro w hF hE
 replace hK:=hK.ext hE
 clear hE
 refine ⟨fun wq=>FR w0 (Rows q (la.length+1)) _ wq∧Ck wq N0 cb pb rb la lb Aa Ab k1 k2 k3 k4 q r P R,⟨hF,hK⟩,?_⟩
 refine Db O (Ue O) (Db O (Gg O) (Db O (Ec K1 O) (Oa O (v:=.slice Aa la.length k1) (fun w hC=>Ya isAgg47 O hC.2.c0) (Db O (Df underlying47 O) (Db O (Ue O) (Db O (Gg O) (Db O (Ec I1 O) (Oa O (v:=.slice Ab lb.length k2) (fun w hC=>Ya isAgg47 O hC.2.c1) (Db O (Df underlying47 O) (Db O (Wb O) (Db O (Wb O) (Mc (Ga ?_)))))))))))))
 refine Ha (Ta (Ia (Ca (Va O) (Ca (Va O) (Ca (Th O O) (Ca (Jc O) ?_))))))
 refine Hb (d:=23) O (fun hg0=>?_) (fun hg0=>?_)
 refine Ca (Va O) (Ca (Va O) (Ca (Th O O) (Ca (Ic O O) (Ca (Hc O) (Ea ?_)))))
 refine Yb O O (fun hc0=>?_) (fun hc0=>?_)
 refine Ia (Ca (Wb O) (Ea ?_))
 refine Td (v:=.int .i64 0) O O ?_
 exact ⟨P,congrArg (Value.int .i64) (by obtain rfl:i=la.length:=U; obtain rfl:j=lb.length:=U; rw [List.drop_length,List.drop_length]; rfl),hK,fun h1 _=>absurd h1 U,fun _ _ _=>rfl,hF.same⟩
 refine Ia (Ca (Va O) (Ca (Va O) (Ca (Th O O) (Ca (Hc O) (Ea ?_)))))
 refine Yb O O (fun hc1=>?_) (fun hc1=>?_)
 refine Ia (Ca (Ue O) (Ca (Va O) (Ca (Va O) ?_)))
 refine Pb (Fz _ N0 cb pb rb la lb Aa Ab k1 k2 k3 k4 q r P R hK i j hll U U (fun j h=>hlb _ (List.getElem_mem h)) (hQ2 U)) (Gd W6 O O O O) ?_
 rintro _ w ⟨rfl,hE⟩
 replace hF:=hF.ext hE
 replace hK:=hK.ext hE
 clear hE
 refine Ca (Wb O) (Ea ?_)
 refine Td (v:=.int .i64 ((lb[j].1.length:Int)+R i (j+1))) O O ?_
 exact ⟨P,congrArg (Value.int .i64) (by have h:=hR2 U; obtain rfl:i=la.length:=U; rw [h,List.drop_length,List.drop_eq_getElem_cons (show j < lb.length by omega),VG]; simp only [Tl] at *; omega),hK,fun h1 _=>absurd h1 U,fun _ _ _=>rfl,hF.same⟩
 refine Ia (Ca (Va O) (Ca (Va O) (Ca (Th O O) (Ca (Hc O) (Ea ?_)))))
 refine Yb O O (fun hc2=>?_) (fun hc2=>?_)
 refine Ia (Ca (Ue O) (Ca (Va O) (Ca (Va O) ?_)))
 refine Pb (Bs _ N0 cb pb rb la lb Aa Ab k1 k2 k3 k4 q r P R hK i j hll U U (fun j h=>hla _ (List.getElem_mem h)) (hQ1 U)) (Gd O2 O O O O) ?_
 rintro _ w ⟨rfl,hE⟩
 replace hF:=hF.ext hE
 replace hK:=hK.ext hE
 clear hE
 refine Ca (Wb O) (Ea ?_)
 refine Td (v:=.int .i64 ((la[i].1.length:Int)+R (i+1) j)) O O ?_
 exact ⟨P,congrArg (Value.int .i64) (by have h:=hR1 U; obtain rfl:j=lb.length:=U; rw [h,List.drop_length,List.drop_eq_getElem_cons (show i < la.length by omega),FN]; simp only [Tl] at *; omega),hK,fun _ h2=>absurd h2 U,fun _ _ _=>rfl,hF.same⟩
 refine Qa (Eb (Ga (Ha ?_)))
 have hi1:i < la.length:=by omega
 have hj1:j < lb.length:=by omega
 have hcb:pN la[i] lb[j]≤la[i].1.length+lb[j].1.length:=(Yp (ls:=la[i].1) (fs:=la[i].2) (gs:=lb[j].1) (hs:=lb[j].2)).1
 have q1:la[i].1.length≤512:=hla _ (List.getElem_mem hi1)
 have q2:lb[j].1.length≤512:=hlb _ (List.getElem_mem hj1)
 have hLa0:=hL0
 have hLb0:=hL1
 refine Uc [27] (.free 0 (.free 1 (.free 2 (.free 3 (.free 4 (.free 5 (.free 6 (.free 7 (.free 8 (.free 9 (.free 10 (.free 11 (.free 12 (.free 13 (.free 14 (.free 15 (.free 16 (.free 17 (.free 18 (.free 19 (.free 20 (.free 21 (.act 22 (.free 23 (.free 24 (.free 26 (.alt 25 (.act 27 .nil) (.act 27 (.act 25 .nil))))))))))))))))))))))))))))) hF ?_
 clear hF; intro w hF hE
 replace hK:=hK.ext hE
 clear hE
 refine ⟨fun wq=>FR w0 (Rows q (la.length+1)) _ wq∧Ck wq N0 cb pb rb la lb Aa Ab k1 k2 k3 k4 q r P R,⟨hF,hK⟩,?_⟩
 refine Db O (Ue O) (Db O (Gg O) (Db O (Ec Hk O) (Oa O (v:=.slice (some ⟨pb,0,none⟩) (la.length+1) (k3)) (fun w hC=>Ya isAgg37 O hC.2.c2) (Db O (Va O) (Oa O (v:=.pointer (some ⟨pb,i,none⟩)) (fun w hC=>Gb (i:=((i:Nat):Int)) (i) Vj O O U U U) (Oa O (v:=.slice (some ⟨q (i),0,none⟩) (lb.length+1) (lb.length+1)) (fun w hC=>Ya isAgg42 O (hC.2.pair.rowCell U)) (Db O (Va O) (Db O (Ue O) (Db O (Gg O) (Db O (Ec K1 O) (Oa O (v:=.slice Aa la.length k1) (fun w hC=>Ya isAgg47 O hC.2.c0) (Db O (Va O) ?_))))))))))))
 obtain ⟨ad1,P1,p1,Q1,q1,hA1,hk1,hx1,hy1⟩:=hLa0.node_elem (i:=i) U
 refine Oa O (v:=.pointer (some (ad1.add (i * 2)))) (fun w hC=>Pa (i:=(i:Nat)) Pr O hA1 O U U) ?_
 refine Oa O (fun w hC=>Fc (l:=[.slice (P1) ((la[i]).1.length) (p1),.slice (Q1) ((la[i]).2.length) (q1)]) isAgg56 sizeOf56 O O (hC.1.cellsD (by have h_:=hLa0; rw [hA1] at h_; exact fun hm=>(hS0 _ (Rep.node_block h_ U)).2 hm) hk1)) ?_
 refine Db O (Ue O) (Db O (Gg O) (Db O (Ec I1 O) (Oa O (v:=.slice Ab lb.length k2) (fun w hC=>Ya isAgg47 O hC.2.c1) (Db O (Va O) ?_))))
 obtain ⟨ad2,P2,p2,Q2,q2,hA2,hk2,hx2,hy2⟩:=hLb0.node_elem (i:=j) U
 refine Oa O (v:=.pointer (some (ad2.add (j * 2)))) (fun w hC=>Pa (i:=(j:Nat)) Pr O hA2 O U U) ?_
 refine Oa O (fun w hC=>Fc (l:=[.slice (P2) ((lb[j]).1.length) (p2),.slice (Q2) ((lb[j]).2.length) (q2)]) isAgg56 sizeOf56 O O (hC.1.cellsD (by have h_:=hLb0; rw [hA2] at h_; exact fun hm=>(hS0 _ (Rep.node_block h_ U)).2 hm) hk2)) ?_
 refine Ye O (CB _ _ _ la[i].1 la[i].2 P1 Q1 p1 q1 (hF.repD hx1 hS0) (hF.repD hy1 hS0) lb[j].1 lb[j].2 P2 Q2 p2 q2 (hF.repD hx2 hS0) (hF.repD hy2 hS0) (hRa _ (List.getElem_mem _)) (hRb _ (List.getElem_mem _))) (Vb MT O O O) ?_
 rintro _ w ⟨rfl,hE⟩
 replace hF:=hF.ext hE
 replace hK:=hK.ext hE
 clear hE
 refine ⟨⟨hF,hK⟩,?_⟩
 refine Db O (Ul O) (Db O (Fm O O) (Oa O (v:=.pointer (some ⟨q (i),j,none⟩)) (fun w hC=>Gb (i:=((j:Nat):Int)) (j) Nd O O U U U) ?_))
 refine Mk ?_ ?_
 refine Xe O (v:=.int .i64 0) (Gj O O) (⟨hF,hK⟩) ?_
 refine Ht O hF sizeOf3 O O (hK.pair.row i U) U (.inl (Ml.2 ⟨i,by omega,O⟩)) Ma ?_
 clear hF; intro w hF hE hnew
 replace hK:=hK.putP U hE hnew
 clear hE hnew
 refine Mc (Ga (Ia (Ca (Ue O) (Ca (Va O) (Ca (Va O) ?_)))))
 refine Pb (Wx _ N0 cb pb rb la lb Aa Ab k1 k2 k3 k4 q r (Hj P i j ((pN la[i] lb[j]:Nat):Int)) R hK i j hll U U (by rw [Fk]; omega) (hQ3 U U)) (Gd UB O O O O) ?_
 rintro _ w ⟨rfl,hE⟩
 replace hF:=hF.ext hE
 replace hK:=hK.ext hE
 clear hE
 refine Ca (Ue O) (Ca (Va O) (Ca (Va O) ?_))
 refine Pb (Bs _ N0 cb pb rb la lb Aa Ab k1 k2 k3 k4 q r (Hj P i j ((pN la[i] lb[j]:Nat):Int)) R hK i j hll U U (fun j h=>hla _ (List.getElem_mem h)) (hQ1 U)) (Gd O2 O O O O) ?_
 rintro _ w ⟨rfl,hE⟩
 replace hF:=hF.ext hE
 replace hK:=hK.ext hE
 clear hE
 refine Ca (Ue O) (Ca (Va O) (Ca (Va O) ?_))
 refine Pb (Fz _ N0 cb pb rb la lb Aa Ab k1 k2 k3 k4 q r (Hj P i j ((pN la[i] lb[j]:Nat):Int)) R hK i j hll U U (fun j h=>hlb _ (List.getElem_mem h)) (hQ2 U)) (Gd W6 O O O O) ?_
 rintro _ w ⟨rfl,hE⟩
 replace hF:=hF.ext hE
 replace hK:=hK.ext hE
 clear hE
 refine Ja (v:=.int .i64 (min (min ((Hj P i j ((pN la[i] lb[j]:Nat):Int)) i j+R (i+1) (j+1)) ((la[i].1.length:Int)+R (i+1) j)) ((lb[j].1.length:Int)+R i (j+1)))) (W9 O O O) (Ca (Wb O) (Ea ?_))
 refine Ub (Rb (Sa (An (v:=.int .i64 (min (min ((Hj P i j ((pN la[i] lb[j]:Nat):Int)) i j+R (i+1) (j+1)) ((la[i].1.length:Int)+R (i+1) j)) ((lb[j].1.length:Int)+R i (j+1)))) O O) ?_))
 exact ⟨(Hj P i j ((pN la[i] lb[j]:Nat):Int)),congrArg (Value.int .i64) (by rw [Fk,hR1 U,hR2 U,hR3 U U,List.drop_eq_getElem_cons hi1,List.drop_eq_getElem_cons hj1,T6,←List.drop_eq_getElem_cons hi1,←List.drop_eq_getElem_cons hj1]; simp only [Tl] at *; omega),hK,fun _ _=>Fk _ _ _ _,fun a b h=>Ns h,hF.same⟩
 refine Ht O hF sizeOf3 O O (hK.pair.row i U) U (.inl (Ml.2 ⟨i,by omega,O⟩)) Ma ?_
 clear hF; intro w hF hE hnew
 replace hK:=hK.putP U hE hnew
 clear hE hnew
 refine Xe O (v:=.int .i64 0) (Gj O O) (trivial) ?_
 refine Mc (Ga (Ia (Ca (Ue O) (Ca (Va O) (Ca (Va O) ?_)))))
 refine Pb (Wx _ N0 cb pb rb la lb Aa Ab k1 k2 k3 k4 q r (Hj P i j ((pN la[i] lb[j]:Nat):Int)) R hK i j hll U U (by rw [Fk]; omega) (hQ3 U U)) (Gd UB O O O O) ?_
 rintro _ w ⟨rfl,hE⟩
 replace hF:=hF.ext hE
 replace hK:=hK.ext hE
 clear hE
 refine Ca (Ue O) (Ca (Va O) (Ca (Va O) ?_))
 refine Pb (Bs _ N0 cb pb rb la lb Aa Ab k1 k2 k3 k4 q r (Hj P i j ((pN la[i] lb[j]:Nat):Int)) R hK i j hll U U (fun j h=>hla _ (List.getElem_mem h)) (hQ1 U)) (Gd O2 O O O O) ?_
 rintro _ w ⟨rfl,hE⟩
 replace hF:=hF.ext hE
 replace hK:=hK.ext hE
 clear hE
 refine Ca (Ue O) (Ca (Va O) (Ca (Va O) ?_))
 refine Pb (Fz _ N0 cb pb rb la lb Aa Ab k1 k2 k3 k4 q r (Hj P i j ((pN la[i] lb[j]:Nat):Int)) R hK i j hll U U (fun j h=>hlb _ (List.getElem_mem h)) (hQ2 U)) (Gd W6 O O O O) ?_
 rintro _ w ⟨rfl,hE⟩
 replace hF:=hF.ext hE
 replace hK:=hK.ext hE
 clear hE
 refine Ja (v:=.int .i64 (min (min ((Hj P i j ((pN la[i] lb[j]:Nat):Int)) i j+R (i+1) (j+1)) ((la[i].1.length:Int)+R (i+1) j)) ((lb[j].1.length:Int)+R i (j+1)))) (W9 O O O) (Ca (Wb O) (Ea ?_))
 refine Ub (Rb (Sa (An (v:=.int .i64 (min (min ((Hj P i j ((pN la[i] lb[j]:Nat):Int)) i j+R (i+1) (j+1)) ((la[i].1.length:Int)+R (i+1) j)) ((lb[j].1.length:Int)+R i (j+1)))) O O) ?_))
 exact ⟨(Hj P i j ((pN la[i] lb[j]:Nat):Int)),congrArg (Value.int .i64) (by rw [Fk,hR1 U,hR2 U,hR3 U U,List.drop_eq_getElem_cons hi1,List.drop_eq_getElem_cons hj1,T6,←List.drop_eq_getElem_cons hi1,←List.drop_eq_getElem_cons hj1]; simp only [Tl] at *; omega),hK,fun _ _=>Fk _ _ _ _,fun a b h=>Ns h,hF.same⟩
 refine Da (Da (Da (Ca (Gc O O) (Ca (Hc O) (Ea (Ie O (Ia (Ca (Va O) (Ca (Va O) (Ca (Th O O) (Ca (Hc O) ?_)))))))))))
 refine Ea ?_
 refine Yb O O (fun hc1=>?_) (fun hc1=>?_)
 refine Ia (Ca (Ue O) (Ca (Va O) (Ca (Va O) ?_)))
 refine Pb (Fz _ N0 cb pb rb la lb Aa Ab k1 k2 k3 k4 q r P R hK i j hll U U (fun j h=>hlb _ (List.getElem_mem h)) (hQ2 U)) (Gd W6 O O O O) ?_
 rintro _ w ⟨rfl,hE⟩
 replace hF:=hF.ext hE
 replace hK:=hK.ext hE
 clear hE
 refine Ca (Wb O) (Ea ?_)
 refine Td (v:=.int .i64 ((lb[j].1.length:Int)+R i (j+1))) O O ?_
 exact ⟨P,congrArg (Value.int .i64) (by have h:=hR2 U; obtain rfl:i=la.length:=U; rw [h,List.drop_length,List.drop_eq_getElem_cons (show j < lb.length by omega),VG]; simp only [Tl] at *; omega),hK,fun h1 _=>absurd h1 U,fun _ _ _=>rfl,hF.same⟩
 refine Ia (Ca (Va O) (Ca (Va O) (Ca (Th O O) (Ca (Hc O) (Ea ?_)))))
 refine Yb O O (fun hc2=>?_) (fun hc2=>?_)
 refine Ia (Ca (Ue O) (Ca (Va O) (Ca (Va O) ?_)))
 refine Pb (Bs _ N0 cb pb rb la lb Aa Ab k1 k2 k3 k4 q r P R hK i j hll U U (fun j h=>hla _ (List.getElem_mem h)) (hQ1 U)) (Gd O2 O O O O) ?_
 rintro _ w ⟨rfl,hE⟩
 replace hF:=hF.ext hE
 replace hK:=hK.ext hE
 clear hE
 refine Ca (Wb O) (Ea ?_)
 refine Td (v:=.int .i64 ((la[i].1.length:Int)+R (i+1) j)) O O ?_
 exact ⟨P,congrArg (Value.int .i64) (by have h:=hR1 U; obtain rfl:j=lb.length:=U; rw [h,List.drop_length,List.drop_eq_getElem_cons (show i < la.length by omega),FN]; simp only [Tl] at *; omega),hK,fun _ h2=>absurd h2 U,fun _ _ _=>rfl,hF.same⟩
 refine Qa (Eb (Ga (Ha ?_)))
 have hi1:i < la.length:=by omega
 have hj1:j < lb.length:=by omega
 have hcb:pN la[i] lb[j]≤la[i].1.length+lb[j].1.length:=(Yp (ls:=la[i].1) (fs:=la[i].2) (gs:=lb[j].1) (hs:=lb[j].2)).1
 have q1:la[i].1.length≤512:=hla _ (List.getElem_mem hi1)
 have q2:lb[j].1.length≤512:=hlb _ (List.getElem_mem hj1)
 have hLa0:=hL0
 have hLb0:=hL1
 refine Uc [27] (.free 0 (.free 1 (.free 2 (.free 3 (.free 4 (.free 5 (.free 6 (.free 7 (.free 8 (.free 9 (.free 10 (.free 11 (.free 12 (.free 13 (.free 14 (.free 15 (.free 16 (.free 17 (.free 18 (.free 19 (.free 20 (.free 21 (.act 22 (.free 23 (.free 24 (.free 26 (.alt 25 (.act 27 .nil) (.act 27 (.act 25 .nil))))))))))))))))))))))))))))) hF ?_
 clear hF; intro w hF hE
 replace hK:=hK.ext hE
 clear hE
 refine ⟨fun wq=>FR w0 (Rows q (la.length+1)) _ wq∧Ck wq N0 cb pb rb la lb Aa Ab k1 k2 k3 k4 q r P R,⟨hF,hK⟩,?_⟩
 refine Db O (Ue O) (Db O (Gg O) (Db O (Ec Hk O) (Oa O (v:=.slice (some ⟨pb,0,none⟩) (la.length+1) (k3)) (fun w hC=>Ya isAgg37 O hC.2.c2) (Db O (Va O) (Oa O (v:=.pointer (some ⟨pb,i,none⟩)) (fun w hC=>Gb (i:=((i:Nat):Int)) (i) Vj O O U U U) (Oa O (v:=.slice (some ⟨q (i),0,none⟩) (lb.length+1) (lb.length+1)) (fun w hC=>Ya isAgg42 O (hC.2.pair.rowCell U)) (Db O (Va O) (Db O (Ue O) (Db O (Gg O) (Db O (Ec K1 O) (Oa O (v:=.slice Aa la.length k1) (fun w hC=>Ya isAgg47 O hC.2.c0) (Db O (Va O) ?_))))))))))))
 obtain ⟨ad3,P3,p3,Q3,q3,hA3,hk3,hx3,hy3⟩:=hLa0.node_elem (i:=i) U
 refine Oa O (v:=.pointer (some (ad3.add (i * 2)))) (fun w hC=>Pa (i:=(i:Nat)) Pr O hA3 O U U) ?_
 refine Oa O (fun w hC=>Fc (l:=[.slice (P3) ((la[i]).1.length) (p3),.slice (Q3) ((la[i]).2.length) (q3)]) isAgg56 sizeOf56 O O (hC.1.cellsD (by have h_:=hLa0; rw [hA3] at h_; exact fun hm=>(hS0 _ (Rep.node_block h_ U)).2 hm) hk3)) ?_
 refine Db O (Ue O) (Db O (Gg O) (Db O (Ec I1 O) (Oa O (v:=.slice Ab lb.length k2) (fun w hC=>Ya isAgg47 O hC.2.c1) (Db O (Va O) ?_))))
 obtain ⟨ad4,P4,p4,Q4,q4,hA4,hk4,hx4,hy4⟩:=hLb0.node_elem (i:=j) U
 refine Oa O (v:=.pointer (some (ad4.add (j * 2)))) (fun w hC=>Pa (i:=(j:Nat)) Pr O hA4 O U U) ?_
 refine Oa O (fun w hC=>Fc (l:=[.slice (P4) ((lb[j]).1.length) (p4),.slice (Q4) ((lb[j]).2.length) (q4)]) isAgg56 sizeOf56 O O (hC.1.cellsD (by have h_:=hLb0; rw [hA4] at h_; exact fun hm=>(hS0 _ (Rep.node_block h_ U)).2 hm) hk4)) ?_
 refine Ye O (CB _ _ _ la[i].1 la[i].2 P3 Q3 p3 q3 (hF.repD hx3 hS0) (hF.repD hy3 hS0) lb[j].1 lb[j].2 P4 Q4 p4 q4 (hF.repD hx4 hS0) (hF.repD hy4 hS0) (hRa _ (List.getElem_mem _)) (hRb _ (List.getElem_mem _))) (Vb MT O O O) ?_
 rintro _ w ⟨rfl,hE⟩
 replace hF:=hF.ext hE
 replace hK:=hK.ext hE
 clear hE
 refine ⟨⟨hF,hK⟩,?_⟩
 refine Db O (Ul O) (Db O (Fm O O) (Oa O (v:=.pointer (some ⟨q (i),j,none⟩)) (fun w hC=>Gb (i:=((j:Nat):Int)) (j) Nd O O U U U) ?_))
 refine Mk ?_ ?_
 refine Xe O (v:=.int .i64 0) (Gj O O) (⟨hF,hK⟩) ?_
 refine Ht O hF sizeOf3 O O (hK.pair.row i U) U (.inl (Ml.2 ⟨i,by omega,O⟩)) Ma ?_
 clear hF; intro w hF hE hnew
 replace hK:=hK.putP U hE hnew
 clear hE hnew
 refine Mc (Ga (Ia (Ca (Ue O) (Ca (Va O) (Ca (Va O) ?_)))))
 refine Pb (Wx _ N0 cb pb rb la lb Aa Ab k1 k2 k3 k4 q r (Hj P i j ((pN la[i] lb[j]:Nat):Int)) R hK i j hll U U (by rw [Fk]; omega) (hQ3 U U)) (Gd UB O O O O) ?_
 rintro _ w ⟨rfl,hE⟩
 replace hF:=hF.ext hE
 replace hK:=hK.ext hE
 clear hE
 refine Ca (Ue O) (Ca (Va O) (Ca (Va O) ?_))
 refine Pb (Bs _ N0 cb pb rb la lb Aa Ab k1 k2 k3 k4 q r (Hj P i j ((pN la[i] lb[j]:Nat):Int)) R hK i j hll U U (fun j h=>hla _ (List.getElem_mem h)) (hQ1 U)) (Gd O2 O O O O) ?_
 rintro _ w ⟨rfl,hE⟩
 replace hF:=hF.ext hE
 replace hK:=hK.ext hE
 clear hE
 refine Ca (Ue O) (Ca (Va O) (Ca (Va O) ?_))
 refine Pb (Fz _ N0 cb pb rb la lb Aa Ab k1 k2 k3 k4 q r (Hj P i j ((pN la[i] lb[j]:Nat):Int)) R hK i j hll U U (fun j h=>hlb _ (List.getElem_mem h)) (hQ2 U)) (Gd W6 O O O O) ?_
 rintro _ w ⟨rfl,hE⟩
 replace hF:=hF.ext hE
 replace hK:=hK.ext hE
 clear hE
 refine Ja (v:=.int .i64 (min (min ((Hj P i j ((pN la[i] lb[j]:Nat):Int)) i j+R (i+1) (j+1)) ((la[i].1.length:Int)+R (i+1) j)) ((lb[j].1.length:Int)+R i (j+1)))) (W9 O O O) (Ca (Wb O) (Ea ?_))
 refine Ub (Rb (Sa (An (v:=.int .i64 (min (min ((Hj P i j ((pN la[i] lb[j]:Nat):Int)) i j+R (i+1) (j+1)) ((la[i].1.length:Int)+R (i+1) j)) ((lb[j].1.length:Int)+R i (j+1)))) O O) ?_))
 exact ⟨(Hj P i j ((pN la[i] lb[j]:Nat):Int)),congrArg (Value.int .i64) (by rw [Fk,hR1 U,hR2 U,hR3 U U,List.drop_eq_getElem_cons hi1,List.drop_eq_getElem_cons hj1,T6,←List.drop_eq_getElem_cons hi1,←List.drop_eq_getElem_cons hj1]; simp only [Tl] at *; omega),hK,fun _ _=>Fk _ _ _ _,fun a b h=>Ns h,hF.same⟩
 refine Ht O hF sizeOf3 O O (hK.pair.row i U) U (.inl (Ml.2 ⟨i,by omega,O⟩)) Ma ?_
 clear hF; intro w hF hE hnew
 replace hK:=hK.putP U hE hnew
 clear hE hnew
 refine Xe O (v:=.int .i64 0) (Gj O O) (trivial) ?_
 refine Mc (Ga (Ia (Ca (Ue O) (Ca (Va O) (Ca (Va O) ?_)))))
 refine Pb (Wx _ N0 cb pb rb la lb Aa Ab k1 k2 k3 k4 q r (Hj P i j ((pN la[i] lb[j]:Nat):Int)) R hK i j hll U U (by rw [Fk]; omega) (hQ3 U U)) (Gd UB O O O O) ?_
 rintro _ w ⟨rfl,hE⟩
 replace hF:=hF.ext hE
 replace hK:=hK.ext hE
 clear hE
 refine Ca (Ue O) (Ca (Va O) (Ca (Va O) ?_))
 refine Pb (Bs _ N0 cb pb rb la lb Aa Ab k1 k2 k3 k4 q r (Hj P i j ((pN la[i] lb[j]:Nat):Int)) R hK i j hll U U (fun j h=>hla _ (List.getElem_mem h)) (hQ1 U)) (Gd O2 O O O O) ?_
 rintro _ w ⟨rfl,hE⟩
 replace hF:=hF.ext hE
 replace hK:=hK.ext hE
 clear hE
 refine Ca (Ue O) (Ca (Va O) (Ca (Va O) ?_))
 refine Pb (Fz _ N0 cb pb rb la lb Aa Ab k1 k2 k3 k4 q r (Hj P i j ((pN la[i] lb[j]:Nat):Int)) R hK i j hll U U (fun j h=>hlb _ (List.getElem_mem h)) (hQ2 U)) (Gd W6 O O O O) ?_
 rintro _ w ⟨rfl,hE⟩
 replace hF:=hF.ext hE
 replace hK:=hK.ext hE
 clear hE
 refine Ja (v:=.int .i64 (min (min ((Hj P i j ((pN la[i] lb[j]:Nat):Int)) i j+R (i+1) (j+1)) ((la[i].1.length:Int)+R (i+1) j)) ((lb[j].1.length:Int)+R i (j+1)))) (W9 O O O) (Ca (Wb O) (Ea ?_))
 refine Ub (Rb (Sa (An (v:=.int .i64 (min (min ((Hj P i j ((pN la[i] lb[j]:Nat):Int)) i j+R (i+1) (j+1)) ((la[i].1.length:Int)+R (i+1) j)) ((lb[j].1.length:Int)+R i (j+1)))) O O) ?_))
 exact ⟨(Hj P i j ((pN la[i] lb[j]:Nat):Int)),congrArg (Value.int .i64) (by rw [Fk,hR1 U,hR2 U,hR3 U U,List.drop_eq_getElem_cons hi1,List.drop_eq_getElem_cons hj1,T6,←List.drop_eq_getElem_cons hi1,←List.drop_eq_getElem_cons hj1]; simp only [Tl] at *; omega),hK,fun _ _=>Fk _ _ _ _,fun a b h=>Ns h,hF.same⟩
end Go.Scarf
namespace Go.Scarf
open Go.RowKit Go.Proofs Go.Proofs.Tryz
def Uu (l:List Tree):Nat:=(l.map fun x=>(Uf x).length).sum
def We (x:Tree):TreeN:=(Uf x,Hh x)
def Zg (l:List Tree):Int:=if l.all Je=true then (if 64 < l.length then 6 else if 512 < Uu l then 6 else 0) else 1
theorem Ou {l:List Tree} {j:Nat} (h:j < l.length):Uu (l.take (j+1))=Uu (l.take j)+(Uf l[j]).length:=by
  unfold Uu
  rw [List.take_succ_eq_append_getElem h,List.map_append,List.sum_append]; simp only [List.map_cons,List.map_nil,List.sum_cons,List.sum_nil,Nat.add_zero]
theorem U6 (l:List Tree) (j:Nat):Uu (l.take j)≤Uu l:=by
  unfold Uu
  conv=>rhs; rw [←List.take_append_drop j l]
  rw [List.map_append,List.sum_append]; omega
theorem D3 {l:List Tree} {j:Nat} {h:j < l.length} (hr:Je l[j]=false):Zg l=1:=by
  unfold Zg
  rw [if_neg]
  intro ha
  rw [List.all_eq_true.1 ha l[j] (List.getElem_mem h)] at hr
  cases hr
theorem Xo {l:List Tree} {j:Nat} (hs:∀ i (h:i < l.length),i < j→Je l[i]=true) (hj:l.length≤j):l.all Je=true:=by
  rw [List.all_eq_true]
  intro x hx
  obtain ⟨i,hi,rfl⟩:=List.getElem_of_mem hx
  exact hs i hi U
theorem R4 {l:List Tree} {j:Nat} (hs:∀ i (h:i < l.length),i < j→Je l[i]=true) (hj:∀ h:j < l.length,Je l[j]=true):∀ i (h:i < l.length),i < j+1→Je l[i]=true:=fun i h h2=>by
  by_cases e:i=j
  · subst e; exact hj h
  · exact hs i h U
theorem N2 {l:List Tree} {j:Nat} (h:j < l.length):(l.take (j+1)).map (fun x=>Dm (We x))=(l.take j).map (fun x=>Dm (We x))++[Dm (Uf l[j],Hh l[j])]:=by
  rw [List.take_succ_eq_append_getElem h,List.map_append]; rfl
def Yj (x:Tree):Prop:=U4 x∧Oc x≤256∧Lf x≤16777216
theorem CI (l:List Tree) (A:Option Addr) (c:Nat) (S:Nat→Prop) (w0:World) (hG:Gl w0) (hX:Rep S w0 (.slice (Wc l)) [.slice A l.length c]) (hok:∀ x∈l,Yj x):Calls prog 16 #[.slice A l.length c] w0 (De fun v w'=>(Zg l≠0∧v=.tuple #[.slice none 0 0,.int .i64 (Zg l)]∧Same [] w0 w')∨(Zg l=0∧∃ (A':Option Addr) (c':Nat),v=.tuple #[.slice A' l.length c',.int .i64 0]∧Rep (Btw w0 w') w' (.slice ((l.map We).map Dm)) [.slice A' l.length c']∧Same [] w0 w')):=by
 have hXl:=hX.slice_len
 rw [Cf] at hXl
 refine Ka func16 O ntmps16 Kb (Sc _) ?_
 have hF:=FR.start w0 []
 refine Ia (Ca (Sh O) (Ca (Wb O) (Ea (Ha (Ia (Ca (Yd O) (Ca (Df underlying22 O) (Ca (Va O) (Ea ?_)))))))))
 refine Ta ?_
 refine Lc (fun μ σ w=>∃ (j:Nat),μ=l.length - j∧(j≤l.length)∧(∀ i (h:i < l.length),i < j→Je l[i]=true)∧AllEq σ [(0,.slice A l.length c),(12,.slice A l.length c),(13,.int .i64 ((l.length:Nat))),(14,.int .i64 ((j:Int)))]∧FR w0 [] [] w) _ ⟨0,O,U,(fun i _ h=>by omega),Gm,hF⟩ ?_
 clear hF; rintro μ σ w ⟨j,rfl,hj,hs_,hs,hF⟩
 refine Cg.slots hs ?_
 clear hs; intro σ
 refine Ia (Ca (Yg O O) (Ea (Ha ?_)))
 refine Yb O O (fun hc0=>?_) (fun hc0=>?_)
 refine Qa (Ga (Ha (Ta (Ia ?_))))
 obtain ⟨ad0,cs0,hA0,hl0,hk0,hx0⟩:=hX.tree_elem (i:=j) U
 have ho0:=hx0.one_
 refine Ja (v:=.pointer (some (ad0.add (j * 4)))) (Pa (i:=(j:Int)) Mg O hA0 O U U) (Ja (v:=.agg (List.toArray cs0)) (Fc (l:=cs0) isAgg27 sizeOf27 O hl0 (hF.cells0 hk0)) ?_)
 refine Tx (l:=cs0) hF zeroValue27 (by rw [hl0]; exact sizeOf27) (by rw [hl0]; rfl) (v:=.agg (List.toArray cs0)) O O (ho0) O ?_
 clear hF; rintro b1 w hb1 hF -
 refine Bc (Ja (v:=.agg (List.toArray cs0)) (Fc (l:=cs0) isAgg27 sizeOf27 O hl0 (hF.cellsAll 0 O)) ?_)
 refine Jb hF (N8 l[j] (Nat.le_trans (hok _ (List.getElem_mem (l:=l) (n:=j) U)).2.1 Ua) _ _ cs0 (hF.rep hx0) (hok _ (List.getElem_mem (l:=l) (n:=j) U)).1 (hG.ext hF.same)) (Cb MP O O) ?_
 clear hF; intro w hF
 refine Ca (Pn O) (Ea ?_)
 refine Mi O O (fun hc1=>?_) (fun hc1=>?_)
 refine Ia (Ca (Sh O) (Ca (Wb O) (Ea ?_)))
 refine Ub (Rb (Sa (Ld (v:=.slice _ _ _) (x:=.int .i64 1) O O O) ?_))
 have he:Zg l=1:=D3 (j:=j) (h:=by omega) (by simp_all)
 exact .inl ⟨by rw [he]; decide,by rw [he],hF.same⟩
 refine Qa (Eb (Ga (Fa (Ca (If (((j+1:Nat):Int)) O O) (Ca (Va O) (Xa ?_))))))
 refine Ib ⟨_,?_,j+1,O,U,(R4 hs_ (fun _=>by simp_all)),Gm,hF.drop 1⟩
 omega
 refine Dc (Cc O ?_)
 refine Ga (Ha (Ia (Ca (Yd O) (Ca (Df underlying22 O) (Ca (Ho O O) (Ea ?_))))))
 refine Yb O O (fun hc2=>?_) (fun hc2=>?_)
 refine Ia (Ca (Sh O) (Ca (Wb O) (Ea ?_)))
 refine Ub (Rb (Sa (Ld (v:=.slice _ _ _) (x:=.int .i64 6) O O O) ?_))
 have he:Zg l=6:=by rw [Zg,if_pos (Xo hs_ U),if_pos U]
 exact .inl ⟨by rw [he]; decide,by rw [he],hF.same⟩
 refine Qa (Ga (Ia (Ca (Sh O) (Bc (Ca (Wb O) (Ea (Ha (Ha ?_))))))))
 refine Fa (Ca (Yd O) (Ca (Df underlying22 O) (Ca (Va O) (Ea (Ta ?_)))))
 have hall:∀ i (h:i < l.length),Je l[i]=true:=fun i h=>hs_ i h U
 refine Lc (fun μ σ w=>∃ (j:Nat),∃ (A1:Option Addr),∃ (c1:Nat),∃ (so:List (Nat × Obj)),∃ (vals:List Value),μ=l.length - j∧(j≤l.length)∧(SlB 56 2 A1 j c1 vals so)∧(RX w0 ([]++so.map (·.1)) w ((l.take j).map fun x=>Dm (We x)) vals)∧(Uu (l.take j)≤512)∧AllEq σ [(6,.slice A1 j c1),(7,.int .i64 (512 - ((Uu (l.take j):Nat):Int))),(25,.slice A l.length c),(26,.int .i64 ((l.length:Nat))),(27,.int .i64 ((j:Int)))]∧FR w0 [] ([]++(so++[])) w) _ ⟨0,none,0,[],[],O,(Nat.zero_le _),(SlB.nil _ _),(RX.nil),(by simp [Uu]),Am,hF⟩ ?_
 clear hF; rintro μ σ w ⟨j,A1,c1,so,vals,rfl,hj,hS,hDX,ht_,hs,hF⟩
 refine Cg.slots hs ?_
 clear hs; intro σ
 refine Ia (Ca (Yg O O) (Ea (Ha ?_)))
 refine Yb O O (fun hc3=>?_) (fun hc3=>?_)
 refine Qa (Ga (Ha (Ta (Ia ?_))))
 obtain ⟨ad1,cs1,hA1,hl1,hk1,hx1⟩:=hX.tree_elem (i:=j) U
 have ho1:=hx1.one_
 refine Ja (v:=.pointer (some (ad1.add (j * 4)))) (Pa (i:=(j:Int)) Mg O hA1 O U U) (Ja (v:=.agg (List.toArray cs1)) (Fc (l:=cs1) isAgg27 sizeOf27 O hl1 (hF.cells0 hk1)) ?_)
 refine Tx (l:=cs1) hF zeroValue27 (by rw [hl1]; exact sizeOf27) (by rw [hl1]; rfl) (v:=.agg (List.toArray cs1)) O O (ho1) O ?_
 clear hF; intro b2 w hb2 hF hE
 replace hDX:=hDX.alloc hE hb2
 clear hE
 refine Bc (Ja (v:=.agg (List.toArray cs1)) (Fc (l:=cs1) isAgg27 sizeOf27 O hl1 (hF.cellsAll 0 O)) ?_)
 refine Pb (TP l[j] _ _ cs1 (hF.rep hx1) (hG.ext hF.same) (hok _ (List.getElem_mem (l:=l) (n:=j) U)).2.1 (Nat.le_trans (hok _ (List.getElem_mem (l:=l) (n:=j) U)).2.2 Ua) (hall j U)) (Cb LZ O O) ?_
 rintro _ w ⟨A5,c5,B5,e5,rfl,hL_,hN_,hE⟩
 have hRt:=FC (x:=(Uf l[j],Hh l[j])) hL_ hN_
 have hYX:=RX.made (ids:=[b2]++so.map (·.1)) hF.same.size (fun x hx=>hF.lt_ids (by grind)) hRt
 replace hDX:=hDX.ext hE
 replace hF:=hF.ext hE
 clear hE hRt hL_ hN_
 refine Ca (Ul O) (Ca (RQ O O) (Ca (Fm O O) ?_))
 refine Ym hF zeroValue56 sizeOf56 O ?_
 clear hF; intro b3 w hb3 hF hE
 replace hDX:=hDX.alloc hE hb3
 replace hYX:=hYX.alloc hE hb3
 clear hE
 refine Ca (Wb O) (Bc (Ca (Va O) (Ca (Ec Xc O) (Tc (Mf isAgg25 O hF.F 0 O O) (Ca (Df underlying25 O) ?_)))))
 refine Ja (v:=.int .i64 (512 - ((Uu (l.take (j+1)):Nat):Int))) (Gv O O (Id (by rw [Ou U]; omega) (by have h1:=Jk (hall j U); have h2:=(hok _ (List.getElem_mem (l:=l) (n:=j) U)).2.1; rw [Ou U]; omega) U)) ?_
 refine Ca (Wb O) (Ea (Ha (Ia (Ca (Va O) (Ja (v:=.bool false) (Zc (Ir O O) Ua) (Ca (Jc O) (Ca (Va O) (Ca (Yg O O) (Ca (Gc O O) (Ea ?_))))))))))
 refine Yb O O (fun hc4=>?_) (fun hc4=>?_)
 refine Ia (Ca (Sh O) (Ca (Wb O) (Ea ?_)))
 refine Ub (Rb (Sa (Ld (v:=.slice _ _ _) (x:=.int .i64 6) O O O) ?_))
 have he:Zg l=6:=by have h1:=U6 l (j+1); rw [Zg,if_pos (Xo (j:=l.length) (fun i h _=>hall i h) (Nat.le_refl _)),if_neg U,if_pos U]
 exact .inl ⟨by rw [he]; decide,by rw [he],hF.same⟩
 refine Qa (Ga (Fa (Ca (Yd O) (Tc (Wj isAgg56 sizeOf56 O hF.F 0 O O) ?_))))
 refine Pe 1 hF (Za (cs:=#[.slice (A5) ((Uf l[j]).length) (c5),.slice (B5) ((Hh l[j]).length) (e5)]) underlying47 sizeOf56 zeroValue56 Ua Ua Qb) ?_
 clear hF; intro b4 w hb4 hF hE
 replace hDX:=hDX.alloc hE hb4
 replace hYX:=hYX.alloc hE hb4
 clear hE
 refine Kf [(b4,.cells #[.slice (A5) ((Uf l[j]).length) (c5),.slice (B5) ((Hh l[j]).length) (e5)] 56),(b3,.cells #[.slice (A5) ((Uf l[j]).length) (c5),.slice (B5) ((Hh l[j]).length) (e5)] 56),(b2,.cells (List.toArray cs1) 27)] [] (news:=[.slice (A5) ((Uf l[j]).length) (c5),.slice (B5) ((Hh l[j]).length) (e5)]) (len':=j+1) (ys:=vals++[.slice (A5) ((Uf l[j]).length) (c5),.slice (B5) ((Hh l[j]).length) (e5)]) HU hF hS O O (O) (fun _=>⟨_,O,Xb (hF.cellsAll 0 O)⟩) (by simp [Value.oneCell']) (by simp only [maxLen]; omega) (O) (O) U ?_
 clear hF; intro A2 c2 o_2 w hS2_o hF hE hnew
 replace hDX:=hDX.app (l:=[b4,b3,b2]) hE hnew
 replace hYX:=hYX.app (l:=[b4,b3,b2]) hE hnew
 clear hE hnew
 refine Ca (Sh O) (Xa (Eb (Ga (Fa (Ca (If (((j+1:Nat):Int)) O O) (Ca (Va O) (Xa ?_)))))))
 refine Ib ⟨_,?_,j+1,A2,c2,o_2,vals++[.slice A5 (Uf l[j]).length c5,.slice B5 (Hh l[j]).length e5],O,U,(by assumption),(by rw [N2 U]; exact (hDX.append hYX).sub (by grind)),U,Am,hF.drop 3⟩
 omega
 refine Dc (Cc O ?_)
 refine Ga (Ia (Ca (Yd O) (Ca (Sh O) (Ca (Wb O) (Ea ?_)))))
 refine Ub (Rb (Sa (Ld (v:=.slice _ _ _) (x:=.int .i64 0) O O O) ?_))
 have ej:j=l.length:=by omega
 subst ej
 rw [List.take_length] at hDX ht_
 have he:Zg l=0:=by rw [Zg,if_pos (Xo (j:=l.length) (fun i h _=>hall i h) (Nat.le_refl _)),if_neg U,if_neg U]
 have hrep:=hS.rep (pre:=[]) (post:=[]) hF hDX Ma
 exact .inr ⟨he,A1,c1,O,by rw [List.map_map]; exact hrep,hF.same⟩
end Go.Scarf
