/- A part of the proof. -/
import Derived.Test.YtepbomjpbdbejaaGreatDoorAp
import Derived.Test.YtepbomjpbdbejaaGreatDoorW19
import Derived.Test.YtepbomjpbdbejaaGreatDoorZ1
import Derived.Test.YtepbomjpbdbejaaGreatDoorZ11
import Derived.Test.YtepbomjpbdbejaaGreatDoorZ4
import Derived.Test.YtepbomjpbdbejaaGreatDoorMore
import Derived.Test.YtepbomjpbdbejaaGreatDoorW4
set_option linter.all false
set_option maxHeartbeats 8000000
set_option maxRecDepth 10000
namespace Go.Scarf
open Go.RowKit Go.Proofs Go.Proofs.Tryz
def Nq (l : List Tree) : Bool := l.all (fun x => Ir x 8) && decide ((l.length : Int) ≤ 66)
theorem TH {l : List Tree} {j : Nat} {h : j < l.length} (hs : Ir l[j] 8 = false) : Nq l = false := by
  unfold Nq
  have : (l.all fun x => Ir x 8) = false := by
    rw [Bool.eq_false_iff]
    intro ha
    rw [List.all_eq_true.1 ha l[j] (List.getElem_mem h)] at hs
    cases hs
  rw [this]; rfl
theorem W_ {l : List Tree} {j : Nat} (hs : ∀ i (h : i < l.length), i < j → Ir l[i] 8 = true) (hj : ∀ h : j < l.length, Ir l[j] 8 = true) : ∀ i (h : i < l.length), i < j + 1 → Ir l[i] 8 = true := fun i h h2 => by
  by_cases e : i = j
  · subst e; exact hj h
  · exact hs i h by_Om
theorem W2 {l : List Tree} {j : Nat} (hj : ∀ i (h : i < l.length), i < j → Ir l[i] 8 = true) (he : ¬ (j < l.length ∧ j < 70)) : Nq l = decide ((l.length : Int) ≤ 66) := by
  unfold Nq
  by_cases h : l.length ≤ 66
  · have : (l.all fun x => Ir x 8) = true := by
      rw [List.all_eq_true]
      intro s hs
      obtain ⟨i, hi, rfl⟩ := List.getElem_of_mem hs
      exact hj i hi by_Om
    rw [this, decide_eq_true by_Om]; rfl
  · rw [decide_eq_false by_Om, Bool.and_false]
theorem FK {l : List Tree} (h : Nq l = true) : l.length ≤ 66 ∧ ∀ x ∈ l, Ir x 8 = true := by
  unfold Nq at h
  rw [Bool.and_eq_true, decide_eq_true_eq, List.all_eq_true] at h
  exact ⟨by omega, h.1⟩
theorem BD (l : List Tree) (A : Option Addr) (c : Nat) (S : Nat → Prop) (w0 : World) (hX : Rep S w0 (.slice (Dd l)) [.slice A l.length c]) : Calls prog 9 #[.slice A l.length c] w0 (Rd fun v w' => v = .bool (Nq l) ∧ Same [] w0 w') := by
 have hXl := hX.slice_len
 rw [Mf] at hXl
 refine Ma func9 rfl ntmps9 Jb (Ed _) ?_
 have hF := FR.start w0 []
 refine Ka (Ca (Ec rfl) (Ea (Ia (Ka (Ca (Gc rfl) (Ea (Va ?_)))))))
 refine Uc (fun μ σ w => ∃ (j : Nat), μ = l.length - j ∧ (j ≤ l.length ∧ j ≤ 70) ∧ (∀ i (h : i < l.length), i < j → Ir l[i] 8 = true) ∧ AllEq σ [(0, .slice A l.length c), (3, .int .i64 ((j : Int)))] ∧ FR w0 [] [] w) _ ⟨0, rfl, by_Om, (fun i _ h => by omega), O7, hF⟩ ?_
 clear hF; rintro μ σ w ⟨j, rfl, hj, hs_, hs, hF⟩
 refine Cg.slots hs ?_
 clear hs; intro σ
 refine Ia (Ka (Ca (Hb rfl) (Ca (Md rfl) (Ca (Qe underlying22 rfl) (Ca (Nk rfl rfl) (Ca (Fd rfl) ?_))))))
 refine Cd (d := 9) rfl (fun hg0 => ?_) (fun hg0 => ?_)
 refine Ca (Hb rfl) (Ca (Nk rfl rfl) (Ca (Oc rfl rfl) (Ea ?_)))
 refine Pc rfl rfl (fun hc0 => ?_) (fun hc0 => ?_)
 refine Wa (Ha (Ia (Va (Ka (Ca (Md rfl) (Ca (Hb rfl) ?_))))))
 obtain ⟨ad1, cs1, hA1, hl1, hk1, hx1⟩ := hX.tree_elem (i := j) by_Om
 have ho1 := hx1.one_
 refine Ja (v := .pointer (some (ad1.add (j * 4)))) (Oa (i := (j : Int)) Hi rfl hA1 rfl by_Om by_Om) (Ja (v := .agg (List.toArray cs1)) (Sb (l := cs1) isAgg27 sizeOf27 rfl hl1 (hF.cells0 hk1)) ?_)
 refine Pb hF (QT l[j] 8 Ra Ra _ _ cs1 (hF.rep hx1)) (Qb MS rfl rfl rfl) ?_
 clear hF; intro w hF
 refine Ca (Ec rfl) (Cc (Ca (Fd rfl) (Ca (Oo rfl) (Ea ?_))))
 refine Pj rfl rfl (fun hc1 => ?_) (fun hc1 => ?_)
 refine Ka (Ca (Ec rfl) (Ea ?_))
 refine Xd (v := .bool false) rfl rfl ?_
 exact ⟨congrArg Value.bool (TH (j := j) (h := by omega) (by simp_all)).symm, hF.same⟩
 refine Wa (Mb (Ha (Da (Ca (Hb rfl) (Ca (Qi (((j + 1 : Nat) : Int)) rfl rfl) (Ca (Gc rfl) (Ya ?_)))))))
 refine Ic ⟨_, ?_, j + 1, rfl, by_Om, (W_ hs_ (fun _ => by simp_all)), O7, hF⟩
 omega
 refine Nc (Lc rfl ?_)
 refine Ha (Ka (Ca (Md rfl) (Ca (Qe underlying22 rfl) (Ca (II rfl rfl) (Ca (Ec rfl) (Ea ?_))))))
 refine Xd (v := .bool _) rfl rfl ?_
 exact ⟨congrArg Value.bool (W2 (j := j) hs_ by_Om).symm, hF.same⟩
 refine Sa (Sa (Ca (Jd rfl rfl) (Ea (Bg rfl ?_))))
 refine Nc (Lc rfl ?_)
 refine Ha (Ka (Ca (Md rfl) (Ca (Qe underlying22 rfl) (Ca (II rfl rfl) (Ca (Ec rfl) (Ea ?_))))))
 refine Xd (v := .bool _) rfl rfl ?_
 exact ⟨congrArg Value.bool (W2 (j := j) hs_ by_Om).symm, hF.same⟩
theorem Xy (w : World) (a b : Int × Int) : (Op.equal 49 (.agg (Xi a).toArray) (.agg (Xi b).toArray)).run prog w = .ok (decide (a = b)) w := by
  obtain ⟨a1, a2⟩ := a
  obtain ⟨b1, b2⟩ := b
  simp only [Xi, Prod.mk.injEq]
  simp [Op.equal, Op.maxDepth, run_equalIn_struct, go_sem]
  by_cases h1 : a1 = b1 <;> by_cases h2 : a2 = b2 <;> simp [h1, h2]
theorem BG {ρ : Operand → Value} {w : World} {dst : Option Nat} {ty : TypeId} {pos : String} {aft : Array Edge} {g : Option (Nat × Bool)} {x y : Operand} {a b : Int × Int} (hx : ρ x = .agg (Xi a).toArray) (hy : ρ y = .agg (Xi b).toArray) :
    (execOp ρ ⟨dst, .binOp .neq 49 x y 49, ty, pos, aft, g⟩).run prog w = .ok (.value (.bool (decide (a ≠ b)))) w := by
  have hg : (eqGuard .neq 49 x y (.agg (Xi a).toArray) (.agg (Xi b).toArray)).run prog w = .ok () w := by
    simp [eqGuard, Xi]
  have h := Xy w a b
  simp only [execOp, hx, hy, Sem.run_bind, hg, Result.andThen_ok]
  have hb : (binOp .neq 49 (.agg (Xi a).toArray) (.agg (Xi b).toArray)).run prog w = .ok (.bool (decide (a ≠ b))) w := by
    simp only [Xi, binOp] at h ⊢
    simp only [Sem.run_bind, h, Result.andThen_ok, Sem.run_pure, decide_not]
  rw [hb]; rfl
theorem Vy (S S' : Nat → Prop) (w0 : World) (a b : List (Int × Int)) (A B : Option Addr) (c e : Nat) (hX : Rep S w0 (Kh a) [.slice A a.length c]) (hY : Rep S' w0 (Kh b) [.slice B b.length e]) : Calls prog 14 #[.slice A a.length c, .slice B b.length e] w0 (Rd fun v w' => v = .bool (decide (a = b)) ∧ Same [] w0 w') := by
 have hXl := hX.pairs_len
 have hYl := hY.pairs_len
 refine Ma func14 rfl ntmps14 Jb (Vd _ _) ?_
 have hF := FR.start w0 []
 refine Ka (Ca (Ec rfl) (Ea (Ia (Ka (Ca (Md rfl) (Ca (Qe underlying29 rfl) (Ca (Md rfl) (Ca (Qe underlying29 rfl) (Ca (Ux rfl rfl) (Ya ?_))))))))))
 refine Ha ?_
 refine Pc rfl rfl (fun hc0 => ?_) (fun hc0 => ?_)
 refine Ka (Ca (Ec rfl) (Ea ?_))
 refine Xd (v := .bool false) rfl rfl ?_
 exact ⟨congrArg Value.bool (decide_eq_false fun q => by subst q; omega).symm, hF.same⟩
 refine Wa (Ha (Ia (Ka (Ca (Gc rfl) (Ea (Va ?_))))))
 have hll : a.length = b.length := by omega
 refine Uc (fun μ σ w => ∃ (j : Nat), μ = a.length - j ∧ (j ≤ a.length) ∧ (∀ i (h : i < a.length) (h2 : i < b.length), i < j → a[i] = b[i]) ∧ AllEq σ [(0, .slice A a.length c), (1, .slice B b.length e), (5, .int .i64 ((j : Int)))] ∧ FR w0 [] [] w) _ ⟨0, rfl, by_Om, (fun i _ _ h => by omega), WL, hF⟩ ?_
 clear hF; rintro μ σ w ⟨j, rfl, hj, hq, hs, hF⟩
 refine Cg.slots hs ?_
 clear hs; intro σ
 refine Ia (Ka (Ca (Hb rfl) (Ca (Md rfl) (Ca (Qe underlying29 rfl) (Ca (Nk rfl rfl) (Ea ?_))))))
 refine Pc rfl rfl (fun hc1 => ?_) (fun hc1 => ?_)
 refine Wa (Ha (Ia (Va (Ia ?_))))
 refine Uf (zs := []) (.free 0 (.free 1 (.free 2 (.free 3 (.free 4 (.free 5 (.free 6 (.free 7 (.free 8 .nil))))))))) hF ?_
 clear hF; intro w hF
 refine Xa rfl (Md rfl) (Xa rfl (Hb rfl) ?_)
 obtain ⟨ad0, hA0, hk0, hx0⟩ := hX.pair_elem (i := j) by_Om
 refine Qa rfl (v := .pointer (some (ad0.add (j * 2)))) (fun w hC => Oa (i := (j : Int)) Ik rfl hA0 rfl by_Om by_Om) (Qa rfl (v := .agg #[.int .i64 ((a[j]).1), .int .i64 ((a[j]).2)]) (fun w hC => Sb (l := Xi a[j]) isAgg49 sizeOf49 rfl rfl (hC.cells0 hk0)) (Xa rfl (Md rfl) (Xa rfl (Hb rfl) ?_)))
 obtain ⟨ad1, hA1, hk1, hx1⟩ := hY.pair_elem (i := j) by_Om
 refine Qa rfl (v := .pointer (some (ad1.add (j * 2)))) (fun w hC => Oa (i := (j : Int)) Ik rfl hA1 rfl by_Om by_Om) (Qa rfl (v := .agg #[.int .i64 ((b[j]).1), .int .i64 ((b[j]).2)]) (fun w hC => Sb (l := Xi b[j]) isAgg49 sizeOf49 rfl rfl (hC.cells0 hk1)) (Qa rfl (v := .bool (decide (a[j] ≠ b[j]))) (fun w hC => BG (a := a[j]) (b := b[j]) rfl rfl) (Jc (Ha ?_))))
 refine Pc rfl rfl (fun hc2 => ?_) (fun hc2 => ?_)
 refine Ka (Ca (Ec rfl) (Ea ?_))
 refine Xd (v := .bool false) rfl rfl ?_
 exact ⟨congrArg Value.bool (decide_eq_false fun q => by subst q; exact absurd rfl (by assumption)).symm, hF.same⟩
 refine Wa (Mb (Ha (Da (Ca (Hb rfl) (Ca (Qi (((j + 1 : Nat) : Int)) rfl rfl) (Ca (Gc rfl) (Ya ?_)))))))
 refine Ic ⟨_, ?_, j + 1, rfl, by_Om, (L4 hq (Classical.not_not.1 (by assumption))), WL, hF⟩
 omega
 refine Nc (Lc rfl ?_)
 refine Ha (Ka (Ca (Ec rfl) (Ea ?_)))
 refine Xd (v := .bool true) rfl rfl ?_
 exact ⟨congrArg Value.bool (decide_eq_true (ED hq hll by_Om)).symm, hF.same⟩
def Mj (n : Int) : Int × Int → List (Int × Int) → Bool
  | _, [] => true
  | q, z :: m => !(decide (z.1 ≤ q.1) || (decide (z.2 ≤ q.2) || decide (n ≤ z.1))) && Mj n z m
def Io (n : Int) (m : List (Int × Int)) : Bool := Mj n (-1, -1) m && (decide (0 ≤ n) && decide (n ≤ 64))
theorem Er {n x y : Int} {m : List (Int × Int)} {j : Nat} (h : j < m.length) : Mj n (x, y) (m.drop j) = (!(decide (m[j].1 ≤ x) || (decide (m[j].2 ≤ y) || decide (n ≤ m[j].1))) && Mj n (m[j].1, m[j].2) (m.drop (j + 1))) := by
  rw [List.drop_eq_getElem_cons h, Mj]
theorem X7 (S : Nat → Prop) (w0 : World) (n : Int) (m : List (Int × Int)) (A : Option Addr) (c : Nat) (hX : Rep S w0 (Kh m) [.slice A m.length c]) : Calls prog 30 #[.int .i64 n, .slice A m.length c] w0 (Rd fun v w' => v = .bool (Io n m) ∧ Same [] w0 w') := by
 have hXl := hX.pairs_len
 refine Ma func30 rfl ntmps30 Jb (Vd _ _) ?_
 have hF := FR.start w0 []
 refine Ka (Ca (Ec rfl) (Cc ?_))
 refine Ja (w' := w0) (v := .agg #[.int .i64 ((-1)), .int .i64 ((-1))]) Ib ?_
 refine Bj hF zeroValue49 sizeOf49 rfl ?_
 clear hF; rintro b1 w hb1 hF -
 refine Ea (Ia (Ka (Ca (Md rfl) (Ca (Qe underlying29 rfl) (Ca (Hb rfl) (Ea (Va ?_)))))))
 refine Uc (fun μ σ w => ∃ (j : Nat), ∃ (x : Int), ∃ (y : Int), μ = m.length - j ∧ (j ≤ m.length) ∧ (Mj n (-1, -1) m = Mj n (x, y) (m.drop j)) ∧ AllEq σ [(0, .int .i64 n), (5, .pointer (some ⟨b1, 0, none⟩)), (9, .slice A m.length c), (10, .int .i64 ((m.length : Nat))), (11, .int .i64 ((j : Int)))] ∧ FR w0 [] [(b1, .cells #[.int .i64 x, .int .i64 y] 49)] w) _ ⟨0, -1, -1, rfl, by_Om, (rfl), Jr, hF⟩ ?_
 clear hF; rintro μ σ w ⟨j, x, y, rfl, hj, hr, hs, hF⟩
 refine Cg.slots hs ?_
 clear hs; intro σ
 refine Ka (Ca (Nk rfl rfl) (Ea (Ia ?_)))
 refine Pc rfl rfl (fun hc0 => ?_) (fun hc0 => ?_)
 refine Wa (Ha (Ia (Va (Ka ?_))))
 obtain ⟨ad0, hA0, hk0, hx0⟩ := hX.pair_elem (i := j) by_Om
 refine Ja (v := .pointer (some (ad0.add (j * 2)))) (Oa (i := (j : Int)) Ik rfl hA0 rfl by_Om by_Om) (Ja (v := .agg #[.int .i64 ((m[j]).1), .int .i64 ((m[j]).2)]) (Sb (l := Xi m[j]) isAgg49 sizeOf49 rfl rfl (hF.cells0 hk0)) ?_)
 refine Bj hF zeroValue49 sizeOf49 rfl ?_
 clear hF; rintro b2 w hb2 hF -
 refine Ea (Ia (Ka (Ca (Kc Ek rfl) (Qd (Zr isAgg3 rfl hF.F 0 rfl rfl) (Ca (Kc Ek rfl) (Qd (Zr isAgg3 rfl hF.F 1 rfl rfl) (Ca (II rfl rfl) (Ca (Fd rfl) ?_))))))))
 refine Cd (d := 20) rfl (fun hg1 => ?_) (fun hg1 => ?_)
 refine Sa (Sa (Sa (Sa (Sa (Ca (Oc rfl rfl) (Ca (Fd rfl) (Sa (Sa (Sa (Sa (Ca (Oc rfl rfl) (Ea ?_))))))))))))
 refine Ae rfl (Ka (Ca (Ec rfl) (Ea ?_)))
 refine Xd (v := .bool false) rfl rfl ?_
 exact ⟨congrArg Value.bool (by rw [Io, hr, Er (j := j) by_Om]; simp_all), hF.same⟩
 refine Ca (Kc Ri rfl) (Qd (Zr isAgg3 rfl hF.F 0 rfl rfl) (Ca (Kc Ri rfl) (Qd (Zr isAgg3 rfl hF.F 1 rfl rfl) (Ca (II rfl rfl) (Ca (Jd rfl rfl) (Ca (Fd rfl) ?_))))))
 refine Cd (d := 27) rfl (fun hg2 => ?_) (fun hg2 => ?_)
 refine Sa (Sa (Sa (Sa (Ca (Oc rfl rfl) (Ea (Ae rfl (Ka (Ca (Ec rfl) (Ea ?_)))))))))
 refine Xd (v := .bool false) rfl rfl ?_
 exact ⟨congrArg Value.bool (by rw [Io, hr, Er (j := j) by_Om]; simp_all), hF.same⟩
 refine Ca (Kc Ek rfl) (Qd (Zr isAgg3 rfl hF.F 0 rfl rfl) (Ca (Hb rfl) (Ca (CD rfl rfl) (Ca (Jd rfl rfl) (Ea ?_)))))
 refine Pc rfl rfl (fun hc1 => ?_) (fun hc1 => ?_)
 refine Ka (Ca (Ec rfl) (Ea ?_))
 refine Xd (v := .bool false) rfl rfl ?_
 exact ⟨congrArg Value.bool (by rw [Io, hr, Er (j := j) by_Om]; simp_all), hF.same⟩
 refine Wa (Ha (Da (Qd (Bm isAgg49 sizeOf49 rfl hF.F 0 rfl rfl) ?_)))
 refine An hF sizeOf49 rfl rfl Y6 ?_
 clear hF; rintro w hF -
 refine Ya (Mb (Ha (Da (Ca (Qi (((j + 1 : Nat) : Int)) rfl rfl) (Ca (Hb rfl) (Ya ?_))))))
 refine Ic ⟨_, ?_, j + 1, m[j].1, m[j].2, rfl, by_Om, (by rw [hr, Er by_Om]; simp_all), Jr, hF.drop 1⟩
 omega
 refine Nc (Lc rfl ?_)
 refine Ha (Ka (Ca (Hb rfl) (Ca (CD rfl rfl) (Ca (Fd rfl) ?_))))
 refine Cd (d := 37) rfl (fun hg3 => ?_) (fun hg3 => ?_)
 refine Ca (Hb rfl) (Ca (II rfl rfl) (Ca (Oc rfl rfl) (Ca (Ec rfl) (Ea ?_))))
 refine Xd (v := .bool _) rfl rfl ?_
 have ej : j = m.length := by omega
 exact ⟨congrArg Value.bool (by rw [Io, hr, ej, List.drop_length, Mj]; simp_all <;> omega), hF.same⟩
 refine Sa (Sa (Ca (Jd rfl rfl) (Ca (Ec rfl) (Ea ?_))))
 refine Xd (v := .bool false) rfl rfl ?_
 have ej : j = m.length := by omega
 exact ⟨congrArg Value.bool (by rw [Io, hr, ej, List.drop_length, Mj]; simp_all <;> omega), hF.same⟩
end Go.Scarf
namespace Go.Scarf
open Go.RowKit Go.Proofs Go.Proofs.Tryz
abbrev TreeN := List Str × List Int
structure GridC (w : World) (pb n m : Nat) (T1 T2 : TypeId) (rb : Nat → Nat) (p : Nat → Nat → Int) : Prop where
  top : ∃ cur, w.heap[pb]? = some (.cells cur T1) ∧ ∀ i, i < n → cur[i]? = some (.slice (some ⟨rb i, 0, none⟩) m m)
  row : ∀ i, i < n → w.heap[rb i]? = some (.cells (Gb m (p i)) T2)
  inj : ∀ i j, i < n → j < n → rb i = rb j → i = j
  ne : ∀ i, i < n → rb i ≠ pb
section
variable {w w' : World} {pb n m : Nat} {T1 T2 : TypeId} {rb : Nat → Nat} {p : Nat → Nat → Int}
theorem GridC.rowCell (h : GridC w pb n m T1 T2 rb p) {i : Nat} (hi : i < n) : w.cell? ⟨pb, i, none⟩ = some (.slice (some ⟨rb i, 0, none⟩) m m) := by
  obtain ⟨cur, h1, h2⟩ := h.top
  rw [Ob h1]; exact h2 i hi
theorem GridC.cell (h : GridC w pb n m T1 T2 rb p) {i j : Nat} (hi : i < n) (hj : j < m) : w.cell? ⟨rb i, j, none⟩ = some (.int .i64 (p i j)) := by
  rw [Ob (h.row i hi), El hj]
theorem GridC.keep (h : GridC w pb n m T1 T2 rb p) {E : List Nat} (hs : Same E w w') (h1 : pb ∉ E) (h2 : ∀ i, i < n → rb i ∉ E) : GridC w' pb n m T1 T2 rb p := by
  obtain ⟨cur, h3, h4⟩ := h.top
  exact ⟨⟨cur, (hs.block _ (Fa h3) h1).trans h3, h4⟩, fun i hi => (hs.block _ (Fa (h.row i hi)) (h2 i hi)).trans (h.row i hi), h.inj, h.ne⟩
theorem GridC.put (h : GridC w pb n m T1 T2 rb p) {i j : Nat} {v : Int} (hi : i < n) (hs : Same [rb i] w w') (hn : w'.heap[rb i]? = some (.cells (Gb m (Af (p i) j v)) T2)) : GridC w' pb n m T1 T2 rb (Eh p i j v) := by
  obtain ⟨cur, h3, h4⟩ := h.top
  refine ⟨⟨cur, (hs.block _ (Fa h3) (by simpa using fun e => h.ne i hi e.symm)).trans h3, h4⟩, fun a ha => ?_, h.inj, h.ne⟩
  by_cases e : a = i
  · subst e; rw [hn]; simp [Eh]
  · have : w'.heap[rb a]? = w.heap[rb a]? := hs.block _ (Fa (h.row a ha)) (by simpa using fun q => e (h.inj a i ha hi q))
    rw [this, h.row a ha, Eh, if_neg e]
end
structure Ck (w : World) (N0 cb pb rb : Nat) (la lb : List TreeN) (Aa Ab : Option Addr) (k1 k2 k3 k4 : Nat) (q r : Nat → Nat) (P R : Nat → Nat → Int) : Prop where
  cell : w.heap[cb]? = some (.cells #[.slice Aa la.length k1, .slice Ab lb.length k2, .slice (some ⟨pb, 0, none⟩) (la.length + 1) k3, .slice (some ⟨rb, 0, none⟩) (la.length + 1) k4] 57)
  La : Rep (fun b => b < N0) w (.slice (la.map Pl)) [.slice Aa la.length k1]
  Lb : Rep (fun b => b < N0) w (.slice (lb.map Pl)) [.slice Ab lb.length k2]
  pair : GridC w pb (la.length + 1) (lb.length + 1) 39 3 q P
  rest : GridC w rb (la.length + 1) (lb.length + 1) 39 3 r R
  lo : N0 ≤ cb ∧ N0 ≤ pb ∧ N0 ≤ rb ∧ (∀ i, i < la.length + 1 → N0 ≤ q i) ∧ ∀ i, i < la.length + 1 → N0 ≤ r i
  nq : ∀ i, i < la.length + 1 → q i ≠ cb ∧ q i ≠ pb ∧ q i ≠ rb
  nr : ∀ i, i < la.length + 1 → r i ≠ cb ∧ r i ≠ pb ∧ r i ≠ rb
  ne : ∀ i j, i < la.length + 1 → j < la.length + 1 → q i ≠ r j
section
variable {w w' : World} {N0 cb pb rb : Nat} {la lb : List TreeN} {Aa Ab : Option Addr} {k1 k2 k3 k4 : Nat} {q r : Nat → Nat} {P R : Nat → Nat → Int}
theorem Ck.keep (h : Ck w N0 cb pb rb la lb Aa Ab k1 k2 k3 k4 q r P R) {E : List Nat} (hs : Same E w w') (he : ∀ b ∈ E, N0 ≤ b) (h1 : cb ∉ E) (h2 : pb ∉ E) (h3 : rb ∉ E) (h4 : ∀ i, i < la.length + 1 → q i ∉ E) (h5 : ∀ i, i < la.length + 1 → r i ∉ E) : Ck w' N0 cb pb rb la lb Aa Ab k1 k2 k3 k4 q r P R :=
  have ns : ∀ b ∈ E, ¬ b < N0 := fun b hb => Nat.not_lt.2 (he b hb)
  ⟨(hs.block _ (Fa h.cell) h1).trans h.cell, h.La.same hs ns, h.Lb.same hs ns, h.pair.keep hs h2 h4, h.rest.keep hs h3 h5, h.lo, h.nq, h.nr, h.ne⟩
theorem Ck.ext (h : Ck w N0 cb pb rb la lb Aa Ab k1 k2 k3 k4 q r P R) (hs : Same [] w w') : Ck w' N0 cb pb rb la lb Aa Ab k1 k2 k3 k4 q r P R := h.keep hs Ga Ga Ga Ga Ga Ga
theorem Ck.putP (h : Ck w N0 cb pb rb la lb Aa Ab k1 k2 k3 k4 q r P R) {i j : Nat} {v : Int} (hi : i < la.length + 1) (hs : Same [q i] w w') (hn : w'.heap[q i]? = some (.cells (Gb (lb.length + 1) (Af (P i) j v)) 3)) : Ck w' N0 cb pb rb la lb Aa Ab k1 k2 k3 k4 q r (Eh P i j v) R := by
  have ns : ∀ b ∈ [q i], ¬ b < N0 := fun b hb => by obtain rfl := List.mem_singleton.1 hb; exact Nat.not_lt.2 (h.lo.2.2.2.1 i hi)
  have hq := h.nq i hi
  exact ⟨(hs.block _ (Fa h.cell) (by simpa using fun e => hq.1 e.symm)).trans h.cell, h.La.same hs ns, h.Lb.same hs ns, h.pair.put hi hs hn, h.rest.keep hs (by simpa using fun e => hq.2.2 e.symm) (fun a ha => by simpa using fun e => h.ne i a hi ha e.symm), h.lo, h.nq, h.nr, h.ne⟩
theorem Ck.putR (h : Ck w N0 cb pb rb la lb Aa Ab k1 k2 k3 k4 q r P R) {i j : Nat} {v : Int} (hi : i < la.length + 1) (hs : Same [r i] w w') (hn : w'.heap[r i]? = some (.cells (Gb (lb.length + 1) (Af (R i) j v)) 3)) : Ck w' N0 cb pb rb la lb Aa Ab k1 k2 k3 k4 q r P (Eh R i j v) := by
  have ns : ∀ b ∈ [r i], ¬ b < N0 := fun b hb => by obtain rfl := List.mem_singleton.1 hb; exact Nat.not_lt.2 (h.lo.2.2.2.2 i hi)
  have hq := h.nr i hi
  exact ⟨(hs.block _ (Fa h.cell) (by simpa using fun e => hq.1 e.symm)).trans h.cell, h.La.same hs ns, h.Lb.same hs ns, h.pair.keep hs (by simpa using fun e => hq.2.1 e.symm) (fun a ha => by simpa using fun e => h.ne a i ha hi e), h.rest.put hi hs hn, h.lo, h.nq, h.nr, h.ne⟩
theorem Ck.c0 (h : Ck w N0 cb pb rb la lb Aa Ab k1 k2 k3 k4 q r P R) : w.cell? ⟨cb, 0, none⟩ = some (.slice Aa la.length k1) := by rw [Ob h.cell]; rfl
theorem Ck.c1 (h : Ck w N0 cb pb rb la lb Aa Ab k1 k2 k3 k4 q r P R) : w.cell? ⟨cb, 1, none⟩ = some (.slice Ab lb.length k2) := by rw [Ob h.cell]; rfl
theorem Ck.c2 (h : Ck w N0 cb pb rb la lb Aa Ab k1 k2 k3 k4 q r P R) : w.cell? ⟨cb, 2, none⟩ = some (.slice (some ⟨pb, 0, none⟩) (la.length + 1) k3) := by rw [Ob h.cell]; rfl
theorem Ck.c3 (h : Ck w N0 cb pb rb la lb Aa Ab k1 k2 k3 k4 q r P R) : w.cell? ⟨cb, 3, none⟩ = some (.slice (some ⟨rb, 0, none⟩) (la.length + 1) k4) := by rw [Ob h.cell]; rfl
end
section
variable {Pg : Program} {R : Exit → Act → World → Prop} {n : Nat} {k : Kt} {s : Nat → Value} {w : World} {ops : List Oper} {zs : List Nat} {C : World → Prop} {order : Ord} {i : Nat}
variable {ty : TypeId} {pos : String} {aft : Array Edge} {g : Option (Nat × Bool)} {w0 : World} {Ds : List Nat} {bs : List (Nat × Obj)}
theorem Vq {t T : TypeId} {x y : Operand} {b j m : Nat} {f : Nat → Int} {v : Int} (hi : ops[i]? = some ⟨none, .store t x y, ty, pos, aft, g⟩) (hF : FR w0 Ds bs w) (hs : ∀ w, (sizeOf t).run Pg w = .ok 1 w)
    (hx : ev n s x = .pointer (some ⟨b, j, none⟩)) (hy : ev n s y = .int .i64 v) (hh : w.heap[b]? = some (.cells (Gb m f) T)) (hj : j < m) (hD : b ∈ Ds ∨ w0.heap.size ≤ b) (hn : ∀ p ∈ bs, p.1 ≠ b)
    (h : ∀ w', FR w0 Ds bs w' → Same [b] w w' → w'.heap[b]? = some (.cells (Gb m (Af f j v)) T) → Dg Pg R n ops k zs order (fun _ => True) s w')
    (hw : Vb ops n s ⟨none, .store t x y, ty, pos, aft, g⟩ = true := by rfl) (hz : zs.contains i = true := by rfl) : Dg Pg R n ops k zs (.act i order) C s w := by
  have hsp := Uh b j (fz := (0, 0)) [.int .i64 v] 0 w (Gb m f) hh
  rw [Nat.add_zero, Zf] at hsp
  refine BN hi (Nt (l := [.int .i64 v]) hs hx hy rfl Od fun i hi => ?_) (h (putCells w ⟨b, j, none⟩ 0 [.int .i64 v]) (hF.touch hsp.2 fun b' hb => ?_) hsp.2 hsp.1) hw hz
  · obtain rfl : i = 0 := by simp at hi; omega
    rw [Qm, Ob hh]
    exact ⟨⟨_, El hj⟩, Ei hh _⟩
  · obtain rfl := List.mem_singleton.1 hb
    exact ⟨fun h => hD.resolve_right by_Om, hn⟩
theorem D6 {P : Program} {w : World} {ρ : Operand → Value} {dst : Option Nat} {x y z : Operand} {ats : Array TypeId} {kk : IntKind} {a b c : Int} (hx : ρ x = .int kk a) (hy : ρ y = .int kk b) (hz : ρ z = .int kk c) : (execOp ρ ⟨dst, .call ⟨.builtin .min, #[x, y, z], ats⟩, ty, pos, aft, g⟩).run P w = .ok (.value (.int kk (min (min a b) c))) w := by
  have e : ∀ a b : Int, (if b < a then b else a) = min a b := fun a b => by rw [Int.min_def]; split <;> split <;> omega
  simp [execOp, resolve, invoke, builtin, hx, hy, hz, Builtin.min_, Builtin.min2, go_sem, e, Int.min_assoc]
end
theorem Xu (w0 : World) (N0 cb pb rb : Nat) (la lb : List TreeN) (Aa Ab : Option Addr) (k1 k2 k3 k4 : Nat) (q r : Nat → Nat) (P R : Nat → Nat → Int) (hK : Ck w0 N0 cb pb rb la lb Aa Ab k1 k2 k3 k4 q r P R) (i j : Nat) (hll : la.length ≤ 64 ∧ lb.length ≤ 64) (hi : i < la.length) (hj : j < lb.length) (hP : (0 ≤ P i j ∧ P i j ≤ 1000000)) (hR : (0 ≤ R (i + 1) (j + 1) ∧ R (i + 1) (j + 1) ≤ 1000000)) : Calls prog 26 #[.pointer (some ⟨cb, 0, none⟩), .int .i64 ((i : Nat) : Int), .int .i64 ((j : Nat) : Int)] w0 (Rd fun v w' => v = .int .i64 (P i j + R (i + 1) (j + 1)) ∧ Same [] w0 w') := by
 have hk3 := hK.pair
 refine Ma func26 rfl ntmps26 Jb (Yi _ _ _) ?_
 have hF := FR.start w0 []
 refine Ka (Ca (Gc rfl) (Ea (Ia ?_)))
 refine Id [] (.free 0 (.free 1 (.free 2 (.free 3 (.free 4 (.free 5 (.free 6 (.free 7 (.free 8 (.free 9 (.free 10 (.free 11 (.free 12 (.free 13 (.free 14 (.free 15 (.free 16 (.free 17 (.free 18 (.free 19 (.free 20 (.free 21 (.free 22 (.free 23 .nil)))))))))))))))))))))))) hF ?_
 clear hF; intro w hF hE
 replace hK := hK.ext hE
 clear hE
 refine ⟨fun wq => FR w0 [] _ wq ∧ Ck wq N0 cb pb rb la lb Aa Ab k1 k2 k3 k4 q r P R, ⟨hF, hK⟩, ?_⟩
 refine Xa rfl (De rfl) (Xa rfl (Of rfl) (Xa rfl (Kc Ci rfl) (Qa rfl (v := .slice (some ⟨pb, 0, none⟩) (la.length + 1) (k3)) (fun w hC => Cb isAgg36 rfl hC.2.c2) (Xa rfl (Hb rfl) (Qa rfl (v := .pointer (some ⟨pb, i, none⟩)) (fun w hC => Ub (i := ((i : Nat) : Int)) (i) Qh rfl rfl by_Om by_Om by_Om) (Qa rfl (v := .slice (some ⟨q (i), 0, none⟩) (lb.length + 1) (lb.length + 1)) (fun w hC => Cb isAgg39 rfl (hC.2.pair.rowCell by_Om)) (Xa rfl (Hb rfl) (Qa rfl (v := .pointer (some ⟨q (i), j, none⟩)) (fun w hC => Ub (i := ((j : Nat) : Int)) (j) Df rfl rfl by_Om by_Om by_Om) (Qa rfl (v := .int .i64 (P (i) (j))) (fun w hC => Cb isAgg3 rfl (hC.2.pair.cell by_Om by_Om)) (Xa rfl (De rfl) (Xa rfl (Of rfl) (Xa rfl (Kc Wf rfl) (Qa rfl (v := .slice (some ⟨rb, 0, none⟩) (la.length + 1) (k4)) (fun w hC => Cb isAgg36 rfl hC.2.c3) ?_)))))))))))))
 refine Xa rfl (Hb rfl) (Xa rfl (Qi (((i + 1 : Nat) : Int)) rfl rfl) (Qa rfl (v := .pointer (some ⟨rb, i + 1, none⟩)) (fun w hC => Ub (i := ((i + 1 : Nat) : Int)) (i + 1) Qh rfl rfl by_Om by_Om by_Om) (Qa rfl (v := .slice (some ⟨r (i + 1), 0, none⟩) (lb.length + 1) (lb.length + 1)) (fun w hC => Cb isAgg39 rfl (hC.2.rest.rowCell by_Om)) (Xa rfl (Hb rfl) (Xa rfl (Qi (((j + 1 : Nat) : Int)) rfl rfl) (Qa rfl (v := .pointer (some ⟨r (i + 1), j + 1, none⟩)) (fun w hC => Ub (i := ((j + 1 : Nat) : Int)) (j + 1) Df rfl rfl by_Om by_Om by_Om) (Qa rfl (v := .int .i64 (R (i + 1) (j + 1))) (fun w hC => Cb isAgg3 rfl (hC.2.rest.cell by_Om by_Om)) (Xa rfl (Qi (P (i) (j) + R (i + 1) (j + 1)) rfl rfl) (Xa rfl (Gc rfl) (Jc (Ha ?_)))))))))))
 refine Xd (v := .int .i64 (P (i) (j) + R (i + 1) (j + 1))) rfl rfl ?_
 exact ⟨rfl, hF.same⟩
theorem Ip (w0 : World) (N0 cb pb rb : Nat) (la lb : List TreeN) (Aa Ab : Option Addr) (k1 k2 k3 k4 : Nat) (q r : Nat → Nat) (P R : Nat → Nat → Int) (hK : Ck w0 N0 cb pb rb la lb Aa Ab k1 k2 k3 k4 q r P R) (i j : Nat) (hll : la.length ≤ 64 ∧ lb.length ≤ 64) (hi : i < la.length) (hj : j ≤ lb.length) (hla : ∀ i (h : i < la.length), la[i].1.length ≤ 512) (hR : (0 ≤ R (i + 1) j ∧ R (i + 1) j ≤ 1000000)) : Calls prog 27 #[.pointer (some ⟨cb, 0, none⟩), .int .i64 ((i : Nat) : Int), .int .i64 ((j : Nat) : Int)] w0 (Rd fun v w' => v = .int .i64 ((la[i].1.length : Int) + R (i + 1) j) ∧ Same [] w0 w') := by
 have hLa0 := hK.La
 refine Ma func27 rfl ntmps27 Jb (Yi _ _ _) ?_
 have hF := FR.start w0 []
 refine Ka (Ca (Gc rfl) (Ea (Ia ?_)))
 refine Id [] (.free 0 (.free 1 (.free 2 (.free 3 (.free 4 (.free 5 (.free 6 (.free 7 (.free 8 (.free 9 (.free 10 (.free 11 (.free 12 (.free 13 (.free 14 (.free 15 (.free 16 (.free 17 (.free 18 (.free 19 (.free 20 (.free 21 .nil)))))))))))))))))))))) hF ?_
 clear hF; intro w hF hE
 replace hK := hK.ext hE
 clear hE
 refine ⟨fun wq => FR w0 [] _ wq ∧ Ck wq N0 cb pb rb la lb Aa Ab k1 k2 k3 k4 q r P R, ⟨hF, hK⟩, ?_⟩
 refine Xa rfl (De rfl) (Xa rfl (Of rfl) (Xa rfl (Kc Sx rfl) (Qa rfl (v := .slice Aa la.length k1) (fun w hC => Cb isAgg51 rfl hC.2.c0) (Xa rfl (Hb rfl) ?_))))
 obtain ⟨ad0, P0, p0, Q0, q0, hA0, hk0, hx0, hy0⟩ := hLa0.node_elem (i := i) by_Om
 refine Qa rfl (v := .pointer (some (ad0.add (i * 2)))) (fun w hC => Oa (i := (i : Nat)) U4 rfl hA0 rfl by_Om by_Om) (Qa rfl (v := .pointer (some ((ad0.add (i * 2)).add 0))) (fun w hC => Nd (a := ad0.add (i * 2)) Je rfl) (Qa rfl (v := .slice (P0) ((la[i]).1.length) (p0)) (fun w hC => Cb isAgg25 rfl (hC.1.cell0 (hk0 0 Jb))) (Xa rfl (Qe underlying25 rfl) (Xa rfl (De rfl) (Xa rfl (Of rfl) (Xa rfl (Kc Wf rfl) (Qa rfl (v := .slice (some ⟨rb, 0, none⟩) (la.length + 1) (k4)) (fun w hC => Cb isAgg36 rfl hC.2.c3) (Xa rfl (Hb rfl) (Xa rfl (Qi (((i + 1 : Nat) : Int)) rfl rfl) (Qa rfl (v := .pointer (some ⟨rb, i + 1, none⟩)) (fun w hC => Ub (i := ((i + 1 : Nat) : Int)) (i + 1) Qh rfl rfl by_Om by_Om by_Om) (Qa rfl (v := .slice (some ⟨r (i + 1), 0, none⟩) (lb.length + 1) (lb.length + 1)) (fun w hC => Cb isAgg39 rfl (hC.2.rest.rowCell by_Om)) (Xa rfl (Hb rfl) (Qa rfl (v := .pointer (some ⟨r (i + 1), j, none⟩)) (fun w hC => Ub (i := ((j : Nat) : Int)) (j) Df rfl rfl by_Om by_Om by_Om) ?_)))))))))))))
 refine Qa rfl (v := .int .i64 (R (i + 1) (j))) (fun w hC => Cb isAgg3 rfl (hC.2.rest.cell by_Om by_Om)) ?_
 refine Qa rfl (v := .int .i64 (((la[i]).1.length : Int) + R (i + 1) (j))) (fun w hC => Ct rfl rfl (Bi rfl (by have := hla i hi; omega) (by have := hla i hi; omega))) ?_
 refine Xa rfl (Gc rfl) (Jc (Ha ?_))
 refine Xd (v := .int .i64 (((la[i]).1.length : Int) + R (i + 1) (j))) rfl rfl ?_
 exact ⟨rfl, hF.same⟩
theorem Dv (w0 : World) (N0 cb pb rb : Nat) (la lb : List TreeN) (Aa Ab : Option Addr) (k1 k2 k3 k4 : Nat) (q r : Nat → Nat) (P R : Nat → Nat → Int) (hK : Ck w0 N0 cb pb rb la lb Aa Ab k1 k2 k3 k4 q r P R) (i j : Nat) (hll : la.length ≤ 64 ∧ lb.length ≤ 64) (hi : i ≤ la.length) (hj : j < lb.length) (hlb : ∀ j (h : j < lb.length), lb[j].1.length ≤ 512) (hR : (0 ≤ R i (j + 1) ∧ R i (j + 1) ≤ 1000000)) : Calls prog 61 #[.pointer (some ⟨cb, 0, none⟩), .int .i64 ((i : Nat) : Int), .int .i64 ((j : Nat) : Int)] w0 (Rd fun v w' => v = .int .i64 ((lb[j].1.length : Int) + R i (j + 1)) ∧ Same [] w0 w') := by
 have hLb0 := hK.Lb
 refine Ma func61 rfl ntmps61 Jb (Yi _ _ _) ?_
 have hF := FR.start w0 []
 refine Ka (Ca (Gc rfl) (Ea (Ia ?_)))
 refine Id [] (.free 0 (.free 1 (.free 2 (.free 3 (.free 4 (.free 5 (.free 6 (.free 7 (.free 8 (.free 9 (.free 10 (.free 11 (.free 12 (.free 13 (.free 14 (.free 15 (.free 16 (.free 17 (.free 18 (.free 19 (.free 20 (.free 21 .nil)))))))))))))))))))))) hF ?_
 clear hF; intro w hF hE
 replace hK := hK.ext hE
 clear hE
 refine ⟨fun wq => FR w0 [] _ wq ∧ Ck wq N0 cb pb rb la lb Aa Ab k1 k2 k3 k4 q r P R, ⟨hF, hK⟩, ?_⟩
 refine Xa rfl (De rfl) (Xa rfl (Of rfl) (Xa rfl (Kc Qx rfl) (Qa rfl (v := .slice Ab lb.length k2) (fun w hC => Cb isAgg51 rfl hC.2.c1) (Xa rfl (Hb rfl) ?_))))
 obtain ⟨ad0, P0, p0, Q0, q0, hA0, hk0, hx0, hy0⟩ := hLb0.node_elem (i := j) by_Om
 refine Qa rfl (v := .pointer (some (ad0.add (j * 2)))) (fun w hC => Oa (i := (j : Nat)) U4 rfl hA0 rfl by_Om by_Om) (Qa rfl (v := .pointer (some ((ad0.add (j * 2)).add 0))) (fun w hC => Nd (a := ad0.add (j * 2)) Je rfl) (Qa rfl (v := .slice (P0) ((lb[j]).1.length) (p0)) (fun w hC => Cb isAgg25 rfl (hC.1.cell0 (hk0 0 Jb))) (Xa rfl (Qe underlying25 rfl) (Xa rfl (De rfl) (Xa rfl (Of rfl) (Xa rfl (Kc Wf rfl) (Qa rfl (v := .slice (some ⟨rb, 0, none⟩) (la.length + 1) (k4)) (fun w hC => Cb isAgg36 rfl hC.2.c3) (Xa rfl (Hb rfl) (Qa rfl (v := .pointer (some ⟨rb, i, none⟩)) (fun w hC => Ub (i := ((i : Nat) : Int)) (i) Qh rfl rfl by_Om by_Om by_Om) (Qa rfl (v := .slice (some ⟨r (i), 0, none⟩) (lb.length + 1) (lb.length + 1)) (fun w hC => Cb isAgg39 rfl (hC.2.rest.rowCell by_Om)) (Xa rfl (Hb rfl) (Xa rfl (Qi (((j + 1 : Nat) : Int)) rfl rfl) (Qa rfl (v := .pointer (some ⟨r (i), j + 1, none⟩)) (fun w hC => Ub (i := ((j + 1 : Nat) : Int)) (j + 1) Df rfl rfl by_Om by_Om by_Om) ?_)))))))))))))
 refine Qa rfl (v := .int .i64 (R (i) (j + 1))) (fun w hC => Cb isAgg3 rfl (hC.2.rest.cell by_Om by_Om)) ?_
 refine Qa rfl (v := .int .i64 (((lb[j]).1.length : Int) + R (i) (j + 1))) (fun w hC => Ct rfl rfl (Bi rfl (by have := hlb j hj; omega) (by have := hlb j hj; omega))) ?_
 refine Xa rfl (Gc rfl) (Jc (Ha ?_))
 refine Xd (v := .int .i64 (((lb[j]).1.length : Int) + R (i) (j + 1))) rfl rfl ?_
 exact ⟨rfl, hF.same⟩
abbrev Jg (x : TreeN) : Nat := x.1.length
abbrev pN (x y : TreeN) : Nat := Nl x.1 x.2 y.1 y.2
theorem CK {xs ys : List TreeN} (hx : ∀ x ∈ xs, Jg x ≤ 512) (hy : ∀ y ∈ ys, Jg y ≤ 512) : al Jg pN xs ys ≤ 512 * (xs.length + ys.length) := by
  induction xs with
  | nil =>
    induction ys with
    | nil => exact Nat.le_refl _
    | cons y ys ih =>
      have h1 := hy y Ga
      have h2 := ih (fun z hz => hy z (by simp [hz]))
      rw [X3]; simp only [List.length_cons, List.length_nil] at *; omega
  | cons x xs ih =>
    have h1 := hx x Ga
    have h2 := ih (fun z hz => hx z (by simp [hz]))
    have h3 := Cy (sz := Jg) (p := pN) x xs ys
    simp only [List.length_cons]; omega
theorem Rep.node_block {S : Nat → Prop} {w : World} {l : List TreeN} {ad : Addr} {len c : Nat} (h : Rep S w (.slice (l.map Pl)) [.slice (some ad) len c]) (hi : 0 < l.length) : S ad.block := by
  rw [Rep] at h
  obtain ⟨A, c', he, _, _, hr⟩ := h
  simp only [List.cons.injEq, Value.slice.injEq, and_true] at he
  obtain ⟨ad', hA, es, hc, hl⟩ := hr (by intro e; rw [List.map_eq_nil_iff] at e; subst e; simp at hi)
  rw [← he.1] at hA
  obtain rfl := Option.some.inj hA
  have hlen := hl.length
  have hpos : 0 < es.length := by
    rw [hlen]
    match l, hi with
    | x :: l, _ => simp [Ug.sizeL, Pl, Ug, Gf]; omega
  exact (hc 0 hpos).2
theorem DL {w w' : World} {E : List Nat} (hE : Same E w w') {a : Addr} {v : Value} (hb : a.block ∉ E) (h : w.cell? a = some v) : w'.cell? a = some v := by
  rw [← h]; exact World.cell?_of_block (w := w) (hE.block _ (World.block_lt_of_cell? _ _ h) hb)
theorem FR.repD {w0 w : World} {Ds : List Nat} {bs_ : List (Nat × Obj)} {S : Nat → Prop} {d : D} {cs : List Value} (hF : FR w0 Ds bs_ w) (hR : Rep S w0 d cs) (hS : ∀ b, S b → b < w0.heap.size ∧ b ∉ Ds) : Rep S w d cs := hR.same hF.same (fun b hb hs => (hS b hs).2 hb)
theorem FR.cellsD {w0 w : World} {Ds : List Nat} {bs_ : List (Nat × Obj)} {a : Addr} {m : Nat} {cs : List Value} (hF : FR w0 Ds bs_ w) (hb : a.block ∉ Ds) (h : ∀ j (hj : j < cs.length), w0.cell? ((a.add m).add j) = some cs[j]) : ∀ j (hj : j < cs.length), w.cell? ((a.add m).add j) = some cs[j] := fun j hj =>
  DL hF.same (by rw [Bk, Bk]; exact hb) (h j hj)
theorem LK (w0 : World) (N0 cb pb rb : Nat) (la lb : List TreeN) (Aa Ab : Option Addr) (k1 k2 k3 k4 : Nat) (q r : Nat → Nat) (P R : Nat → Nat → Int) (hK : Ck w0 N0 cb pb rb la lb Aa Ab k1 k2 k3 k4 q r P R) (i j : Nat) (hll : la.length ≤ 64 ∧ lb.length ≤ 64) (hi : i ≤ la.length) (hj : j ≤ lb.length) (hN0 : N0 ≤ w0.heap.size) (hRa : ∀ x ∈ la, Yf x.1 x.2) (hRb : ∀ x ∈ lb, Yf x.1 x.2) (hla : ∀ x ∈ la, Jg x ≤ 512) (hlb : ∀ x ∈ lb, Jg x ≤ 512) (hR1 : i < la.length → R (i + 1) j = ((al Jg pN (la.drop (i + 1)) (lb.drop (j)) : Nat) : Int)) (hR2 : j < lb.length → R i (j + 1) = ((al Jg pN (la.drop (i)) (lb.drop (j + 1)) : Nat) : Int)) (hR3 : i < la.length → j < lb.length → R (i + 1) (j + 1) = ((al Jg pN (la.drop (i + 1)) (lb.drop (j + 1)) : Nat) : Int)) : Calls prog 42 #[.pointer (some ⟨cb, 0, none⟩), .int .i64 ((i : Nat) : Int), .int .i64 ((j : Nat) : Int)] w0 (Rd fun v w' => ∃ P' : Nat → Nat → Int, v = .int .i64 ((al Jg pN (la.drop (i)) (lb.drop (j)) : Nat) : Int) ∧ Ck w' N0 cb pb rb la lb Aa Ab k1 k2 k3 k4 q r P' R ∧ (∀ (h1 : i < la.length) (h2 : j < lb.length), P' i j = ((pN la[i] lb[j] : Nat) : Int)) ∧ (∀ a b, ¬ (a = i ∧ b = j) → P' a b = P a b) ∧ Same (Rows q (la.length + 1)) w0 w') := by
 have hL0 := hK.La
 have hL1 := hK.Lb
 have hlo := hK.lo
 have hS0 : ∀ b, b < N0 → b < w0.heap.size ∧ b ∉ Rows q (la.length + 1) := fun b hb => ⟨by omega, fun hm => by obtain ⟨i, hi, rfl⟩ := Ej.1 hm; have := hlo.2.2.2.1 i hi; omega⟩
 have hmx : ∀ x y, al Jg pN (la.drop x) (lb.drop y) ≤ 65536 := fun x y => Nat.le_trans (CK (fun z hz => hla z (List.mem_of_mem_drop hz)) (fun z hz => hlb z (List.mem_of_mem_drop hz))) (by simp only [List.length_drop]; omega)
 have hQ1 : i < la.length → 0 ≤ R (i + 1) j ∧ R (i + 1) j ≤ 1000000 := fun h => by have h1 := hmx (i + 1) j; rw [hR1 h]; omega
 have hQ2 : j < lb.length → 0 ≤ R i (j + 1) ∧ R i (j + 1) ≤ 1000000 := fun h => by have h1 := hmx i (j + 1); rw [hR2 h]; omega
 have hQ3 : i < la.length → j < lb.length → 0 ≤ R (i + 1) (j + 1) ∧ R (i + 1) (j + 1) ≤ 1000000 := fun h h2 => by have h1 := hmx (i + 1) (j + 1); rw [hR3 h h2]; omega
 refine Ma func42 rfl ntmps42 Jb (Yi _ _ _) ?_
 have hF := FR.start w0 (Rows q (la.length + 1))
 refine Ka (Ca (Gc rfl) (Ea (Ia ?_)))
 refine Id [] (.free 0 (.free 1 (.free 2 (.free 3 (.free 4 (.free 5 (.free 6 (.free 7 (.free 8 (.free 9 (.free 10 (.free 11 .nil)))))))))))) hF ?_
 clear hF; intro w hF hE
 replace hK := hK.ext hE
 clear hE
 refine ⟨fun wq => FR w0 (Rows q (la.length + 1)) _ wq ∧ Ck wq N0 cb pb rb la lb Aa Ab k1 k2 k3 k4 q r P R, ⟨hF, hK⟩, ?_⟩
 refine Xa rfl (De rfl) (Xa rfl (Of rfl) (Xa rfl (Kc Sx rfl) (Qa rfl (v := .slice Aa la.length k1) (fun w hC => Cb isAgg51 rfl hC.2.c0) (Xa rfl (Qe underlying51 rfl) (Xa rfl (De rfl) (Xa rfl (Of rfl) (Xa rfl (Kc Qx rfl) (Qa rfl (v := .slice Ab lb.length k2) (fun w hC => Cb isAgg51 rfl hC.2.c1) (Xa rfl (Qe underlying51 rfl) (Xa rfl (Gc rfl) (Xa rfl (Gc rfl) (Jc (Ha ?_)))))))))))))
 refine Ia (Va (Ka (Ca (Hb rfl) (Ca (Hb rfl) (Ca (Fo rfl rfl) (Ca (Fd rfl) ?_))))))
 refine Cd (d := 23) rfl (fun hg0 => ?_) (fun hg0 => ?_)
 refine Ca (Hb rfl) (Ca (Hb rfl) (Ca (Fo rfl rfl) (Ca (Oc rfl rfl) (Ca (Ec rfl) (Ea ?_)))))
 refine Pc rfl rfl (fun hc0 => ?_) (fun hc0 => ?_)
 refine Ka (Ca (Gc rfl) (Ea ?_))
 refine Xd (v := .int .i64 0) rfl rfl ?_
 exact ⟨P, congrArg (Value.int .i64) (by obtain rfl : i = la.length := by_Om; obtain rfl : j = lb.length := by_Om; rw [List.drop_length, List.drop_length]; rfl), hK, fun h1 _ => absurd h1 by_Om, fun _ _ _ => rfl, hF.same⟩
 refine Ka (Ca (Hb rfl) (Ca (Hb rfl) (Ca (Fo rfl rfl) (Ca (Ec rfl) (Ea ?_)))))
 refine Pc rfl rfl (fun hc1 => ?_) (fun hc1 => ?_)
 refine Ka (Ca (De rfl) (Ca (Hb rfl) (Ca (Hb rfl) ?_)))
 refine Db (Dv _ N0 cb pb rb la lb Aa Ab k1 k2 k3 k4 q r P R hK i j hll by_Om by_Om (fun j h => hlb _ (List.getElem_mem h)) (hQ2 by_Om)) (Dc R2 rfl rfl rfl rfl) ?_
 rintro _ w ⟨rfl, hE⟩
 replace hF := hF.ext hE
 replace hK := hK.ext hE
 clear hE
 refine Ca (Gc rfl) (Ea ?_)
 refine Xd (v := .int .i64 ((lb[j].1.length : Int) + R i (j + 1))) rfl rfl ?_
 exact ⟨P, congrArg (Value.int .i64) (by have h := hR2 by_Om; obtain rfl : i = la.length := by_Om; rw [h, List.drop_length, List.drop_eq_getElem_cons (show j < lb.length by omega), X3]; simp only [Jg] at *; omega), hK, fun h1 _ => absurd h1 by_Om, fun _ _ _ => rfl, hF.same⟩
 refine Ka (Ca (Hb rfl) (Ca (Hb rfl) (Ca (Fo rfl rfl) (Ca (Ec rfl) (Ea ?_)))))
 refine Pc rfl rfl (fun hc2 => ?_) (fun hc2 => ?_)
 refine Ka (Ca (De rfl) (Ca (Hb rfl) (Ca (Hb rfl) ?_)))
 refine Db (Ip _ N0 cb pb rb la lb Aa Ab k1 k2 k3 k4 q r P R hK i j hll by_Om by_Om (fun j h => hla _ (List.getElem_mem h)) (hQ1 by_Om)) (Dc Kz rfl rfl rfl rfl) ?_
 rintro _ w ⟨rfl, hE⟩
 replace hF := hF.ext hE
 replace hK := hK.ext hE
 clear hE
 refine Ca (Gc rfl) (Ea ?_)
 refine Xd (v := .int .i64 ((la[i].1.length : Int) + R (i + 1) j)) rfl rfl ?_
 exact ⟨P, congrArg (Value.int .i64) (by have h := hR1 by_Om; obtain rfl : j = lb.length := by_Om; rw [h, List.drop_length, List.drop_eq_getElem_cons (show i < la.length by omega), F8]; simp only [Jg] at *; omega), hK, fun _ h2 => absurd h2 by_Om, fun _ _ _ => rfl, hF.same⟩
 refine Wa (Mb (Ha (Ia ?_)))
 have hi1 : i < la.length := by omega
 have hj1 : j < lb.length := by omega
 have hcb : pN la[i] lb[j] ≤ la[i].1.length + lb[j].1.length := (Xn (ls := la[i].1) (fs := la[i].2) (gs := lb[j].1) (hs := lb[j].2)).1
 have q1 : la[i].1.length ≤ 512 := hla _ (List.getElem_mem hi1)
 have q2 : lb[j].1.length ≤ 512 := hlb _ (List.getElem_mem hj1)
 have hLa0 := hL0
 have hLb0 := hL1
 refine Id [27] (.free 0 (.free 1 (.free 2 (.free 3 (.free 4 (.free 5 (.free 6 (.free 7 (.free 8 (.free 9 (.free 10 (.free 11 (.free 12 (.free 13 (.free 14 (.free 15 (.free 16 (.free 17 (.free 18 (.free 19 (.free 20 (.free 21 (.act 22 (.free 23 (.free 24 (.free 26 (.alt 25 (.act 27 .nil) (.act 27 (.act 25 .nil))))))))))))))))))))))))))))) hF ?_
 clear hF; intro w hF hE
 replace hK := hK.ext hE
 clear hE
 refine ⟨fun wq => FR w0 (Rows q (la.length + 1)) _ wq ∧ Ck wq N0 cb pb rb la lb Aa Ab k1 k2 k3 k4 q r P R, ⟨hF, hK⟩, ?_⟩
 refine Xa rfl (De rfl) (Xa rfl (Of rfl) (Xa rfl (Kc Ci rfl) (Qa rfl (v := .slice (some ⟨pb, 0, none⟩) (la.length + 1) (k3)) (fun w hC => Cb isAgg36 rfl hC.2.c2) (Xa rfl (Hb rfl) (Qa rfl (v := .pointer (some ⟨pb, i, none⟩)) (fun w hC => Ub (i := ((i : Nat) : Int)) (i) Qh rfl rfl by_Om by_Om by_Om) (Qa rfl (v := .slice (some ⟨q (i), 0, none⟩) (lb.length + 1) (lb.length + 1)) (fun w hC => Cb isAgg39 rfl (hC.2.pair.rowCell by_Om)) (Xa rfl (Hb rfl) (Xa rfl (De rfl) (Xa rfl (Of rfl) (Xa rfl (Kc Sx rfl) (Qa rfl (v := .slice Aa la.length k1) (fun w hC => Cb isAgg51 rfl hC.2.c0) (Xa rfl (Hb rfl) ?_))))))))))))
 obtain ⟨ad1, P1, p1, Q1, q1, hA1, hk1, hx1, hy1⟩ := hLa0.node_elem (i := i) by_Om
 refine Qa rfl (v := .pointer (some (ad1.add (i * 2)))) (fun w hC => Oa (i := (i : Nat)) U4 rfl hA1 rfl by_Om by_Om) ?_
 refine Qa rfl (fun w hC => Sb (l := [.slice (P1) ((la[i]).1.length) (p1), .slice (Q1) ((la[i]).2.length) (q1)]) isAgg60 sizeOf60 rfl rfl (hC.1.cellsD (by have h_ := hLa0; rw [hA1] at h_; exact fun hm => (hS0 _ (Rep.node_block h_ by_Om)).2 hm) hk1)) ?_
 refine Xa rfl (De rfl) (Xa rfl (Of rfl) (Xa rfl (Kc Qx rfl) (Qa rfl (v := .slice Ab lb.length k2) (fun w hC => Cb isAgg51 rfl hC.2.c1) (Xa rfl (Hb rfl) ?_))))
 obtain ⟨ad2, P2, p2, Q2, q2, hA2, hk2, hx2, hy2⟩ := hLb0.node_elem (i := j) by_Om
 refine Qa rfl (v := .pointer (some (ad2.add (j * 2)))) (fun w hC => Oa (i := (j : Nat)) U4 rfl hA2 rfl by_Om by_Om) ?_
 refine Qa rfl (fun w hC => Sb (l := [.slice (P2) ((lb[j]).1.length) (p2), .slice (Q2) ((lb[j]).2.length) (q2)]) isAgg60 sizeOf60 rfl rfl (hC.1.cellsD (by have h_ := hLb0; rw [hA2] at h_; exact fun hm => (hS0 _ (Rep.node_block h_ by_Om)).2 hm) hk2)) ?_
 refine Ke rfl (I0 _ _ _ la[i].1 la[i].2 P1 Q1 p1 q1 (hF.repD hx1 hS0) (hF.repD hy1 hS0) lb[j].1 lb[j].2 P2 Q2 p2 q2 (hF.repD hx2 hS0) (hF.repD hy2 hS0) (hRa _ (List.getElem_mem _)) (hRb _ (List.getElem_mem _))) (Qb EI rfl rfl rfl) ?_
 rintro _ w ⟨rfl, hE⟩
 replace hF := hF.ext hE
 replace hK := hK.ext hE
 clear hE
 refine ⟨⟨hF, hK⟩, ?_⟩
 refine Xa rfl (Xm rfl) (Xa rfl (Zn rfl rfl) (Qa rfl (v := .pointer (some ⟨q (i), j, none⟩)) (fun w hC => Ub (i := ((j : Nat) : Int)) (j) Df rfl rfl by_Om by_Om by_Om) ?_))
 refine Kj ?_ ?_
 refine Pd rfl (v := .int .i64 0) (Yg rfl rfl) (⟨hF, hK⟩) ?_
 refine Vq rfl hF sizeOf3 rfl rfl (hK.pair.row i by_Om) by_Om (.inl (Ej.2 ⟨i, by omega, rfl⟩)) Ga ?_
 clear hF; intro w hF hE hnew
 replace hK := hK.putP by_Om hE hnew
 clear hE hnew
 refine Jc (Ha (Ka (Ca (De rfl) (Ca (Hb rfl) (Ca (Hb rfl) ?_)))))
 refine Db (Xu _ N0 cb pb rb la lb Aa Ab k1 k2 k3 k4 q r (Eh P i j ((pN la[i] lb[j] : Nat) : Int)) R hK i j hll by_Om by_Om (by rw [Ai]; omega) (hQ3 by_Om by_Om)) (Dc M9 rfl rfl rfl rfl) ?_
 rintro _ w ⟨rfl, hE⟩
 replace hF := hF.ext hE
 replace hK := hK.ext hE
 clear hE
 refine Ca (De rfl) (Ca (Hb rfl) (Ca (Hb rfl) ?_))
 refine Db (Ip _ N0 cb pb rb la lb Aa Ab k1 k2 k3 k4 q r (Eh P i j ((pN la[i] lb[j] : Nat) : Int)) R hK i j hll by_Om by_Om (fun j h => hla _ (List.getElem_mem h)) (hQ1 by_Om)) (Dc Kz rfl rfl rfl rfl) ?_
 rintro _ w ⟨rfl, hE⟩
 replace hF := hF.ext hE
 replace hK := hK.ext hE
 clear hE
 refine Ca (De rfl) (Ca (Hb rfl) (Ca (Hb rfl) ?_))
 refine Db (Dv _ N0 cb pb rb la lb Aa Ab k1 k2 k3 k4 q r (Eh P i j ((pN la[i] lb[j] : Nat) : Int)) R hK i j hll by_Om by_Om (fun j h => hlb _ (List.getElem_mem h)) (hQ2 by_Om)) (Dc R2 rfl rfl rfl rfl) ?_
 rintro _ w ⟨rfl, hE⟩
 replace hF := hF.ext hE
 replace hK := hK.ext hE
 clear hE
 refine Ja (v := .int .i64 (min (min ((Eh P i j ((pN la[i] lb[j] : Nat) : Int)) i j + R (i + 1) (j + 1)) ((la[i].1.length : Int) + R (i + 1) j)) ((lb[j].1.length : Int) + R i (j + 1)))) (D6 rfl rfl rfl) (Ca (Gc rfl) (Ea ?_))
 refine Fc (Bc (Za (By (v := .int .i64 (min (min ((Eh P i j ((pN la[i] lb[j] : Nat) : Int)) i j + R (i + 1) (j + 1)) ((la[i].1.length : Int) + R (i + 1) j)) ((lb[j].1.length : Int) + R i (j + 1)))) rfl rfl) ?_))
 exact ⟨(Eh P i j ((pN la[i] lb[j] : Nat) : Int)), congrArg (Value.int .i64) (by rw [Ai, hR1 by_Om, hR2 by_Om, hR3 by_Om by_Om, List.drop_eq_getElem_cons hi1, List.drop_eq_getElem_cons hj1, Jq, ← List.drop_eq_getElem_cons hi1, ← List.drop_eq_getElem_cons hj1]; simp only [Jg] at *; omega), hK, fun _ _ => Ai _ _ _ _, fun a b h => Jp h, hF.same⟩
 refine Vq rfl hF sizeOf3 rfl rfl (hK.pair.row i by_Om) by_Om (.inl (Ej.2 ⟨i, by omega, rfl⟩)) Ga ?_
 clear hF; intro w hF hE hnew
 replace hK := hK.putP by_Om hE hnew
 clear hE hnew
 refine Pd rfl (v := .int .i64 0) (Yg rfl rfl) (trivial) ?_
 refine Jc (Ha (Ka (Ca (De rfl) (Ca (Hb rfl) (Ca (Hb rfl) ?_)))))
 refine Db (Xu _ N0 cb pb rb la lb Aa Ab k1 k2 k3 k4 q r (Eh P i j ((pN la[i] lb[j] : Nat) : Int)) R hK i j hll by_Om by_Om (by rw [Ai]; omega) (hQ3 by_Om by_Om)) (Dc M9 rfl rfl rfl rfl) ?_
 rintro _ w ⟨rfl, hE⟩
 replace hF := hF.ext hE
 replace hK := hK.ext hE
 clear hE
 refine Ca (De rfl) (Ca (Hb rfl) (Ca (Hb rfl) ?_))
 refine Db (Ip _ N0 cb pb rb la lb Aa Ab k1 k2 k3 k4 q r (Eh P i j ((pN la[i] lb[j] : Nat) : Int)) R hK i j hll by_Om by_Om (fun j h => hla _ (List.getElem_mem h)) (hQ1 by_Om)) (Dc Kz rfl rfl rfl rfl) ?_
 rintro _ w ⟨rfl, hE⟩
 replace hF := hF.ext hE
 replace hK := hK.ext hE
 clear hE
 refine Ca (De rfl) (Ca (Hb rfl) (Ca (Hb rfl) ?_))
 refine Db (Dv _ N0 cb pb rb la lb Aa Ab k1 k2 k3 k4 q r (Eh P i j ((pN la[i] lb[j] : Nat) : Int)) R hK i j hll by_Om by_Om (fun j h => hlb _ (List.getElem_mem h)) (hQ2 by_Om)) (Dc R2 rfl rfl rfl rfl) ?_
 rintro _ w ⟨rfl, hE⟩
 replace hF := hF.ext hE
 replace hK := hK.ext hE
 clear hE
 refine Ja (v := .int .i64 (min (min ((Eh P i j ((pN la[i] lb[j] : Nat) : Int)) i j + R (i + 1) (j + 1)) ((la[i].1.length : Int) + R (i + 1) j)) ((lb[j].1.length : Int) + R i (j + 1)))) (D6 rfl rfl rfl) (Ca (Gc rfl) (Ea ?_))
 refine Fc (Bc (Za (By (v := .int .i64 (min (min ((Eh P i j ((pN la[i] lb[j] : Nat) : Int)) i j + R (i + 1) (j + 1)) ((la[i].1.length : Int) + R (i + 1) j)) ((lb[j].1.length : Int) + R i (j + 1)))) rfl rfl) ?_))
 exact ⟨(Eh P i j ((pN la[i] lb[j] : Nat) : Int)), congrArg (Value.int .i64) (by rw [Ai, hR1 by_Om, hR2 by_Om, hR3 by_Om by_Om, List.drop_eq_getElem_cons hi1, List.drop_eq_getElem_cons hj1, Jq, ← List.drop_eq_getElem_cons hi1, ← List.drop_eq_getElem_cons hj1]; simp only [Jg] at *; omega), hK, fun _ _ => Ai _ _ _ _, fun a b h => Jp h, hF.same⟩
 refine Sa (Sa (Sa (Ca (Jd rfl rfl) (Ca (Ec rfl) (Ea (Bg rfl (Ka (Ca (Hb rfl) (Ca (Hb rfl) (Ca (Fo rfl rfl) (Ca (Ec rfl) ?_)))))))))))
 refine Ea ?_
 refine Pc rfl rfl (fun hc1 => ?_) (fun hc1 => ?_)
 refine Ka (Ca (De rfl) (Ca (Hb rfl) (Ca (Hb rfl) ?_)))
 refine Db (Dv _ N0 cb pb rb la lb Aa Ab k1 k2 k3 k4 q r P R hK i j hll by_Om by_Om (fun j h => hlb _ (List.getElem_mem h)) (hQ2 by_Om)) (Dc R2 rfl rfl rfl rfl) ?_
 rintro _ w ⟨rfl, hE⟩
 replace hF := hF.ext hE
 replace hK := hK.ext hE
 clear hE
 refine Ca (Gc rfl) (Ea ?_)
 refine Xd (v := .int .i64 ((lb[j].1.length : Int) + R i (j + 1))) rfl rfl ?_
 exact ⟨P, congrArg (Value.int .i64) (by have h := hR2 by_Om; obtain rfl : i = la.length := by_Om; rw [h, List.drop_length, List.drop_eq_getElem_cons (show j < lb.length by omega), X3]; simp only [Jg] at *; omega), hK, fun h1 _ => absurd h1 by_Om, fun _ _ _ => rfl, hF.same⟩
 refine Ka (Ca (Hb rfl) (Ca (Hb rfl) (Ca (Fo rfl rfl) (Ca (Ec rfl) (Ea ?_)))))
 refine Pc rfl rfl (fun hc2 => ?_) (fun hc2 => ?_)
 refine Ka (Ca (De rfl) (Ca (Hb rfl) (Ca (Hb rfl) ?_)))
 refine Db (Ip _ N0 cb pb rb la lb Aa Ab k1 k2 k3 k4 q r P R hK i j hll by_Om by_Om (fun j h => hla _ (List.getElem_mem h)) (hQ1 by_Om)) (Dc Kz rfl rfl rfl rfl) ?_
 rintro _ w ⟨rfl, hE⟩
 replace hF := hF.ext hE
 replace hK := hK.ext hE
 clear hE
 refine Ca (Gc rfl) (Ea ?_)
 refine Xd (v := .int .i64 ((la[i].1.length : Int) + R (i + 1) j)) rfl rfl ?_
 exact ⟨P, congrArg (Value.int .i64) (by have h := hR1 by_Om; obtain rfl : j = lb.length := by_Om; rw [h, List.drop_length, List.drop_eq_getElem_cons (show i < la.length by omega), F8]; simp only [Jg] at *; omega), hK, fun _ h2 => absurd h2 by_Om, fun _ _ _ => rfl, hF.same⟩
 refine Wa (Mb (Ha (Ia ?_)))
 have hi1 : i < la.length := by omega
 have hj1 : j < lb.length := by omega
 have hcb : pN la[i] lb[j] ≤ la[i].1.length + lb[j].1.length := (Xn (ls := la[i].1) (fs := la[i].2) (gs := lb[j].1) (hs := lb[j].2)).1
 have q1 : la[i].1.length ≤ 512 := hla _ (List.getElem_mem hi1)
 have q2 : lb[j].1.length ≤ 512 := hlb _ (List.getElem_mem hj1)
 have hLa0 := hL0
 have hLb0 := hL1
 refine Id [27] (.free 0 (.free 1 (.free 2 (.free 3 (.free 4 (.free 5 (.free 6 (.free 7 (.free 8 (.free 9 (.free 10 (.free 11 (.free 12 (.free 13 (.free 14 (.free 15 (.free 16 (.free 17 (.free 18 (.free 19 (.free 20 (.free 21 (.act 22 (.free 23 (.free 24 (.free 26 (.alt 25 (.act 27 .nil) (.act 27 (.act 25 .nil))))))))))))))))))))))))))))) hF ?_
 clear hF; intro w hF hE
 replace hK := hK.ext hE
 clear hE
 refine ⟨fun wq => FR w0 (Rows q (la.length + 1)) _ wq ∧ Ck wq N0 cb pb rb la lb Aa Ab k1 k2 k3 k4 q r P R, ⟨hF, hK⟩, ?_⟩
 refine Xa rfl (De rfl) (Xa rfl (Of rfl) (Xa rfl (Kc Ci rfl) (Qa rfl (v := .slice (some ⟨pb, 0, none⟩) (la.length + 1) (k3)) (fun w hC => Cb isAgg36 rfl hC.2.c2) (Xa rfl (Hb rfl) (Qa rfl (v := .pointer (some ⟨pb, i, none⟩)) (fun w hC => Ub (i := ((i : Nat) : Int)) (i) Qh rfl rfl by_Om by_Om by_Om) (Qa rfl (v := .slice (some ⟨q (i), 0, none⟩) (lb.length + 1) (lb.length + 1)) (fun w hC => Cb isAgg39 rfl (hC.2.pair.rowCell by_Om)) (Xa rfl (Hb rfl) (Xa rfl (De rfl) (Xa rfl (Of rfl) (Xa rfl (Kc Sx rfl) (Qa rfl (v := .slice Aa la.length k1) (fun w hC => Cb isAgg51 rfl hC.2.c0) (Xa rfl (Hb rfl) ?_))))))))))))
 obtain ⟨ad3, P3, p3, Q3, q3, hA3, hk3, hx3, hy3⟩ := hLa0.node_elem (i := i) by_Om
 refine Qa rfl (v := .pointer (some (ad3.add (i * 2)))) (fun w hC => Oa (i := (i : Nat)) U4 rfl hA3 rfl by_Om by_Om) ?_
 refine Qa rfl (fun w hC => Sb (l := [.slice (P3) ((la[i]).1.length) (p3), .slice (Q3) ((la[i]).2.length) (q3)]) isAgg60 sizeOf60 rfl rfl (hC.1.cellsD (by have h_ := hLa0; rw [hA3] at h_; exact fun hm => (hS0 _ (Rep.node_block h_ by_Om)).2 hm) hk3)) ?_
 refine Xa rfl (De rfl) (Xa rfl (Of rfl) (Xa rfl (Kc Qx rfl) (Qa rfl (v := .slice Ab lb.length k2) (fun w hC => Cb isAgg51 rfl hC.2.c1) (Xa rfl (Hb rfl) ?_))))
 obtain ⟨ad4, P4, p4, Q4, q4, hA4, hk4, hx4, hy4⟩ := hLb0.node_elem (i := j) by_Om
 refine Qa rfl (v := .pointer (some (ad4.add (j * 2)))) (fun w hC => Oa (i := (j : Nat)) U4 rfl hA4 rfl by_Om by_Om) ?_
 refine Qa rfl (fun w hC => Sb (l := [.slice (P4) ((lb[j]).1.length) (p4), .slice (Q4) ((lb[j]).2.length) (q4)]) isAgg60 sizeOf60 rfl rfl (hC.1.cellsD (by have h_ := hLb0; rw [hA4] at h_; exact fun hm => (hS0 _ (Rep.node_block h_ by_Om)).2 hm) hk4)) ?_
 refine Ke rfl (I0 _ _ _ la[i].1 la[i].2 P3 Q3 p3 q3 (hF.repD hx3 hS0) (hF.repD hy3 hS0) lb[j].1 lb[j].2 P4 Q4 p4 q4 (hF.repD hx4 hS0) (hF.repD hy4 hS0) (hRa _ (List.getElem_mem _)) (hRb _ (List.getElem_mem _))) (Qb EI rfl rfl rfl) ?_
 rintro _ w ⟨rfl, hE⟩
 replace hF := hF.ext hE
 replace hK := hK.ext hE
 clear hE
 refine ⟨⟨hF, hK⟩, ?_⟩
 refine Xa rfl (Xm rfl) (Xa rfl (Zn rfl rfl) (Qa rfl (v := .pointer (some ⟨q (i), j, none⟩)) (fun w hC => Ub (i := ((j : Nat) : Int)) (j) Df rfl rfl by_Om by_Om by_Om) ?_))
 refine Kj ?_ ?_
 refine Pd rfl (v := .int .i64 0) (Yg rfl rfl) (⟨hF, hK⟩) ?_
 refine Vq rfl hF sizeOf3 rfl rfl (hK.pair.row i by_Om) by_Om (.inl (Ej.2 ⟨i, by omega, rfl⟩)) Ga ?_
 clear hF; intro w hF hE hnew
 replace hK := hK.putP by_Om hE hnew
 clear hE hnew
 refine Jc (Ha (Ka (Ca (De rfl) (Ca (Hb rfl) (Ca (Hb rfl) ?_)))))
 refine Db (Xu _ N0 cb pb rb la lb Aa Ab k1 k2 k3 k4 q r (Eh P i j ((pN la[i] lb[j] : Nat) : Int)) R hK i j hll by_Om by_Om (by rw [Ai]; omega) (hQ3 by_Om by_Om)) (Dc M9 rfl rfl rfl rfl) ?_
 rintro _ w ⟨rfl, hE⟩
 replace hF := hF.ext hE
 replace hK := hK.ext hE
 clear hE
 refine Ca (De rfl) (Ca (Hb rfl) (Ca (Hb rfl) ?_))
 refine Db (Ip _ N0 cb pb rb la lb Aa Ab k1 k2 k3 k4 q r (Eh P i j ((pN la[i] lb[j] : Nat) : Int)) R hK i j hll by_Om by_Om (fun j h => hla _ (List.getElem_mem h)) (hQ1 by_Om)) (Dc Kz rfl rfl rfl rfl) ?_
 rintro _ w ⟨rfl, hE⟩
 replace hF := hF.ext hE
 replace hK := hK.ext hE
 clear hE
 refine Ca (De rfl) (Ca (Hb rfl) (Ca (Hb rfl) ?_))
 refine Db (Dv _ N0 cb pb rb la lb Aa Ab k1 k2 k3 k4 q r (Eh P i j ((pN la[i] lb[j] : Nat) : Int)) R hK i j hll by_Om by_Om (fun j h => hlb _ (List.getElem_mem h)) (hQ2 by_Om)) (Dc R2 rfl rfl rfl rfl) ?_
 rintro _ w ⟨rfl, hE⟩
 replace hF := hF.ext hE
 replace hK := hK.ext hE
 clear hE
 refine Ja (v := .int .i64 (min (min ((Eh P i j ((pN la[i] lb[j] : Nat) : Int)) i j + R (i + 1) (j + 1)) ((la[i].1.length : Int) + R (i + 1) j)) ((lb[j].1.length : Int) + R i (j + 1)))) (D6 rfl rfl rfl) (Ca (Gc rfl) (Ea ?_))
 refine Fc (Bc (Za (By (v := .int .i64 (min (min ((Eh P i j ((pN la[i] lb[j] : Nat) : Int)) i j + R (i + 1) (j + 1)) ((la[i].1.length : Int) + R (i + 1) j)) ((lb[j].1.length : Int) + R i (j + 1)))) rfl rfl) ?_))
 exact ⟨(Eh P i j ((pN la[i] lb[j] : Nat) : Int)), congrArg (Value.int .i64) (by rw [Ai, hR1 by_Om, hR2 by_Om, hR3 by_Om by_Om, List.drop_eq_getElem_cons hi1, List.drop_eq_getElem_cons hj1, Jq, ← List.drop_eq_getElem_cons hi1, ← List.drop_eq_getElem_cons hj1]; simp only [Jg] at *; omega), hK, fun _ _ => Ai _ _ _ _, fun a b h => Jp h, hF.same⟩
 refine Vq rfl hF sizeOf3 rfl rfl (hK.pair.row i by_Om) by_Om (.inl (Ej.2 ⟨i, by omega, rfl⟩)) Ga ?_
 clear hF; intro w hF hE hnew
 replace hK := hK.putP by_Om hE hnew
 clear hE hnew
 refine Pd rfl (v := .int .i64 0) (Yg rfl rfl) (trivial) ?_
 refine Jc (Ha (Ka (Ca (De rfl) (Ca (Hb rfl) (Ca (Hb rfl) ?_)))))
 refine Db (Xu _ N0 cb pb rb la lb Aa Ab k1 k2 k3 k4 q r (Eh P i j ((pN la[i] lb[j] : Nat) : Int)) R hK i j hll by_Om by_Om (by rw [Ai]; omega) (hQ3 by_Om by_Om)) (Dc M9 rfl rfl rfl rfl) ?_
 rintro _ w ⟨rfl, hE⟩
 replace hF := hF.ext hE
 replace hK := hK.ext hE
 clear hE
 refine Ca (De rfl) (Ca (Hb rfl) (Ca (Hb rfl) ?_))
 refine Db (Ip _ N0 cb pb rb la lb Aa Ab k1 k2 k3 k4 q r (Eh P i j ((pN la[i] lb[j] : Nat) : Int)) R hK i j hll by_Om by_Om (fun j h => hla _ (List.getElem_mem h)) (hQ1 by_Om)) (Dc Kz rfl rfl rfl rfl) ?_
 rintro _ w ⟨rfl, hE⟩
 replace hF := hF.ext hE
 replace hK := hK.ext hE
 clear hE
 refine Ca (De rfl) (Ca (Hb rfl) (Ca (Hb rfl) ?_))
 refine Db (Dv _ N0 cb pb rb la lb Aa Ab k1 k2 k3 k4 q r (Eh P i j ((pN la[i] lb[j] : Nat) : Int)) R hK i j hll by_Om by_Om (fun j h => hlb _ (List.getElem_mem h)) (hQ2 by_Om)) (Dc R2 rfl rfl rfl rfl) ?_
 rintro _ w ⟨rfl, hE⟩
 replace hF := hF.ext hE
 replace hK := hK.ext hE
 clear hE
 refine Ja (v := .int .i64 (min (min ((Eh P i j ((pN la[i] lb[j] : Nat) : Int)) i j + R (i + 1) (j + 1)) ((la[i].1.length : Int) + R (i + 1) j)) ((lb[j].1.length : Int) + R i (j + 1)))) (D6 rfl rfl rfl) (Ca (Gc rfl) (Ea ?_))
 refine Fc (Bc (Za (By (v := .int .i64 (min (min ((Eh P i j ((pN la[i] lb[j] : Nat) : Int)) i j + R (i + 1) (j + 1)) ((la[i].1.length : Int) + R (i + 1) j)) ((lb[j].1.length : Int) + R i (j + 1)))) rfl rfl) ?_))
 exact ⟨(Eh P i j ((pN la[i] lb[j] : Nat) : Int)), congrArg (Value.int .i64) (by rw [Ai, hR1 by_Om, hR2 by_Om, hR3 by_Om by_Om, List.drop_eq_getElem_cons hi1, List.drop_eq_getElem_cons hj1, Jq, ← List.drop_eq_getElem_cons hi1, ← List.drop_eq_getElem_cons hj1]; simp only [Jg] at *; omega), hK, fun _ _ => Ai _ _ _ _, fun a b h => Jp h, hF.same⟩
end Go.Scarf
namespace Go.Scarf
open Go.RowKit Go.Proofs Go.Proofs.Tryz
def Hx (l : List Tree) : Nat := (l.map fun x => (Be x).length).sum
def Fb (x : Tree) : TreeN := (Be x, Hf x)
def Oi (l : List Tree) : Int := if l.all Zb = true then (if 64 < l.length then 6 else if 512 < Hx l then 6 else 0) else 1
theorem R4 {l : List Tree} {j : Nat} (h : j < l.length) : Hx (l.take (j + 1)) = Hx (l.take j) + (Be l[j]).length := by
  unfold Hx
  rw [List.take_succ_eq_append_getElem h, List.map_append, List.sum_append]; simp only [List.map_cons, List.map_nil, List.sum_cons, List.sum_nil, Nat.add_zero]
theorem OF (l : List Tree) (j : Nat) : Hx (l.take j) ≤ Hx l := by
  unfold Hx
  conv => rhs; rw [← List.take_append_drop j l]
  rw [List.map_append, List.sum_append]; omega
theorem XB {l : List Tree} {j : Nat} {h : j < l.length} (hr : Zb l[j] = false) : Oi l = 1 := by
  unfold Oi
  rw [if_neg]
  intro ha
  rw [List.all_eq_true.1 ha l[j] (List.getElem_mem h)] at hr
  cases hr
theorem Ov {l : List Tree} {j : Nat} (hs : ∀ i (h : i < l.length), i < j → Zb l[i] = true) (hj : l.length ≤ j) : l.all Zb = true := by
  rw [List.all_eq_true]
  intro x hx
  obtain ⟨i, hi, rfl⟩ := List.getElem_of_mem hx
  exact hs i hi by_Om
theorem FA {l : List Tree} {j : Nat} (hs : ∀ i (h : i < l.length), i < j → Zb l[i] = true) (hj : ∀ h : j < l.length, Zb l[j] = true) : ∀ i (h : i < l.length), i < j + 1 → Zb l[i] = true := fun i h h2 => by
  by_cases e : i = j
  · subst e; exact hj h
  · exact hs i h by_Om
theorem JA {l : List Tree} {j : Nat} (h : j < l.length) : (l.take (j + 1)).map (fun x => Pl (Fb x)) = (l.take j).map (fun x => Pl (Fb x)) ++ [Pl (Be l[j], Hf l[j])] := by
  rw [List.take_succ_eq_append_getElem h, List.map_append]; rfl
def Pk (x : Tree) : Prop := Ox x ∧ Ac x ≤ 256 ∧ Ee x ≤ 16777216
theorem AD (l : List Tree) (A : Option Addr) (c : Nat) (S : Nat → Prop) (w0 : World) (hG : Gl w0) (hX : Rep S w0 (.slice (Dd l)) [.slice A l.length c]) (hok : ∀ x ∈ l, Pk x) : Calls prog 24 #[.slice A l.length c] w0 (Rd fun v w' => (Oi l ≠ 0 ∧ v = .tuple #[.slice none 0 0, .int .i64 (Oi l)] ∧ Same [] w0 w') ∨ (Oi l = 0 ∧ ∃ (A' : Option Addr) (c' : Nat), v = .tuple #[.slice A' l.length c', .int .i64 0] ∧ Rep (Btw w0 w') w' (.slice ((l.map Fb).map Pl)) [.slice A' l.length c'] ∧ Same [] w0 w')) := by
 have hXl := hX.slice_len
 rw [Mf] at hXl
 refine Ma func24 rfl ntmps24 Jb (Ed _) ?_
 have hF := FR.start w0 []
 refine Ka (Ca (Il rfl) (Ca (Gc rfl) (Ea (Ia (Ka (Ca (Md rfl) (Ca (Qe underlying22 rfl) (Ca (Hb rfl) (Ea ?_)))))))))
 refine Va ?_
 refine Uc (fun μ σ w => ∃ (j : Nat), μ = l.length - j ∧ (j ≤ l.length) ∧ (∀ i (h : i < l.length), i < j → Zb l[i] = true) ∧ AllEq σ [(0, .slice A l.length c), (12, .slice A l.length c), (13, .int .i64 ((l.length : Nat))), (14, .int .i64 ((j : Int)))] ∧ FR w0 [] [] w) _ ⟨0, rfl, by_Om, (fun i _ h => by omega), Gt, hF⟩ ?_
 clear hF; rintro μ σ w ⟨j, rfl, hj, hs_, hs, hF⟩
 refine Cg.slots hs ?_
 clear hs; intro σ
 refine Ka (Ca (Nk rfl rfl) (Ea (Ia ?_)))
 refine Pc rfl rfl (fun hc0 => ?_) (fun hc0 => ?_)
 refine Wa (Ha (Ia (Va (Ka ?_))))
 obtain ⟨ad0, cs0, hA0, hl0, hk0, hx0⟩ := hX.tree_elem (i := j) by_Om
 have ho0 := hx0.one_
 refine Ja (v := .pointer (some (ad0.add (j * 4)))) (Oa (i := (j : Int)) Hi rfl hA0 rfl by_Om by_Om) (Ja (v := .agg (List.toArray cs0)) (Sb (l := cs0) isAgg27 sizeOf27 rfl hl0 (hF.cells0 hk0)) ?_)
 refine Tr (l := cs0) hF zeroValue27 (by rw [hl0]; exact sizeOf27) (by rw [hl0]; rfl) (v := .agg (List.toArray cs0)) rfl rfl (ho0) rfl ?_
 clear hF; rintro b1 w hb1 hF -
 refine Cc (Ja (v := .agg (List.toArray cs0)) (Sb (l := cs0) isAgg27 sizeOf27 rfl hl0 (hF.cellsAll 0 rfl)) ?_)
 refine Pb hF (Px l[j] (Nat.le_trans (hok _ (List.getElem_mem (l := l) (n := j) by_Om)).2.1 Ra) _ _ cs0 (hF.rep hx0) (hok _ (List.getElem_mem (l := l) (n := j) by_Om)).1 (hG.ext hF.same)) (Eb NC rfl rfl) ?_
 clear hF; intro w hF
 refine Ca (Oo rfl) (Ea ?_)
 refine Pj rfl rfl (fun hc1 => ?_) (fun hc1 => ?_)
 refine Ka (Ca (Il rfl) (Ca (Gc rfl) (Ea ?_)))
 refine Fc (Bc (Za (Ye (v := .slice _ _ _) (x := .int .i64 1) rfl rfl rfl) ?_))
 have he : Oi l = 1 := XB (j := j) (h := by omega) (by simp_all)
 exact .inl ⟨by rw [he]; decide, by rw [he], hF.same⟩
 refine Wa (Mb (Ha (Da (Ca (Qi (((j + 1 : Nat) : Int)) rfl rfl) (Ca (Hb rfl) (Ya ?_))))))
 refine Ic ⟨_, ?_, j + 1, rfl, by_Om, (FA hs_ (fun _ => by simp_all)), Gt, hF.drop 1⟩
 omega
 refine Nc (Lc rfl ?_)
 refine Ha (Ia (Ka (Ca (Md rfl) (Ca (Qe underlying22 rfl) (Ca (X0 rfl rfl) (Ea ?_))))))
 refine Pc rfl rfl (fun hc2 => ?_) (fun hc2 => ?_)
 refine Ka (Ca (Il rfl) (Ca (Gc rfl) (Ea ?_)))
 refine Fc (Bc (Za (Ye (v := .slice _ _ _) (x := .int .i64 6) rfl rfl rfl) ?_))
 have he : Oi l = 6 := by rw [Oi, if_pos (Ov hs_ by_Om), if_pos by_Om]
 exact .inl ⟨by rw [he]; decide, by rw [he], hF.same⟩
 refine Wa (Ha (Ka (Ca (Il rfl) (Cc (Ca (Gc rfl) (Ea (Ia (Ia ?_))))))))
 refine Da (Ca (Md rfl) (Ca (Qe underlying22 rfl) (Ca (Hb rfl) (Ea (Va ?_)))))
 have hall : ∀ i (h : i < l.length), Zb l[i] = true := fun i h => hs_ i h by_Om
 refine Uc (fun μ σ w => ∃ (j : Nat), ∃ (A1 : Option Addr), ∃ (c1 : Nat), ∃ (so : List (Nat × Obj)), ∃ (vals : List Value), μ = l.length - j ∧ (j ≤ l.length) ∧ (SlB 60 2 A1 j c1 vals so) ∧ (RX w0 ([] ++ so.map (·.1)) w ((l.take j).map fun x => Pl (Fb x)) vals) ∧ (Hx (l.take j) ≤ 512) ∧ AllEq σ [(6, .slice A1 j c1), (7, .int .i64 (512 - ((Hx (l.take j) : Nat) : Int))), (25, .slice A l.length c), (26, .int .i64 ((l.length : Nat))), (27, .int .i64 ((j : Int)))] ∧ FR w0 [] ([] ++ (so ++ [])) w) _ ⟨0, none, 0, [], [], rfl, (Nat.zero_le _), (SlB.nil _ _), (RX.nil), (by simp [Hx]), Jr, hF⟩ ?_
 clear hF; rintro μ σ w ⟨j, A1, c1, so, vals, rfl, hj, hS, hDX, ht_, hs, hF⟩
 refine Cg.slots hs ?_
 clear hs; intro σ
 refine Ka (Ca (Nk rfl rfl) (Ea (Ia ?_)))
 refine Pc rfl rfl (fun hc3 => ?_) (fun hc3 => ?_)
 refine Wa (Ha (Ia (Va (Ka ?_))))
 obtain ⟨ad1, cs1, hA1, hl1, hk1, hx1⟩ := hX.tree_elem (i := j) by_Om
 have ho1 := hx1.one_
 refine Ja (v := .pointer (some (ad1.add (j * 4)))) (Oa (i := (j : Int)) Hi rfl hA1 rfl by_Om by_Om) (Ja (v := .agg (List.toArray cs1)) (Sb (l := cs1) isAgg27 sizeOf27 rfl hl1 (hF.cells0 hk1)) ?_)
 refine Tr (l := cs1) hF zeroValue27 (by rw [hl1]; exact sizeOf27) (by rw [hl1]; rfl) (v := .agg (List.toArray cs1)) rfl rfl (ho1) rfl ?_
 clear hF; intro b2 w hb2 hF hE
 replace hDX := hDX.alloc hE hb2
 clear hE
 refine Cc (Ja (v := .agg (List.toArray cs1)) (Sb (l := cs1) isAgg27 sizeOf27 rfl hl1 (hF.cellsAll 0 rfl)) ?_)
 refine Db (Cq l[j] _ _ cs1 (hF.rep hx1) (hG.ext hF.same) (hok _ (List.getElem_mem (l := l) (n := j) by_Om)).2.1 (Nat.le_trans (hok _ (List.getElem_mem (l := l) (n := j) by_Om)).2.2 Ra) (hall j by_Om)) (Eb Hz rfl rfl) ?_
 rintro _ w ⟨A5, c5, B5, e5, rfl, hL_, hN_, hE⟩
 have hRt := RL (x := (Be l[j], Hf l[j])) hL_ hN_
 have hYX := RX.made (ids := [b2] ++ so.map (·.1)) hF.same.size (fun x hx => hF.lt_ids (by grind)) hRt
 replace hDX := hDX.ext hE
 replace hF := hF.ext hE
 clear hE hRt hL_ hN_
 refine Ca (Xm rfl) (Ca (XA rfl rfl) (Ca (Zn rfl rfl) ?_))
 refine Bj hF zeroValue60 sizeOf60 rfl ?_
 clear hF; intro b3 w hb3 hF hE
 replace hDX := hDX.alloc hE hb3
 replace hYX := hYX.alloc hE hb3
 clear hE
 refine Ca (Gc rfl) (Cc (Ca (Hb rfl) (Ca (Kc Je rfl) (Qd (Vi isAgg25 rfl hF.F 0 rfl rfl) (Ca (Qe underlying25 rfl) ?_)))))
 refine Ja (v := .int .i64 (512 - ((Hx (l.take (j + 1)) : Nat) : Int))) (Uw rfl rfl (Bi (by rw [R4 by_Om]; omega) (by have h1 := Jo (hall j by_Om); have h2 := (hok _ (List.getElem_mem (l := l) (n := j) by_Om)).2.1; rw [R4 by_Om]; omega) by_Om)) ?_
 refine Ca (Gc rfl) (Ea (Ia (Ka (Ca (Hb rfl) (Ja (v := .bool false) (Sd (Bq rfl rfl) Ra) (Ca (Fd rfl) (Ca (Hb rfl) (Ca (Nk rfl rfl) (Ca (Jd rfl rfl) (Ea ?_))))))))))
 refine Pc rfl rfl (fun hc4 => ?_) (fun hc4 => ?_)
 refine Ka (Ca (Il rfl) (Ca (Gc rfl) (Ea ?_)))
 refine Fc (Bc (Za (Ye (v := .slice _ _ _) (x := .int .i64 6) rfl rfl rfl) ?_))
 have he : Oi l = 6 := by have h1 := OF l (j + 1); rw [Oi, if_pos (Ov (j := l.length) (fun i h _ => hall i h) (Nat.le_refl _)), if_neg by_Om, if_pos by_Om]
 exact .inl ⟨by rw [he]; decide, by rw [he], hF.same⟩
 refine Wa (Ha (Da (Ca (Md rfl) (Qd (Bm isAgg60 sizeOf60 rfl hF.F 0 rfl rfl) ?_))))
 refine Xf 1 hF (Ua (cs := #[.slice (A5) ((Be l[j]).length) (c5), .slice (B5) ((Hf l[j]).length) (e5)]) underlying51 sizeOf60 zeroValue60 Ra Ra Ib) ?_
 clear hF; intro b4 w hb4 hF hE
 replace hDX := hDX.alloc hE hb4
 replace hYX := hYX.alloc hE hb4
 clear hE
 refine Tq [(b4, .cells #[.slice (A5) ((Be l[j]).length) (c5), .slice (B5) ((Hf l[j]).length) (e5)] 60), (b3, .cells #[.slice (A5) ((Be l[j]).length) (c5), .slice (B5) ((Hf l[j]).length) (e5)] 60), (b2, .cells (List.toArray cs1) 27)] [] (news := [.slice (A5) ((Be l[j]).length) (c5), .slice (B5) ((Hf l[j]).length) (e5)]) (len' := j + 1) (ys := vals ++ [.slice (A5) ((Be l[j]).length) (c5), .slice (B5) ((Hf l[j]).length) (e5)]) WT hF hS rfl rfl (rfl) (fun _ => ⟨_, rfl, Xb (hF.cellsAll 0 rfl)⟩) (by simp [Value.oneCell']) (by simp only [maxLen]; omega) (rfl) (rfl) by_Om ?_
 clear hF; intro A2 c2 o_2 w hS2_o hF hE hnew
 replace hDX := hDX.app (l := [b4, b3, b2]) hE hnew
 replace hYX := hYX.app (l := [b4, b3, b2]) hE hnew
 clear hE hnew
 refine Ca (Il rfl) (Ya (Mb (Ha (Da (Ca (Qi (((j + 1 : Nat) : Int)) rfl rfl) (Ca (Hb rfl) (Ya ?_)))))))
 refine Ic ⟨_, ?_, j + 1, A2, c2, o_2, vals ++ [.slice A5 (Be l[j]).length c5, .slice B5 (Hf l[j]).length e5], rfl, by_Om, (by assumption), (by rw [JA by_Om]; exact (hDX.append hYX).sub (by grind)), by_Om, Jr, hF.drop 3⟩
 omega
 refine Nc (Lc rfl ?_)
 refine Ha (Ka (Ca (Md rfl) (Ca (Il rfl) (Ca (Gc rfl) (Ea ?_)))))
 refine Fc (Bc (Za (Ye (v := .slice _ _ _) (x := .int .i64 0) rfl rfl rfl) ?_))
 have ej : j = l.length := by omega
 subst ej
 rw [List.take_length] at hDX ht_
 have he : Oi l = 0 := by rw [Oi, if_pos (Ov (j := l.length) (fun i h _ => hall i h) (Nat.le_refl _)), if_neg by_Om, if_neg by_Om]
 have hrep := hS.rep (pre := []) (post := []) hF hDX Ga
 exact .inr ⟨he, A1, c1, rfl, by rw [List.map_map]; exact hrep, hF.same⟩
end Go.Scarf
