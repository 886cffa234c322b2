/- A part of the proof. -/
import Derived.Test.YtepbomjpbdbejaaGreatDoorAp
import Derived.Test.YtepbomjpbdbejaaGreatDoorW19
import Derived.Test.YtepbomjpbdbejaaGreatDoorZ1
import Derived.Test.YtepbomjpbdbejaaGreatDoorZ11
import Derived.Test.YtepbomjpbdbejaaGreatDoorZ4
import Derived.Test.YtepbomjpbdbejaaGreatDoorMore
import Derived.Test.YtepbomjpbdbejaaGreatDoorW4
set_option linter.all false
set_option maxHeartbeats 8000000
set_option maxRecDepth 10000
namespace Go.Scarf
open Go.RowKit Go.Proofs Go.Proofs.Tryz
theorem Vv (w : World) (a b : Int × Int) : (Op.equal 49 (.agg (Ai a).toArray) (.agg (Ai b).toArray)).run prog w = .ok (decide (a = b)) w := by
  obtain ⟨a1, a2⟩ := a
  obtain ⟨b1, b2⟩ := b
  simp only [Ai, Prod.mk.injEq]
  simp [Op.equal, Op.maxDepth, run_equalIn_struct, go_sem]
  by_cases h1 : a1 = b1 <;> by_cases h2 : a2 = b2 <;> simp [h1, h2]
theorem GB {ρ : Operand → Value} {w : World} {dst : Option Nat} {ty : TypeId} {pos : String} {aft : Array Edge} {g : Option (Nat × Bool)} {x y : Operand} {a b : Int × Int} (hx : ρ x = .agg (Ai a).toArray) (hy : ρ y = .agg (Ai b).toArray) :
    (execOp ρ ⟨dst, .binOp .neq 49 x y 49, ty, pos, aft, g⟩).run prog w = .ok (.value (.bool (decide (a ≠ b)))) w := by
  have hg : (eqGuard .neq 49 x y (.agg (Ai a).toArray) (.agg (Ai b).toArray)).run prog w = .ok () w := by
    simp [eqGuard, Ai]
  have h := Vv w a b
  simp only [execOp, hx, hy, Sem.run_bind, hg, Result.andThen_ok]
  have hb : (binOp .neq 49 (.agg (Ai a).toArray) (.agg (Ai b).toArray)).run prog w = .ok (.bool (decide (a ≠ b))) w := by
    simp only [Ai, binOp] at h ⊢
    simp only [Sem.run_bind, h, Result.andThen_ok, Sem.run_pure, decide_not]
  rw [hb]; rfl
theorem Cw (S S' : Nat → Prop) (w0 : World) (a b : List (Int × Int)) (A B : Option Addr) (c e : Nat) (hX : Rep S w0 (Re a) [.slice A a.length c]) (hY : Rep S' w0 (Re b) [.slice B b.length e]) : Calls prog 14 #[.slice A a.length c, .slice B b.length e] w0 (Md fun v w' => v = .bool (decide (a = b)) ∧ Same [] w0 w') := by
 have hXl := hX.pairs_len
 have hYl := hY.pairs_len
 refine Ka func14 rfl ntmps14 Gb (Sd _ _) ?_
 have hF := FR.start w0 []
 refine Ma (Ca (Hc rfl) (Fa (Ja (Ma (Ca (Pd rfl) (Ca (Lf underlying29 rfl) (Ca (Pd rfl) (Ca (Lf underlying29 rfl) (Ca (D6 rfl rfl) (Fb ?_))))))))))
 refine Ha ?_
 refine Kc rfl rfl (fun hc0 => ?_) (fun hc0 => ?_)
 refine Ma (Ca (Hc rfl) (Fa ?_))
 refine Ie (v := .bool false) rfl rfl ?_
 exact ⟨congrArg Value.bool (decide_eq_false fun q => by subst q; omega).symm, hF.same⟩
 refine Cb (Ha (Ja (Ma (Ca (Pc rfl) (Fa (Ya ?_))))))
 have hll : a.length = b.length := by omega
 refine Uc (fun μ σ w => ∃ (j : Nat), μ = a.length - j ∧ (j ≤ a.length) ∧ (∀ i (h : i < a.length) (h2 : i < b.length), i < j → a[i] = b[i]) ∧ AllEq σ [(0, .slice A a.length c), (1, .slice B b.length e), (5, .int .i64 ((j : Int)))] ∧ FR w0 [] [] w) _ ⟨0, rfl, by_Om, (fun i _ _ h => by omega), VH, hF⟩ ?_
 clear hF; rintro μ σ w ⟨j, rfl, hj, hq, hs, hF⟩
 refine Cg.slots hs ?_
 clear hs; intro σ
 refine Ja (Ma (Ca (Hb rfl) (Ca (Pd rfl) (Ca (Lf underlying29 rfl) (Ca (Yk rfl rfl) (Fa ?_))))))
 refine Kc rfl rfl (fun hc1 => ?_) (fun hc1 => ?_)
 refine Cb (Ha (Ja (Ya (Ja ?_))))
 refine Hg (zs := []) (.free 0 (.free 1 (.free 2 (.free 3 (.free 4 (.free 5 (.free 6 (.free 7 (.free 8 .nil))))))))) hF ?_
 clear hF; intro w hF
 refine Xa rfl (Pd rfl) (Xa rfl (Hb rfl) ?_)
 obtain ⟨ad0, hA0, hk0, hx0⟩ := hX.pair_elem (i := j) by_Om
 refine Qa rfl (v := .pointer (some (ad0.add (j * 2)))) (fun w hC => Pa (i := (j : Int)) Bi rfl hA0 rfl by_Om by_Om) (Qa rfl (v := .agg #[.int .i64 ((a[j]).1), .int .i64 ((a[j]).2)]) (fun w hC => Ic (l := Ai a[j]) isAgg49 sizeOf49 rfl rfl (hC.cells0 hk0)) (Xa rfl (Pd rfl) (Xa rfl (Hb rfl) ?_)))
 obtain ⟨ad1, hA1, hk1, hx1⟩ := hY.pair_elem (i := j) by_Om
 refine Qa rfl (v := .pointer (some (ad1.add (j * 2)))) (fun w hC => Pa (i := (j : Int)) Bi rfl hA1 rfl by_Om by_Om) (Qa rfl (v := .agg #[.int .i64 ((b[j]).1), .int .i64 ((b[j]).2)]) (fun w hC => Ic (l := Ai b[j]) isAgg49 sizeOf49 rfl rfl (hC.cells0 hk1)) (Qa rfl (v := .bool (decide (a[j] ≠ b[j]))) (fun w hC => GB (a := a[j]) (b := b[j]) rfl rfl) (Ac (Ha ?_))))
 refine Kc rfl rfl (fun hc2 => ?_) (fun hc2 => ?_)
 refine Ma (Ca (Hc rfl) (Fa ?_))
 refine Ie (v := .bool false) rfl rfl ?_
 exact ⟨congrArg Value.bool (decide_eq_false fun q => by subst q; exact absurd rfl (by assumption)).symm, hF.same⟩
 refine Cb (Kb (Ha (Ea (Ca (Hb rfl) (Ca (Di (((j + 1 : Nat) : Int)) rfl rfl) (Ca (Pc rfl) (Fb ?_)))))))
 refine Dc ⟨_, ?_, j + 1, rfl, by_Om, (Kz hq (Classical.not_not.1 (by assumption))), VH, hF⟩
 omega
 refine Lc (Jc rfl ?_)
 refine Ha (Ma (Ca (Hc rfl) (Fa ?_)))
 refine Ie (v := .bool true) rfl rfl ?_
 exact ⟨congrArg Value.bool (decide_eq_true (V9 hq hll by_Om)).symm, hF.same⟩
def Zh (n : Int) : Int × Int → List (Int × Int) → Bool
  | _, [] => true
  | q, z :: m => !(decide (z.1 ≤ q.1) || (decide (z.2 ≤ q.2) || decide (n ≤ z.1))) && Zh n z m
def Hh (n : Int) (m : List (Int × Int)) : Bool := Zh n (-1, -1) m && (decide (0 ≤ n) && decide (n ≤ 64))
theorem Qp {n x y : Int} {m : List (Int × Int)} {j : Nat} (h : j < m.length) : Zh n (x, y) (m.drop j) = (!(decide (m[j].1 ≤ x) || (decide (m[j].2 ≤ y) || decide (n ≤ m[j].1))) && Zh n (m[j].1, m[j].2) (m.drop (j + 1))) := by
  rw [List.drop_eq_getElem_cons h, Zh]
theorem Vs (S : Nat → Prop) (w0 : World) (n : Int) (m : List (Int × Int)) (A : Option Addr) (c : Nat) (hX : Rep S w0 (Re m) [.slice A m.length c]) : Calls prog 30 #[.int .i64 n, .slice A m.length c] w0 (Md fun v w' => v = .bool (Hh n m) ∧ Same [] w0 w') := by
 have hXl := hX.pairs_len
 refine Ka func30 rfl ntmps30 Gb (Sd _ _) ?_
 have hF := FR.start w0 []
 refine Ma (Ca (Hc rfl) (Cc ?_))
 refine Ia (w' := w0) (v := .agg #[.int .i64 ((-1)), .int .i64 ((-1))]) Db ?_
 refine Rm hF zeroValue49 sizeOf49 rfl ?_
 clear hF; rintro b1 w hb1 hF -
 refine Fa (Ja (Ma (Ca (Pd rfl) (Ca (Lf underlying29 rfl) (Ca (Hb rfl) (Fa (Ya ?_)))))))
 refine Uc (fun μ σ w => ∃ (j : Nat), ∃ (x : Int), ∃ (y : Int), μ = m.length - j ∧ (j ≤ m.length) ∧ (Zh n (-1, -1) m = Zh n (x, y) (m.drop j)) ∧ AllEq σ [(0, .int .i64 n), (5, .pointer (some ⟨b1, 0, none⟩)), (9, .slice A m.length c), (10, .int .i64 ((m.length : Nat))), (11, .int .i64 ((j : Int)))] ∧ FR w0 [] [(b1, .cells #[.int .i64 x, .int .i64 y] 49)] w) _ ⟨0, -1, -1, rfl, by_Om, (rfl), Kq, hF⟩ ?_
 clear hF; rintro μ σ w ⟨j, x, y, rfl, hj, hr, hs, hF⟩
 refine Cg.slots hs ?_
 clear hs; intro σ
 refine Ma (Ca (Yk rfl rfl) (Fa (Ja ?_)))
 refine Kc rfl rfl (fun hc0 => ?_) (fun hc0 => ?_)
 refine Cb (Ha (Ja (Ya (Ma ?_))))
 obtain ⟨ad0, hA0, hk0, hx0⟩ := hX.pair_elem (i := j) by_Om
 refine Ia (v := .pointer (some (ad0.add (j * 2)))) (Pa (i := (j : Int)) Bi rfl hA0 rfl by_Om by_Om) (Ia (v := .agg #[.int .i64 ((m[j]).1), .int .i64 ((m[j]).2)]) (Ic (l := Ai m[j]) isAgg49 sizeOf49 rfl rfl (hF.cells0 hk0)) ?_)
 refine Rm hF zeroValue49 sizeOf49 rfl ?_
 clear hF; rintro b2 w hb2 hF -
 refine Fa (Ja (Ma (Ca (Gc Aj rfl) (Vd (At isAgg3 rfl hF.F 0 rfl rfl) (Ca (Gc Aj rfl) (Vd (At isAgg3 rfl hF.F 1 rfl rfl) (Ca (WF rfl rfl) (Ca (Kd rfl) ?_))))))))
 refine Gd (d := 20) rfl (fun hg1 => ?_) (fun hg1 => ?_)
 refine Ra (Ra (Ra (Ra (Ra (Ca (Rc rfl rfl) (Ca (Kd rfl) (Ra (Ra (Ra (Ra (Ca (Rc rfl rfl) (Fa ?_))))))))))))
 refine Rd rfl (Ma (Ca (Hc rfl) (Fa ?_)))
 refine Ie (v := .bool false) rfl rfl ?_
 exact ⟨congrArg Value.bool (by rw [Hh, hr, Qp (j := j) by_Om]; simp_all), hF.same⟩
 refine Ca (Gc Jg rfl) (Vd (At isAgg3 rfl hF.F 0 rfl rfl) (Ca (Gc Jg rfl) (Vd (At isAgg3 rfl hF.F 1 rfl rfl) (Ca (WF rfl rfl) (Ca (Fd rfl rfl) (Ca (Kd rfl) ?_))))))
 refine Gd (d := 27) rfl (fun hg2 => ?_) (fun hg2 => ?_)
 refine Ra (Ra (Ra (Ra (Ca (Rc rfl rfl) (Fa (Rd rfl (Ma (Ca (Hc rfl) (Fa ?_)))))))))
 refine Ie (v := .bool false) rfl rfl ?_
 exact ⟨congrArg Value.bool (by rw [Hh, hr, Qp (j := j) by_Om]; simp_all), hF.same⟩
 refine Ca (Gc Aj rfl) (Vd (At isAgg3 rfl hF.F 0 rfl rfl) (Ca (Hb rfl) (Ca (X8 rfl rfl) (Ca (Fd rfl rfl) (Fa ?_)))))
 refine Kc rfl rfl (fun hc1 => ?_) (fun hc1 => ?_)
 refine Ma (Ca (Hc rfl) (Fa ?_))
 refine Ie (v := .bool false) rfl rfl ?_
 exact ⟨congrArg Value.bool (by rw [Hh, hr, Qp (j := j) by_Om]; simp_all), hF.same⟩
 refine Cb (Ha (Ea (Vd (El isAgg49 sizeOf49 rfl hF.F 0 rfl rfl) ?_)))
 refine Vl hF sizeOf49 rfl rfl V2 ?_
 clear hF; rintro w hF -
 refine Fb (Kb (Ha (Ea (Ca (Di (((j + 1 : Nat) : Int)) rfl rfl) (Ca (Hb rfl) (Fb ?_))))))
 refine Dc ⟨_, ?_, j + 1, m[j].1, m[j].2, rfl, by_Om, (by rw [hr, Qp by_Om]; simp_all), Kq, hF.drop 1⟩
 omega
 refine Lc (Jc rfl ?_)
 refine Ha (Ma (Ca (Hb rfl) (Ca (X8 rfl rfl) (Ca (Kd rfl) ?_))))
 refine Gd (d := 37) rfl (fun hg3 => ?_) (fun hg3 => ?_)
 refine Ca (Hb rfl) (Ca (WF rfl rfl) (Ca (Rc rfl rfl) (Ca (Hc rfl) (Fa ?_))))
 refine Ie (v := .bool _) rfl rfl ?_
 have ej : j = m.length := by omega
 exact ⟨congrArg Value.bool (by rw [Hh, hr, ej, List.drop_length, Zh]; simp_all <;> omega), hF.same⟩
 refine Ra (Ra (Ca (Fd rfl rfl) (Ca (Hc rfl) (Fa ?_))))
 refine Ie (v := .bool false) rfl rfl ?_
 have ej : j = m.length := by omega
 exact ⟨congrArg Value.bool (by rw [Hh, hr, ej, List.drop_length, Zh]; simp_all <;> omega), hF.same⟩
end Go.Scarf
namespace Go.Scarf
open Go.RowKit Go.Proofs Go.Proofs.Tryz
abbrev TreeN := List Str × List Int
structure GridC (w : World) (pb n m : Nat) (T1 T2 : TypeId) (rb : Nat → Nat) (p : Nat → Nat → Int) : Prop where
  top : ∃ cur, w.heap[pb]? = some (.cells cur T1) ∧ ∀ i, i < n → cur[i]? = some (.slice (some ⟨rb i, 0, none⟩) m m)
  row : ∀ i, i < n → w.heap[rb i]? = some (.cells (Za m (p i)) T2)
  inj : ∀ i j, i < n → j < n → rb i = rb j → i = j
  ne : ∀ i, i < n → rb i ≠ pb
section
variable {w w' : World} {pb n m : Nat} {T1 T2 : TypeId} {rb : Nat → Nat} {p : Nat → Nat → Int}
theorem GridC.rowCell (h : GridC w pb n m T1 T2 rb p) {i : Nat} (hi : i < n) : w.cell? ⟨pb, i, none⟩ = some (.slice (some ⟨rb i, 0, none⟩) m m) := by
  obtain ⟨cur, h1, h2⟩ := h.top
  rw [Ib h1]; exact h2 i hi
theorem GridC.cell (h : GridC w pb n m T1 T2 rb p) {i j : Nat} (hi : i < n) (hj : j < m) : w.cell? ⟨rb i, j, none⟩ = some (.int .i64 (p i j)) := by
  rw [Ib (h.row i hi), Kj hj]
theorem GridC.keep (h : GridC w pb n m T1 T2 rb p) {E : List Nat} (hs : Same E w w') (h1 : pb ∉ E) (h2 : ∀ i, i < n → rb i ∉ E) : GridC w' pb n m T1 T2 rb p := by
  obtain ⟨cur, h3, h4⟩ := h.top
  exact ⟨⟨cur, (hs.block _ (Da h3) h1).trans h3, h4⟩, fun i hi => (hs.block _ (Da (h.row i hi)) (h2 i hi)).trans (h.row i hi), h.inj, h.ne⟩
theorem GridC.put (h : GridC w pb n m T1 T2 rb p) {i j : Nat} {v : Int} (hi : i < n) (hs : Same [rb i] w w') (hn : w'.heap[rb i]? = some (.cells (Za m (Ee (p i) j v)) T2)) : GridC w' pb n m T1 T2 rb (Tg p i j v) := by
  obtain ⟨cur, h3, h4⟩ := h.top
  refine ⟨⟨cur, (hs.block _ (Da h3) (by simpa using fun e => h.ne i hi e.symm)).trans h3, h4⟩, fun a ha => ?_, h.inj, h.ne⟩
  by_cases e : a = i
  · subst e; rw [hn]; simp [Tg]
  · have : w'.heap[rb a]? = w.heap[rb a]? := hs.block _ (Da (h.row a ha)) (by simpa using fun q => e (h.inj a i ha hi q))
    rw [this, h.row a ha, Tg, if_neg e]
end
structure Ck (w : World) (N0 cb pb rb : Nat) (la lb : List TreeN) (Aa Ab : Option Addr) (k1 k2 k3 k4 : Nat) (q r : Nat → Nat) (P R : Nat → Nat → Int) : Prop where
  cell : w.heap[cb]? = some (.cells #[.slice Aa la.length k1, .slice Ab lb.length k2, .slice (some ⟨pb, 0, none⟩) (la.length + 1) k3, .slice (some ⟨rb, 0, none⟩) (la.length + 1) k4] 57)
  La : Rep (fun b => b < N0) w (.slice (la.map Yj)) [.slice Aa la.length k1]
  Lb : Rep (fun b => b < N0) w (.slice (lb.map Yj)) [.slice Ab lb.length k2]
  pair : GridC w pb (la.length + 1) (lb.length + 1) 39 3 q P
  rest : GridC w rb (la.length + 1) (lb.length + 1) 39 3 r R
  lo : N0 ≤ cb ∧ N0 ≤ pb ∧ N0 ≤ rb ∧ (∀ i, i < la.length + 1 → N0 ≤ q i) ∧ ∀ i, i < la.length + 1 → N0 ≤ r i
  nq : ∀ i, i < la.length + 1 → q i ≠ cb ∧ q i ≠ pb ∧ q i ≠ rb
  nr : ∀ i, i < la.length + 1 → r i ≠ cb ∧ r i ≠ pb ∧ r i ≠ rb
  ne : ∀ i j, i < la.length + 1 → j < la.length + 1 → q i ≠ r j
section
variable {w w' : World} {N0 cb pb rb : Nat} {la lb : List TreeN} {Aa Ab : Option Addr} {k1 k2 k3 k4 : Nat} {q r : Nat → Nat} {P R : Nat → Nat → Int}
theorem Ck.keep (h : Ck w N0 cb pb rb la lb Aa Ab k1 k2 k3 k4 q r P R) {E : List Nat} (hs : Same E w w') (he : ∀ b ∈ E, N0 ≤ b) (h1 : cb ∉ E) (h2 : pb ∉ E) (h3 : rb ∉ E) (h4 : ∀ i, i < la.length + 1 → q i ∉ E) (h5 : ∀ i, i < la.length + 1 → r i ∉ E) : Ck w' N0 cb pb rb la lb Aa Ab k1 k2 k3 k4 q r P R :=
  have ns : ∀ b ∈ E, ¬ b < N0 := fun b hb => Nat.not_lt.2 (he b hb)
  ⟨(hs.block _ (Da h.cell) h1).trans h.cell, h.La.same hs ns, h.Lb.same hs ns, h.pair.keep hs h2 h4, h.rest.keep hs h3 h5, h.lo, h.nq, h.nr, h.ne⟩
theorem Ck.ext (h : Ck w N0 cb pb rb la lb Aa Ab k1 k2 k3 k4 q r P R) (hs : Same [] w w') : Ck w' N0 cb pb rb la lb Aa Ab k1 k2 k3 k4 q r P R := h.keep hs Ga Ga Ga Ga Ga Ga
theorem Ck.putP (h : Ck w N0 cb pb rb la lb Aa Ab k1 k2 k3 k4 q r P R) {i j : Nat} {v : Int} (hi : i < la.length + 1) (hs : Same [q i] w w') (hn : w'.heap[q i]? = some (.cells (Za (lb.length + 1) (Ee (P i) j v)) 3)) : Ck w' N0 cb pb rb la lb Aa Ab k1 k2 k3 k4 q r (Tg P i j v) R := by
  have ns : ∀ b ∈ [q i], ¬ b < N0 := fun b hb => by obtain rfl := List.mem_singleton.1 hb; exact Nat.not_lt.2 (h.lo.2.2.2.1 i hi)
  have hq := h.nq i hi
  exact ⟨(hs.block _ (Da h.cell) (by simpa using fun e => hq.1 e.symm)).trans h.cell, h.La.same hs ns, h.Lb.same hs ns, h.pair.put hi hs hn, h.rest.keep hs (by simpa using fun e => hq.2.2 e.symm) (fun a ha => by simpa using fun e => h.ne i a hi ha e.symm), h.lo, h.nq, h.nr, h.ne⟩
theorem Ck.putR (h : Ck w N0 cb pb rb la lb Aa Ab k1 k2 k3 k4 q r P R) {i j : Nat} {v : Int} (hi : i < la.length + 1) (hs : Same [r i] w w') (hn : w'.heap[r i]? = some (.cells (Za (lb.length + 1) (Ee (R i) j v)) 3)) : Ck w' N0 cb pb rb la lb Aa Ab k1 k2 k3 k4 q r P (Tg R i j v) := by
  have ns : ∀ b ∈ [r i], ¬ b < N0 := fun b hb => by obtain rfl := List.mem_singleton.1 hb; exact Nat.not_lt.2 (h.lo.2.2.2.2 i hi)
  have hq := h.nr i hi
  exact ⟨(hs.block _ (Da h.cell) (by simpa using fun e => hq.1 e.symm)).trans h.cell, h.La.same hs ns, h.Lb.same hs ns, h.pair.keep hs (by simpa using fun e => hq.2.1 e.symm) (fun a ha => by simpa using fun e => h.ne a i ha hi e), h.rest.put hi hs hn, h.lo, h.nq, h.nr, h.ne⟩
theorem Ck.c0 (h : Ck w N0 cb pb rb la lb Aa Ab k1 k2 k3 k4 q r P R) : w.cell? ⟨cb, 0, none⟩ = some (.slice Aa la.length k1) := by rw [Ib h.cell]; rfl
theorem Ck.c1 (h : Ck w N0 cb pb rb la lb Aa Ab k1 k2 k3 k4 q r P R) : w.cell? ⟨cb, 1, none⟩ = some (.slice Ab lb.length k2) := by rw [Ib h.cell]; rfl
theorem Ck.c2 (h : Ck w N0 cb pb rb la lb Aa Ab k1 k2 k3 k4 q r P R) : w.cell? ⟨cb, 2, none⟩ = some (.slice (some ⟨pb, 0, none⟩) (la.length + 1) k3) := by rw [Ib h.cell]; rfl
theorem Ck.c3 (h : Ck w N0 cb pb rb la lb Aa Ab k1 k2 k3 k4 q r P R) : w.cell? ⟨cb, 3, none⟩ = some (.slice (some ⟨rb, 0, none⟩) (la.length + 1) k4) := by rw [Ib h.cell]; rfl
end
section
variable {Pg : Program} {R : Exit → Act → World → Prop} {n : Nat} {k : Kt} {s : Nat → Value} {w : World} {ops : List Oper} {zs : List Nat} {C : World → Prop} {order : Ord} {i : Nat}
variable {ty : TypeId} {pos : String} {aft : Array Edge} {g : Option (Nat × Bool)} {w0 : World} {Ds : List Nat} {bs : List (Nat × Obj)}
theorem No {t T : TypeId} {x y : Operand} {b j m : Nat} {f : Nat → Int} {v : Int} (hi : ops[i]? = some ⟨none, .store t x y, ty, pos, aft, g⟩) (hF : FR w0 Ds bs w) (hs : ∀ w, (sizeOf t).run Pg w = .ok 1 w)
    (hx : ev n s x = .pointer (some ⟨b, j, none⟩)) (hy : ev n s y = .int .i64 v) (hh : w.heap[b]? = some (.cells (Za m f) T)) (hj : j < m) (hD : b ∈ Ds ∨ w0.heap.size ≤ b) (hn : ∀ p ∈ bs, p.1 ≠ b)
    (h : ∀ w', FR w0 Ds bs w' → Same [b] w w' → w'.heap[b]? = some (.cells (Za m (Ee f j v)) T) → Dg Pg R n ops k zs order (fun _ => True) s w')
    (hw : Sb ops n s ⟨none, .store t x y, ty, pos, aft, g⟩ = true := by rfl) (hz : zs.contains i = true := by rfl) : Dg Pg R n ops k zs (.act i order) C s w := by
  have hsp := Bh b j (fz := (0, 0)) [.int .i64 v] 0 w (Za m f) hh
  rw [Nat.add_zero, Qe] at hsp
  refine VF hi (Zs (l := [.int .i64 v]) hs hx hy rfl Zc fun i hi => ?_) (h (putCells w ⟨b, j, none⟩ 0 [.int .i64 v]) (hF.touch hsp.2 fun b' hb => ?_) hsp.2 hsp.1) hw hz
  · obtain rfl : i = 0 := by simp at hi; omega
    rw [Hl, Ib hh]
    exact ⟨⟨_, Kj hj⟩, Oh hh _⟩
  · obtain rfl := List.mem_singleton.1 hb
    exact ⟨fun h => hD.resolve_right by_Om, hn⟩
theorem Y0 {P : Program} {w : World} {ρ : Operand → Value} {dst : Option Nat} {x y z : Operand} {ats : Array TypeId} {kk : IntKind} {a b c : Int} (hx : ρ x = .int kk a) (hy : ρ y = .int kk b) (hz : ρ z = .int kk c) : (execOp ρ ⟨dst, .call ⟨.builtin .min, #[x, y, z], ats⟩, ty, pos, aft, g⟩).run P w = .ok (.value (.int kk (min (min a b) c))) w := by
  have e : ∀ a b : Int, (if b < a then b else a) = min a b := fun a b => by rw [Int.min_def]; split <;> split <;> omega
  simp [execOp, resolve, invoke, builtin, hx, hy, hz, Builtin.min_, Builtin.min2, go_sem, e, Int.min_assoc]
end
theorem Mr (w0 : World) (N0 cb pb rb : Nat) (la lb : List TreeN) (Aa Ab : Option Addr) (k1 k2 k3 k4 : Nat) (q r : Nat → Nat) (P R : Nat → Nat → Int) (hK : Ck w0 N0 cb pb rb la lb Aa Ab k1 k2 k3 k4 q r P R) (i j : Nat) (hll : la.length ≤ 64 ∧ lb.length ≤ 64) (hi : i < la.length) (hj : j < lb.length) (hP : (0 ≤ P i j ∧ P i j ≤ 1000000)) (hR : (0 ≤ R (i + 1) (j + 1) ∧ R (i + 1) (j + 1) ≤ 1000000)) : Calls prog 26 #[.pointer (some ⟨cb, 0, none⟩), .int .i64 ((i : Nat) : Int), .int .i64 ((j : Nat) : Int)] w0 (Md fun v w' => v = .int .i64 (P i j + R (i + 1) (j + 1)) ∧ Same [] w0 w') := by
 have hk3 := hK.pair
 refine Ka func26 rfl ntmps26 Gb (Pi _ _ _) ?_
 have hF := FR.start w0 []
 refine Ma (Ca (Pc rfl) (Fa (Ja ?_)))
 refine Yc [] (.free 0 (.free 1 (.free 2 (.free 3 (.free 4 (.free 5 (.free 6 (.free 7 (.free 8 (.free 9 (.free 10 (.free 11 (.free 12 (.free 13 (.free 14 (.free 15 (.free 16 (.free 17 (.free 18 (.free 19 (.free 20 (.free 21 (.free 22 (.free 23 .nil)))))))))))))))))))))))) hF ?_
 clear hF; intro w hF hE
 replace hK := hK.ext hE
 clear hE
 refine ⟨fun wq => FR w0 [] _ wq ∧ Ck wq N0 cb pb rb la lb Aa Ab k1 k2 k3 k4 q r P R, ⟨hF, hK⟩, ?_⟩
 refine Xa rfl (Qd rfl) (Xa rfl (Cf rfl) (Xa rfl (Gc Jh rfl) (Qa rfl (v := .slice (some ⟨pb, 0, none⟩) (la.length + 1) (k3)) (fun w hC => Wa isAgg36 rfl hC.2.c2) (Xa rfl (Hb rfl) (Qa rfl (v := .pointer (some ⟨pb, i, none⟩)) (fun w hC => Pb (i := ((i : Nat) : Int)) (i) Uf rfl rfl by_Om by_Om by_Om) (Qa rfl (v := .slice (some ⟨q (i), 0, none⟩) (lb.length + 1) (lb.length + 1)) (fun w hC => Wa isAgg39 rfl (hC.2.pair.rowCell by_Om)) (Xa rfl (Hb rfl) (Qa rfl (v := .pointer (some ⟨q (i), j, none⟩)) (fun w hC => Pb (i := ((j : Nat) : Int)) (j) Ke rfl rfl by_Om by_Om by_Om) (Qa rfl (v := .int .i64 (P (i) (j))) (fun w hC => Wa isAgg3 rfl (hC.2.pair.cell by_Om by_Om)) (Xa rfl (Qd rfl) (Xa rfl (Cf rfl) (Xa rfl (Gc Nf rfl) (Qa rfl (v := .slice (some ⟨rb, 0, none⟩) (la.length + 1) (k4)) (fun w hC => Wa isAgg36 rfl hC.2.c3) ?_)))))))))))))
 refine Xa rfl (Hb rfl) (Xa rfl (Di (((i + 1 : Nat) : Int)) rfl rfl) (Qa rfl (v := .pointer (some ⟨rb, i + 1, none⟩)) (fun w hC => Pb (i := ((i + 1 : Nat) : Int)) (i + 1) Uf rfl rfl by_Om by_Om by_Om) (Qa rfl (v := .slice (some ⟨r (i + 1), 0, none⟩) (lb.length + 1) (lb.length + 1)) (fun w hC => Wa isAgg39 rfl (hC.2.rest.rowCell by_Om)) (Xa rfl (Hb rfl) (Xa rfl (Di (((j + 1 : Nat) : Int)) rfl rfl) (Qa rfl (v := .pointer (some ⟨r (i + 1), j + 1, none⟩)) (fun w hC => Pb (i := ((j + 1 : Nat) : Int)) (j + 1) Ke rfl rfl by_Om by_Om by_Om) (Qa rfl (v := .int .i64 (R (i + 1) (j + 1))) (fun w hC => Wa isAgg3 rfl (hC.2.rest.cell by_Om by_Om)) (Xa rfl (Di (P (i) (j) + R (i + 1) (j + 1)) rfl rfl) (Xa rfl (Pc rfl) (Ac (Ha ?_)))))))))))
 refine Ie (v := .int .i64 (P (i) (j) + R (i + 1) (j + 1))) rfl rfl ?_
 exact ⟨rfl, hF.same⟩
theorem Mn (w0 : World) (N0 cb pb rb : Nat) (la lb : List TreeN) (Aa Ab : Option Addr) (k1 k2 k3 k4 : Nat) (q r : Nat → Nat) (P R : Nat → Nat → Int) (hK : Ck w0 N0 cb pb rb la lb Aa Ab k1 k2 k3 k4 q r P R) (i j : Nat) (hll : la.length ≤ 64 ∧ lb.length ≤ 64) (hi : i < la.length) (hj : j ≤ lb.length) (hla : ∀ i (h : i < la.length), la[i].1.length ≤ 512) (hR : (0 ≤ R (i + 1) j ∧ R (i + 1) j ≤ 1000000)) : Calls prog 27 #[.pointer (some ⟨cb, 0, none⟩), .int .i64 ((i : Nat) : Int), .int .i64 ((j : Nat) : Int)] w0 (Md fun v w' => v = .int .i64 ((la[i].1.length : Int) + R (i + 1) j) ∧ Same [] w0 w') := by
 have hLa0 := hK.La
 refine Ka func27 rfl ntmps27 Gb (Pi _ _ _) ?_
 have hF := FR.start w0 []
 refine Ma (Ca (Pc rfl) (Fa (Ja ?_)))
 refine Yc [] (.free 0 (.free 1 (.free 2 (.free 3 (.free 4 (.free 5 (.free 6 (.free 7 (.free 8 (.free 9 (.free 10 (.free 11 (.free 12 (.free 13 (.free 14 (.free 15 (.free 16 (.free 17 (.free 18 (.free 19 (.free 20 (.free 21 .nil)))))))))))))))))))))) hF ?_
 clear hF; intro w hF hE
 replace hK := hK.ext hE
 clear hE
 refine ⟨fun wq => FR w0 [] _ wq ∧ Ck wq N0 cb pb rb la lb Aa Ab k1 k2 k3 k4 q r P R, ⟨hF, hK⟩, ?_⟩
 refine Xa rfl (Qd rfl) (Xa rfl (Cf rfl) (Xa rfl (Gc Gv rfl) (Qa rfl (v := .slice Aa la.length k1) (fun w hC => Wa isAgg51 rfl hC.2.c0) (Xa rfl (Hb rfl) ?_))))
 obtain ⟨ad0, P0, p0, Q0, q0, hA0, hk0, hx0, hy0⟩ := hLa0.node_elem (i := i) by_Om
 refine Qa rfl (v := .pointer (some (ad0.add (i * 2)))) (fun w hC => Pa (i := (i : Nat)) Wz rfl hA0 rfl by_Om by_Om) (Qa rfl (v := .pointer (some ((ad0.add (i * 2)).add 0))) (fun w hC => Tc (a := ad0.add (i * 2)) De rfl) (Qa rfl (v := .slice (P0) ((la[i]).1.length) (p0)) (fun w hC => Wa isAgg25 rfl (hC.1.cell0 (hk0 0 Gb))) (Xa rfl (Lf underlying25 rfl) (Xa rfl (Qd rfl) (Xa rfl (Cf rfl) (Xa rfl (Gc Nf rfl) (Qa rfl (v := .slice (some ⟨rb, 0, none⟩) (la.length + 1) (k4)) (fun w hC => Wa isAgg36 rfl hC.2.c3) (Xa rfl (Hb rfl) (Xa rfl (Di (((i + 1 : Nat) : Int)) rfl rfl) (Qa rfl (v := .pointer (some ⟨rb, i + 1, none⟩)) (fun w hC => Pb (i := ((i + 1 : Nat) : Int)) (i + 1) Uf rfl rfl by_Om by_Om by_Om) (Qa rfl (v := .slice (some ⟨r (i + 1), 0, none⟩) (lb.length + 1) (lb.length + 1)) (fun w hC => Wa isAgg39 rfl (hC.2.rest.rowCell by_Om)) (Xa rfl (Hb rfl) (Qa rfl (v := .pointer (some ⟨r (i + 1), j, none⟩)) (fun w hC => Pb (i := ((j : Nat) : Int)) (j) Ke rfl rfl by_Om by_Om by_Om) ?_)))))))))))))
 refine Qa rfl (v := .int .i64 (R (i + 1) (j))) (fun w hC => Wa isAgg3 rfl (hC.2.rest.cell by_Om by_Om)) ?_
 refine Qa rfl (v := .int .i64 (((la[i]).1.length : Int) + R (i + 1) (j))) (fun w hC => Ou rfl rfl (Xh rfl (by have := hla i hi; omega) (by have := hla i hi; omega))) ?_
 refine Xa rfl (Pc rfl) (Ac (Ha ?_))
 refine Ie (v := .int .i64 (((la[i]).1.length : Int) + R (i + 1) (j))) rfl rfl ?_
 exact ⟨rfl, hF.same⟩
theorem Lt (w0 : World) (N0 cb pb rb : Nat) (la lb : List TreeN) (Aa Ab : Option Addr) (k1 k2 k3 k4 : Nat) (q r : Nat → Nat) (P R : Nat → Nat → Int) (hK : Ck w0 N0 cb pb rb la lb Aa Ab k1 k2 k3 k4 q r P R) (i j : Nat) (hll : la.length ≤ 64 ∧ lb.length ≤ 64) (hi : i ≤ la.length) (hj : j < lb.length) (hlb : ∀ j (h : j < lb.length), lb[j].1.length ≤ 512) (hR : (0 ≤ R i (j + 1) ∧ R i (j + 1) ≤ 1000000)) : Calls prog 61 #[.pointer (some ⟨cb, 0, none⟩), .int .i64 ((i : Nat) : Int), .int .i64 ((j : Nat) : Int)] w0 (Md fun v w' => v = .int .i64 ((lb[j].1.length : Int) + R i (j + 1)) ∧ Same [] w0 w') := by
 have hLb0 := hK.Lb
 refine Ka func61 rfl ntmps61 Gb (Pi _ _ _) ?_
 have hF := FR.start w0 []
 refine Ma (Ca (Pc rfl) (Fa (Ja ?_)))
 refine Yc [] (.free 0 (.free 1 (.free 2 (.free 3 (.free 4 (.free 5 (.free 6 (.free 7 (.free 8 (.free 9 (.free 10 (.free 11 (.free 12 (.free 13 (.free 14 (.free 15 (.free 16 (.free 17 (.free 18 (.free 19 (.free 20 (.free 21 .nil)))))))))))))))))))))) hF ?_
 clear hF; intro w hF hE
 replace hK := hK.ext hE
 clear hE
 refine ⟨fun wq => FR w0 [] _ wq ∧ Ck wq N0 cb pb rb la lb Aa Ab k1 k2 k3 k4 q r P R, ⟨hF, hK⟩, ?_⟩
 refine Xa rfl (Qd rfl) (Xa rfl (Cf rfl) (Xa rfl (Gc Iv rfl) (Qa rfl (v := .slice Ab lb.length k2) (fun w hC => Wa isAgg51 rfl hC.2.c1) (Xa rfl (Hb rfl) ?_))))
 obtain ⟨ad0, P0, p0, Q0, q0, hA0, hk0, hx0, hy0⟩ := hLb0.node_elem (i := j) by_Om
 refine Qa rfl (v := .pointer (some (ad0.add (j * 2)))) (fun w hC => Pa (i := (j : Nat)) Wz rfl hA0 rfl by_Om by_Om) (Qa rfl (v := .pointer (some ((ad0.add (j * 2)).add 0))) (fun w hC => Tc (a := ad0.add (j * 2)) De rfl) (Qa rfl (v := .slice (P0) ((lb[j]).1.length) (p0)) (fun w hC => Wa isAgg25 rfl (hC.1.cell0 (hk0 0 Gb))) (Xa rfl (Lf underlying25 rfl) (Xa rfl (Qd rfl) (Xa rfl (Cf rfl) (Xa rfl (Gc Nf rfl) (Qa rfl (v := .slice (some ⟨rb, 0, none⟩) (la.length + 1) (k4)) (fun w hC => Wa isAgg36 rfl hC.2.c3) (Xa rfl (Hb rfl) (Qa rfl (v := .pointer (some ⟨rb, i, none⟩)) (fun w hC => Pb (i := ((i : Nat) : Int)) (i) Uf rfl rfl by_Om by_Om by_Om) (Qa rfl (v := .slice (some ⟨r (i), 0, none⟩) (lb.length + 1) (lb.length + 1)) (fun w hC => Wa isAgg39 rfl (hC.2.rest.rowCell by_Om)) (Xa rfl (Hb rfl) (Xa rfl (Di (((j + 1 : Nat) : Int)) rfl rfl) (Qa rfl (v := .pointer (some ⟨r (i), j + 1, none⟩)) (fun w hC => Pb (i := ((j + 1 : Nat) : Int)) (j + 1) Ke rfl rfl by_Om by_Om by_Om) ?_)))))))))))))
 refine Qa rfl (v := .int .i64 (R (i) (j + 1))) (fun w hC => Wa isAgg3 rfl (hC.2.rest.cell by_Om by_Om)) ?_
 refine Qa rfl (v := .int .i64 (((lb[j]).1.length : Int) + R (i) (j + 1))) (fun w hC => Ou rfl rfl (Xh rfl (by have := hlb j hj; omega) (by have := hlb j hj; omega))) ?_
 refine Xa rfl (Pc rfl) (Ac (Ha ?_))
 refine Ie (v := .int .i64 (((lb[j]).1.length : Int) + R (i) (j + 1))) rfl rfl ?_
 exact ⟨rfl, hF.same⟩
abbrev Km (x : TreeN) : Nat := x.1.length
abbrev pN (x y : TreeN) : Nat := Yp x.1 x.2 y.1 y.2
theorem WB {xs ys : List TreeN} (hx : ∀ x ∈ xs, Km x ≤ 512) (hy : ∀ y ∈ ys, Km y ≤ 512) : al Km pN xs ys ≤ 512 * (xs.length + ys.length) := by
  induction xs with
  | nil =>
    induction ys with
    | nil => exact Nat.le_refl _
    | cons y ys ih =>
      have h1 := hy y Ga
      have h2 := ih (fun z hz => hy z (by simp [hz]))
      rw [JF]; simp only [List.length_cons, List.length_nil] at *; omega
  | cons x xs ih =>
    have h1 := hx x Ga
    have h2 := ih (fun z hz => hx z (by simp [hz]))
    have h3 := H7 (sz := Km) (p := pN) x xs ys
    simp only [List.length_cons]; omega
theorem Rep.node_block {S : Nat → Prop} {w : World} {l : List TreeN} {ad : Addr} {len c : Nat} (h : Rep S w (.slice (l.map Yj)) [.slice (some ad) len c]) (hi : 0 < l.length) : S ad.block := by
  rw [Rep] at h
  obtain ⟨A, c', he, _, _, hr⟩ := h
  simp only [List.cons.injEq, Value.slice.injEq, and_true] at he
  obtain ⟨ad', hA, es, hc, hl⟩ := hr (by intro e; rw [List.map_eq_nil_iff] at e; subst e; simp at hi)
  rw [← he.1] at hA
  obtain rfl := Option.some.inj hA
  have hlen := hl.length
  have hpos : 0 < es.length := by
    rw [hlen]
    match l, hi with
    | x :: l, _ => simp [Ig.sizeL, Yj, Ig, Qf]; omega
  exact (hc 0 hpos).2
theorem BF {w w' : World} {E : List Nat} (hE : Same E w w') {a : Addr} {v : Value} (hb : a.block ∉ E) (h : w.cell? a = some v) : w'.cell? a = some v := by
  rw [← h]; exact World.cell?_of_block (w := w) (hE.block _ (World.block_lt_of_cell? _ _ h) hb)
theorem FR.repD {w0 w : World} {Ds : List Nat} {bs_ : List (Nat × Obj)} {S : Nat → Prop} {d : D} {cs : List Value} (hF : FR w0 Ds bs_ w) (hR : Rep S w0 d cs) (hS : ∀ b, S b → b < w0.heap.size ∧ b ∉ Ds) : Rep S w d cs := hR.same hF.same (fun b hb hs => (hS b hs).2 hb)
theorem FR.cellsD {w0 w : World} {Ds : List Nat} {bs_ : List (Nat × Obj)} {a : Addr} {m : Nat} {cs : List Value} (hF : FR w0 Ds bs_ w) (hb : a.block ∉ Ds) (h : ∀ j (hj : j < cs.length), w0.cell? ((a.add m).add j) = some cs[j]) : ∀ j (hj : j < cs.length), w.cell? ((a.add m).add j) = some cs[j] := fun j hj =>
  BF hF.same (by rw [Ej, Ej]; exact hb) (h j hj)
theorem OC (w0 : World) (N0 cb pb rb : Nat) (la lb : List TreeN) (Aa Ab : Option Addr) (k1 k2 k3 k4 : Nat) (q r : Nat → Nat) (P R : Nat → Nat → Int) (hK : Ck w0 N0 cb pb rb la lb Aa Ab k1 k2 k3 k4 q r P R) (i j : Nat) (hll : la.length ≤ 64 ∧ lb.length ≤ 64) (hi : i ≤ la.length) (hj : j ≤ lb.length) (hN0 : N0 ≤ w0.heap.size) (hRa : ∀ x ∈ la, Ch x.1 x.2) (hRb : ∀ x ∈ lb, Ch x.1 x.2) (hla : ∀ x ∈ la, Km x ≤ 512) (hlb : ∀ x ∈ lb, Km x ≤ 512) (hR1 : i < la.length → R (i + 1) j = ((al Km pN (la.drop (i + 1)) (lb.drop (j)) : Nat) : Int)) (hR2 : j < lb.length → R i (j + 1) = ((al Km pN (la.drop (i)) (lb.drop (j + 1)) : Nat) : Int)) (hR3 : i < la.length → j < lb.length → R (i + 1) (j + 1) = ((al Km pN (la.drop (i + 1)) (lb.drop (j + 1)) : Nat) : Int)) : Calls prog 42 #[.pointer (some ⟨cb, 0, none⟩), .int .i64 ((i : Nat) : Int), .int .i64 ((j : Nat) : Int)] w0 (Md fun v w' => ∃ P' : Nat → Nat → Int, v = .int .i64 ((al Km pN (la.drop (i)) (lb.drop (j)) : Nat) : Int) ∧ Ck w' N0 cb pb rb la lb Aa Ab k1 k2 k3 k4 q r P' R ∧ (∀ (h1 : i < la.length) (h2 : j < lb.length), P' i j = ((pN la[i] lb[j] : Nat) : Int)) ∧ (∀ a b, ¬ (a = i ∧ b = j) → P' a b = P a b) ∧ Same (Rows q (la.length + 1)) w0 w') := by
 have hL0 := hK.La
 have hL1 := hK.Lb
 have hlo := hK.lo
 have hS0 : ∀ b, b < N0 → b < w0.heap.size ∧ b ∉ Rows q (la.length + 1) := fun b hb => ⟨by omega, fun hm => by obtain ⟨i, hi, rfl⟩ := Ki.1 hm; have := hlo.2.2.2.1 i hi; omega⟩
 have hmx : ∀ x y, al Km pN (la.drop x) (lb.drop y) ≤ 65536 := fun x y => Nat.le_trans (WB (fun z hz => hla z (List.mem_of_mem_drop hz)) (fun z hz => hlb z (List.mem_of_mem_drop hz))) (by simp only [List.length_drop]; omega)
 have hQ1 : i < la.length → 0 ≤ R (i + 1) j ∧ R (i + 1) j ≤ 1000000 := fun h => by have h1 := hmx (i + 1) j; rw [hR1 h]; omega
 have hQ2 : j < lb.length → 0 ≤ R i (j + 1) ∧ R i (j + 1) ≤ 1000000 := fun h => by have h1 := hmx i (j + 1); rw [hR2 h]; omega
 have hQ3 : i < la.length → j < lb.length → 0 ≤ R (i + 1) (j + 1) ∧ R (i + 1) (j + 1) ≤ 1000000 := fun h h2 => by have h1 := hmx (i + 1) (j + 1); rw [hR3 h h2]; omega
 refine Ka func42 rfl ntmps42 Gb (Pi _ _ _) ?_
 have hF := FR.start w0 (Rows q (la.length + 1))
 refine Ma (Ca (Pc rfl) (Fa (Ja ?_)))
 refine Yc [] (.free 0 (.free 1 (.free 2 (.free 3 (.free 4 (.free 5 (.free 6 (.free 7 (.free 8 (.free 9 (.free 10 (.free 11 .nil)))))))))))) hF ?_
 clear hF; intro w hF hE
 replace hK := hK.ext hE
 clear hE
 refine ⟨fun wq => FR w0 (Rows q (la.length + 1)) _ wq ∧ Ck wq N0 cb pb rb la lb Aa Ab k1 k2 k3 k4 q r P R, ⟨hF, hK⟩, ?_⟩
 refine Xa rfl (Qd rfl) (Xa rfl (Cf rfl) (Xa rfl (Gc Gv rfl) (Qa rfl (v := .slice Aa la.length k1) (fun w hC => Wa isAgg51 rfl hC.2.c0) (Xa rfl (Lf underlying51 rfl) (Xa rfl (Qd rfl) (Xa rfl (Cf rfl) (Xa rfl (Gc Iv rfl) (Qa rfl (v := .slice Ab lb.length k2) (fun w hC => Wa isAgg51 rfl hC.2.c1) (Xa rfl (Lf underlying51 rfl) (Xa rfl (Pc rfl) (Xa rfl (Pc rfl) (Ac (Ha ?_)))))))))))))
 refine Ja (Ya (Ma (Ca (Hb rfl) (Ca (Hb rfl) (Ca (Ho rfl rfl) (Ca (Kd rfl) ?_))))))
 refine Gd (d := 23) rfl (fun hg0 => ?_) (fun hg0 => ?_)
 refine Ca (Hb rfl) (Ca (Hb rfl) (Ca (Ho rfl rfl) (Ca (Rc rfl rfl) (Ca (Hc rfl) (Fa ?_)))))
 refine Kc rfl rfl (fun hc0 => ?_) (fun hc0 => ?_)
 refine Ma (Ca (Pc rfl) (Fa ?_))
 refine Ie (v := .int .i64 0) rfl rfl ?_
 exact ⟨P, congrArg (Value.int .i64) (by obtain rfl : i = la.length := by_Om; obtain rfl : j = lb.length := by_Om; rw [List.drop_length, List.drop_length]; rfl), hK, fun h1 _ => absurd h1 by_Om, fun _ _ _ => rfl, hF.same⟩
 refine Ma (Ca (Hb rfl) (Ca (Hb rfl) (Ca (Ho rfl rfl) (Ca (Hc rfl) (Fa ?_)))))
 refine Kc rfl rfl (fun hc1 => ?_) (fun hc1 => ?_)
 refine Ma (Ca (Qd rfl) (Ca (Hb rfl) (Ca (Hb rfl) ?_)))
 refine Eb (Lt _ N0 cb pb rb la lb Aa Ab k1 k2 k3 k4 q r P R hK i j hll by_Om by_Om (fun j h => hlb _ (List.getElem_mem h)) (hQ2 by_Om)) (Bc Yz rfl rfl rfl rfl) ?_
 rintro _ w ⟨rfl, hE⟩
 replace hF := hF.ext hE
 replace hK := hK.ext hE
 clear hE
 refine Ca (Pc rfl) (Fa ?_)
 refine Ie (v := .int .i64 ((lb[j].1.length : Int) + R i (j + 1))) rfl rfl ?_
 exact ⟨P, congrArg (Value.int .i64) (by have h := hR2 by_Om; obtain rfl : i = la.length := by_Om; rw [h, List.drop_length, List.drop_eq_getElem_cons (show j < lb.length by omega), JF]; simp only [Km] at *; omega), hK, fun h1 _ => absurd h1 by_Om, fun _ _ _ => rfl, hF.same⟩
 refine Ma (Ca (Hb rfl) (Ca (Hb rfl) (Ca (Ho rfl rfl) (Ca (Hc rfl) (Fa ?_)))))
 refine Kc rfl rfl (fun hc2 => ?_) (fun hc2 => ?_)
 refine Ma (Ca (Qd rfl) (Ca (Hb rfl) (Ca (Hb rfl) ?_)))
 refine Eb (Mn _ N0 cb pb rb la lb Aa Ab k1 k2 k3 k4 q r P R hK i j hll by_Om by_Om (fun j h => hla _ (List.getElem_mem h)) (hQ1 by_Om)) (Bc Tx rfl rfl rfl rfl) ?_
 rintro _ w ⟨rfl, hE⟩
 replace hF := hF.ext hE
 replace hK := hK.ext hE
 clear hE
 refine Ca (Pc rfl) (Fa ?_)
 refine Ie (v := .int .i64 ((la[i].1.length : Int) + R (i + 1) j)) rfl rfl ?_
 exact ⟨P, congrArg (Value.int .i64) (by have h := hR1 by_Om; obtain rfl : j = lb.length := by_Om; rw [h, List.drop_length, List.drop_eq_getElem_cons (show i < la.length by omega), IH]; simp only [Km] at *; omega), hK, fun _ h2 => absurd h2 by_Om, fun _ _ _ => rfl, hF.same⟩
 refine Cb (Kb (Ha (Ja ?_)))
 have hi1 : i < la.length := by omega
 have hj1 : j < lb.length := by omega
 have hcb : pN la[i] lb[j] ≤ la[i].1.length + lb[j].1.length := (Uo (ls := la[i].1) (fs := la[i].2) (gs := lb[j].1) (hs := lb[j].2)).1
 have q1 : la[i].1.length ≤ 512 := hla _ (List.getElem_mem hi1)
 have q2 : lb[j].1.length ≤ 512 := hlb _ (List.getElem_mem hj1)
 have hLa0 := hL0
 have hLb0 := hL1
 refine Yc [27] (.free 0 (.free 1 (.free 2 (.free 3 (.free 4 (.free 5 (.free 6 (.free 7 (.free 8 (.free 9 (.free 10 (.free 11 (.free 12 (.free 13 (.free 14 (.free 15 (.free 16 (.free 17 (.free 18 (.free 19 (.free 20 (.free 21 (.act 22 (.free 23 (.free 24 (.free 26 (.alt 25 (.act 27 .nil) (.act 27 (.act 25 .nil))))))))))))))))))))))))))))) hF ?_
 clear hF; intro w hF hE
 replace hK := hK.ext hE
 clear hE
 refine ⟨fun wq => FR w0 (Rows q (la.length + 1)) _ wq ∧ Ck wq N0 cb pb rb la lb Aa Ab k1 k2 k3 k4 q r P R, ⟨hF, hK⟩, ?_⟩
 refine Xa rfl (Qd rfl) (Xa rfl (Cf rfl) (Xa rfl (Gc Jh rfl) (Qa rfl (v := .slice (some ⟨pb, 0, none⟩) (la.length + 1) (k3)) (fun w hC => Wa isAgg36 rfl hC.2.c2) (Xa rfl (Hb rfl) (Qa rfl (v := .pointer (some ⟨pb, i, none⟩)) (fun w hC => Pb (i := ((i : Nat) : Int)) (i) Uf rfl rfl by_Om by_Om by_Om) (Qa rfl (v := .slice (some ⟨q (i), 0, none⟩) (lb.length + 1) (lb.length + 1)) (fun w hC => Wa isAgg39 rfl (hC.2.pair.rowCell by_Om)) (Xa rfl (Hb rfl) (Xa rfl (Qd rfl) (Xa rfl (Cf rfl) (Xa rfl (Gc Gv rfl) (Qa rfl (v := .slice Aa la.length k1) (fun w hC => Wa isAgg51 rfl hC.2.c0) (Xa rfl (Hb rfl) ?_))))))))))))
 obtain ⟨ad1, P1, p1, Q1, q1, hA1, hk1, hx1, hy1⟩ := hLa0.node_elem (i := i) by_Om
 refine Qa rfl (v := .pointer (some (ad1.add (i * 2)))) (fun w hC => Pa (i := (i : Nat)) Wz rfl hA1 rfl by_Om by_Om) ?_
 refine Qa rfl (fun w hC => Ic (l := [.slice (P1) ((la[i]).1.length) (p1), .slice (Q1) ((la[i]).2.length) (q1)]) isAgg60 sizeOf60 rfl rfl (hC.1.cellsD (by have h_ := hLa0; rw [hA1] at h_; exact fun hm => (hS0 _ (Rep.node_block h_ by_Om)).2 hm) hk1)) ?_
 refine Xa rfl (Qd rfl) (Xa rfl (Cf rfl) (Xa rfl (Gc Iv rfl) (Qa rfl (v := .slice Ab lb.length k2) (fun w hC => Wa isAgg51 rfl hC.2.c1) (Xa rfl (Hb rfl) ?_))))
 obtain ⟨ad2, P2, p2, Q2, q2, hA2, hk2, hx2, hy2⟩ := hLb0.node_elem (i := j) by_Om
 refine Qa rfl (v := .pointer (some (ad2.add (j * 2)))) (fun w hC => Pa (i := (j : Nat)) Wz rfl hA2 rfl by_Om by_Om) ?_
 refine Qa rfl (fun w hC => Ic (l := [.slice (P2) ((lb[j]).1.length) (p2), .slice (Q2) ((lb[j]).2.length) (q2)]) isAgg60 sizeOf60 rfl rfl (hC.1.cellsD (by have h_ := hLb0; rw [hA2] at h_; exact fun hm => (hS0 _ (Rep.node_block h_ by_Om)).2 hm) hk2)) ?_
 refine Ce rfl (D4 _ _ _ la[i].1 la[i].2 P1 Q1 p1 q1 (hF.repD hx1 hS0) (hF.repD hy1 hS0) lb[j].1 lb[j].2 P2 Q2 p2 q2 (hF.repD hx2 hS0) (hF.repD hy2 hS0) (hRa _ (List.getElem_mem _)) (hRb _ (List.getElem_mem _))) (Mb ZH rfl rfl rfl) ?_
 rintro _ w ⟨rfl, hE⟩
 replace hF := hF.ext hE
 replace hK := hK.ext hE
 clear hE
 refine ⟨⟨hF, hK⟩, ?_⟩
 refine Xa rfl (Gn rfl) (Xa rfl (Mt rfl rfl) (Qa rfl (v := .pointer (some ⟨q (i), j, none⟩)) (fun w hC => Pb (i := ((j : Nat) : Int)) (j) Ke rfl rfl by_Om by_Om by_Om) ?_))
 refine Ji ?_ ?_
 refine Cd rfl (v := .int .i64 0) (Sg rfl rfl) (⟨hF, hK⟩) ?_
 refine No rfl hF sizeOf3 rfl rfl (hK.pair.row i by_Om) by_Om (.inl (Ki.2 ⟨i, by omega, rfl⟩)) Ga ?_
 clear hF; intro w hF hE hnew
 replace hK := hK.putP by_Om hE hnew
 clear hE hnew
 refine Ac (Ha (Ma (Ca (Qd rfl) (Ca (Hb rfl) (Ca (Hb rfl) ?_)))))
 refine Eb (Mr _ N0 cb pb rb la lb Aa Ab k1 k2 k3 k4 q r (Tg P i j ((pN la[i] lb[j] : Nat) : Int)) R hK i j hll by_Om by_Om (by rw [Eh]; omega) (hQ3 by_Om by_Om)) (Bc J5 rfl rfl rfl rfl) ?_
 rintro _ w ⟨rfl, hE⟩
 replace hF := hF.ext hE
 replace hK := hK.ext hE
 clear hE
 refine Ca (Qd rfl) (Ca (Hb rfl) (Ca (Hb rfl) ?_))
 refine Eb (Mn _ N0 cb pb rb la lb Aa Ab k1 k2 k3 k4 q r (Tg P i j ((pN la[i] lb[j] : Nat) : Int)) R hK i j hll by_Om by_Om (fun j h => hla _ (List.getElem_mem h)) (hQ1 by_Om)) (Bc Tx rfl rfl rfl rfl) ?_
 rintro _ w ⟨rfl, hE⟩
 replace hF := hF.ext hE
 replace hK := hK.ext hE
 clear hE
 refine Ca (Qd rfl) (Ca (Hb rfl) (Ca (Hb rfl) ?_))
 refine Eb (Lt _ N0 cb pb rb la lb Aa Ab k1 k2 k3 k4 q r (Tg P i j ((pN la[i] lb[j] : Nat) : Int)) R hK i j hll by_Om by_Om (fun j h => hlb _ (List.getElem_mem h)) (hQ2 by_Om)) (Bc Yz rfl rfl rfl rfl) ?_
 rintro _ w ⟨rfl, hE⟩
 replace hF := hF.ext hE
 replace hK := hK.ext hE
 clear hE
 refine Ia (v := .int .i64 (min (min ((Tg P i j ((pN la[i] lb[j] : Nat) : Int)) i j + R (i + 1) (j + 1)) ((la[i].1.length : Int) + R (i + 1) j)) ((lb[j].1.length : Int) + R i (j + 1)))) (Y0 rfl rfl rfl) (Ca (Pc rfl) (Fa ?_))
 refine Xb (Wb (Va (Gx (v := .int .i64 (min (min ((Tg P i j ((pN la[i] lb[j] : Nat) : Int)) i j + R (i + 1) (j + 1)) ((la[i].1.length : Int) + R (i + 1) j)) ((lb[j].1.length : Int) + R i (j + 1)))) rfl rfl) ?_))
 exact ⟨(Tg P i j ((pN la[i] lb[j] : Nat) : Int)), congrArg (Value.int .i64) (by rw [Eh, hR1 by_Om, hR2 by_Om, hR3 by_Om by_Om, List.drop_eq_getElem_cons hi1, List.drop_eq_getElem_cons hj1, O4, ← List.drop_eq_getElem_cons hi1, ← List.drop_eq_getElem_cons hj1]; simp only [Km] at *; omega), hK, fun _ _ => Eh _ _ _ _, fun a b h => Yn h, hF.same⟩
 refine No rfl hF sizeOf3 rfl rfl (hK.pair.row i by_Om) by_Om (.inl (Ki.2 ⟨i, by omega, rfl⟩)) Ga ?_
 clear hF; intro w hF hE hnew
 replace hK := hK.putP by_Om hE hnew
 clear hE hnew
 refine Cd rfl (v := .int .i64 0) (Sg rfl rfl) (trivial) ?_
 refine Ac (Ha (Ma (Ca (Qd rfl) (Ca (Hb rfl) (Ca (Hb rfl) ?_)))))
 refine Eb (Mr _ N0 cb pb rb la lb Aa Ab k1 k2 k3 k4 q r (Tg P i j ((pN la[i] lb[j] : Nat) : Int)) R hK i j hll by_Om by_Om (by rw [Eh]; omega) (hQ3 by_Om by_Om)) (Bc J5 rfl rfl rfl rfl) ?_
 rintro _ w ⟨rfl, hE⟩
 replace hF := hF.ext hE
 replace hK := hK.ext hE
 clear hE
 refine Ca (Qd rfl) (Ca (Hb rfl) (Ca (Hb rfl) ?_))
 refine Eb (Mn _ N0 cb pb rb la lb Aa Ab k1 k2 k3 k4 q r (Tg P i j ((pN la[i] lb[j] : Nat) : Int)) R hK i j hll by_Om by_Om (fun j h => hla _ (List.getElem_mem h)) (hQ1 by_Om)) (Bc Tx rfl rfl rfl rfl) ?_
 rintro _ w ⟨rfl, hE⟩
 replace hF := hF.ext hE
 replace hK := hK.ext hE
 clear hE
 refine Ca (Qd rfl) (Ca (Hb rfl) (Ca (Hb rfl) ?_))
 refine Eb (Lt _ N0 cb pb rb la lb Aa Ab k1 k2 k3 k4 q r (Tg P i j ((pN la[i] lb[j] : Nat) : Int)) R hK i j hll by_Om by_Om (fun j h => hlb _ (List.getElem_mem h)) (hQ2 by_Om)) (Bc Yz rfl rfl rfl rfl) ?_
 rintro _ w ⟨rfl, hE⟩
 replace hF := hF.ext hE
 replace hK := hK.ext hE
 clear hE
 refine Ia (v := .int .i64 (min (min ((Tg P i j ((pN la[i] lb[j] : Nat) : Int)) i j + R (i + 1) (j + 1)) ((la[i].1.length : Int) + R (i + 1) j)) ((lb[j].1.length : Int) + R i (j + 1)))) (Y0 rfl rfl rfl) (Ca (Pc rfl) (Fa ?_))
 refine Xb (Wb (Va (Gx (v := .int .i64 (min (min ((Tg P i j ((pN la[i] lb[j] : Nat) : Int)) i j + R (i + 1) (j + 1)) ((la[i].1.length : Int) + R (i + 1) j)) ((lb[j].1.length : Int) + R i (j + 1)))) rfl rfl) ?_))
 exact ⟨(Tg P i j ((pN la[i] lb[j] : Nat) : Int)), congrArg (Value.int .i64) (by rw [Eh, hR1 by_Om, hR2 by_Om, hR3 by_Om by_Om, List.drop_eq_getElem_cons hi1, List.drop_eq_getElem_cons hj1, O4, ← List.drop_eq_getElem_cons hi1, ← List.drop_eq_getElem_cons hj1]; simp only [Km] at *; omega), hK, fun _ _ => Eh _ _ _ _, fun a b h => Yn h, hF.same⟩
 refine Ra (Ra (Ra (Ca (Fd rfl rfl) (Ca (Hc rfl) (Fa (Qg rfl (Ma (Ca (Hb rfl) (Ca (Hb rfl) (Ca (Ho rfl rfl) (Ca (Hc rfl) ?_)))))))))))
 refine Fa ?_
 refine Kc rfl rfl (fun hc1 => ?_) (fun hc1 => ?_)
 refine Ma (Ca (Qd rfl) (Ca (Hb rfl) (Ca (Hb rfl) ?_)))
 refine Eb (Lt _ N0 cb pb rb la lb Aa Ab k1 k2 k3 k4 q r P R hK i j hll by_Om by_Om (fun j h => hlb _ (List.getElem_mem h)) (hQ2 by_Om)) (Bc Yz rfl rfl rfl rfl) ?_
 rintro _ w ⟨rfl, hE⟩
 replace hF := hF.ext hE
 replace hK := hK.ext hE
 clear hE
 refine Ca (Pc rfl) (Fa ?_)
 refine Ie (v := .int .i64 ((lb[j].1.length : Int) + R i (j + 1))) rfl rfl ?_
 exact ⟨P, congrArg (Value.int .i64) (by have h := hR2 by_Om; obtain rfl : i = la.length := by_Om; rw [h, List.drop_length, List.drop_eq_getElem_cons (show j < lb.length by omega), JF]; simp only [Km] at *; omega), hK, fun h1 _ => absurd h1 by_Om, fun _ _ _ => rfl, hF.same⟩
 refine Ma (Ca (Hb rfl) (Ca (Hb rfl) (Ca (Ho rfl rfl) (Ca (Hc rfl) (Fa ?_)))))
 refine Kc rfl rfl (fun hc2 => ?_) (fun hc2 => ?_)
 refine Ma (Ca (Qd rfl) (Ca (Hb rfl) (Ca (Hb rfl) ?_)))
 refine Eb (Mn _ N0 cb pb rb la lb Aa Ab k1 k2 k3 k4 q r P R hK i j hll by_Om by_Om (fun j h => hla _ (List.getElem_mem h)) (hQ1 by_Om)) (Bc Tx rfl rfl rfl rfl) ?_
 rintro _ w ⟨rfl, hE⟩
 replace hF := hF.ext hE
 replace hK := hK.ext hE
 clear hE
 refine Ca (Pc rfl) (Fa ?_)
 refine Ie (v := .int .i64 ((la[i].1.length : Int) + R (i + 1) j)) rfl rfl ?_
 exact ⟨P, congrArg (Value.int .i64) (by have h := hR1 by_Om; obtain rfl : j = lb.length := by_Om; rw [h, List.drop_length, List.drop_eq_getElem_cons (show i < la.length by omega), IH]; simp only [Km] at *; omega), hK, fun _ h2 => absurd h2 by_Om, fun _ _ _ => rfl, hF.same⟩
 refine Cb (Kb (Ha (Ja ?_)))
 have hi1 : i < la.length := by omega
 have hj1 : j < lb.length := by omega
 have hcb : pN la[i] lb[j] ≤ la[i].1.length + lb[j].1.length := (Uo (ls := la[i].1) (fs := la[i].2) (gs := lb[j].1) (hs := lb[j].2)).1
 have q1 : la[i].1.length ≤ 512 := hla _ (List.getElem_mem hi1)
 have q2 : lb[j].1.length ≤ 512 := hlb _ (List.getElem_mem hj1)
 have hLa0 := hL0
 have hLb0 := hL1
 refine Yc [27] (.free 0 (.free 1 (.free 2 (.free 3 (.free 4 (.free 5 (.free 6 (.free 7 (.free 8 (.free 9 (.free 10 (.free 11 (.free 12 (.free 13 (.free 14 (.free 15 (.free 16 (.free 17 (.free 18 (.free 19 (.free 20 (.free 21 (.act 22 (.free 23 (.free 24 (.free 26 (.alt 25 (.act 27 .nil) (.act 27 (.act 25 .nil))))))))))))))))))))))))))))) hF ?_
 clear hF; intro w hF hE
 replace hK := hK.ext hE
 clear hE
 refine ⟨fun wq => FR w0 (Rows q (la.length + 1)) _ wq ∧ Ck wq N0 cb pb rb la lb Aa Ab k1 k2 k3 k4 q r P R, ⟨hF, hK⟩, ?_⟩
 refine Xa rfl (Qd rfl) (Xa rfl (Cf rfl) (Xa rfl (Gc Jh rfl) (Qa rfl (v := .slice (some ⟨pb, 0, none⟩) (la.length + 1) (k3)) (fun w hC => Wa isAgg36 rfl hC.2.c2) (Xa rfl (Hb rfl) (Qa rfl (v := .pointer (some ⟨pb, i, none⟩)) (fun w hC => Pb (i := ((i : Nat) : Int)) (i) Uf rfl rfl by_Om by_Om by_Om) (Qa rfl (v := .slice (some ⟨q (i), 0, none⟩) (lb.length + 1) (lb.length + 1)) (fun w hC => Wa isAgg39 rfl (hC.2.pair.rowCell by_Om)) (Xa rfl (Hb rfl) (Xa rfl (Qd rfl) (Xa rfl (Cf rfl) (Xa rfl (Gc Gv rfl) (Qa rfl (v := .slice Aa la.length k1) (fun w hC => Wa isAgg51 rfl hC.2.c0) (Xa rfl (Hb rfl) ?_))))))))))))
 obtain ⟨ad3, P3, p3, Q3, q3, hA3, hk3, hx3, hy3⟩ := hLa0.node_elem (i := i) by_Om
 refine Qa rfl (v := .pointer (some (ad3.add (i * 2)))) (fun w hC => Pa (i := (i : Nat)) Wz rfl hA3 rfl by_Om by_Om) ?_
 refine Qa rfl (fun w hC => Ic (l := [.slice (P3) ((la[i]).1.length) (p3), .slice (Q3) ((la[i]).2.length) (q3)]) isAgg60 sizeOf60 rfl rfl (hC.1.cellsD (by have h_ := hLa0; rw [hA3] at h_; exact fun hm => (hS0 _ (Rep.node_block h_ by_Om)).2 hm) hk3)) ?_
 refine Xa rfl (Qd rfl) (Xa rfl (Cf rfl) (Xa rfl (Gc Iv rfl) (Qa rfl (v := .slice Ab lb.length k2) (fun w hC => Wa isAgg51 rfl hC.2.c1) (Xa rfl (Hb rfl) ?_))))
 obtain ⟨ad4, P4, p4, Q4, q4, hA4, hk4, hx4, hy4⟩ := hLb0.node_elem (i := j) by_Om
 refine Qa rfl (v := .pointer (some (ad4.add (j * 2)))) (fun w hC => Pa (i := (j : Nat)) Wz rfl hA4 rfl by_Om by_Om) ?_
 refine Qa rfl (fun w hC => Ic (l := [.slice (P4) ((lb[j]).1.length) (p4), .slice (Q4) ((lb[j]).2.length) (q4)]) isAgg60 sizeOf60 rfl rfl (hC.1.cellsD (by have h_ := hLb0; rw [hA4] at h_; exact fun hm => (hS0 _ (Rep.node_block h_ by_Om)).2 hm) hk4)) ?_
 refine Ce rfl (D4 _ _ _ la[i].1 la[i].2 P3 Q3 p3 q3 (hF.repD hx3 hS0) (hF.repD hy3 hS0) lb[j].1 lb[j].2 P4 Q4 p4 q4 (hF.repD hx4 hS0) (hF.repD hy4 hS0) (hRa _ (List.getElem_mem _)) (hRb _ (List.getElem_mem _))) (Mb ZH rfl rfl rfl) ?_
 rintro _ w ⟨rfl, hE⟩
 replace hF := hF.ext hE
 replace hK := hK.ext hE
 clear hE
 refine ⟨⟨hF, hK⟩, ?_⟩
 refine Xa rfl (Gn rfl) (Xa rfl (Mt rfl rfl) (Qa rfl (v := .pointer (some ⟨q (i), j, none⟩)) (fun w hC => Pb (i := ((j : Nat) : Int)) (j) Ke rfl rfl by_Om by_Om by_Om) ?_))
 refine Ji ?_ ?_
 refine Cd rfl (v := .int .i64 0) (Sg rfl rfl) (⟨hF, hK⟩) ?_
 refine No rfl hF sizeOf3 rfl rfl (hK.pair.row i by_Om) by_Om (.inl (Ki.2 ⟨i, by omega, rfl⟩)) Ga ?_
 clear hF; intro w hF hE hnew
 replace hK := hK.putP by_Om hE hnew
 clear hE hnew
 refine Ac (Ha (Ma (Ca (Qd rfl) (Ca (Hb rfl) (Ca (Hb rfl) ?_)))))
 refine Eb (Mr _ N0 cb pb rb la lb Aa Ab k1 k2 k3 k4 q r (Tg P i j ((pN la[i] lb[j] : Nat) : Int)) R hK i j hll by_Om by_Om (by rw [Eh]; omega) (hQ3 by_Om by_Om)) (Bc J5 rfl rfl rfl rfl) ?_
 rintro _ w ⟨rfl, hE⟩
 replace hF := hF.ext hE
 replace hK := hK.ext hE
 clear hE
 refine Ca (Qd rfl) (Ca (Hb rfl) (Ca (Hb rfl) ?_))
 refine Eb (Mn _ N0 cb pb rb la lb Aa Ab k1 k2 k3 k4 q r (Tg P i j ((pN la[i] lb[j] : Nat) : Int)) R hK i j hll by_Om by_Om (fun j h => hla _ (List.getElem_mem h)) (hQ1 by_Om)) (Bc Tx rfl rfl rfl rfl) ?_
 rintro _ w ⟨rfl, hE⟩
 replace hF := hF.ext hE
 replace hK := hK.ext hE
 clear hE
 refine Ca (Qd rfl) (Ca (Hb rfl) (Ca (Hb rfl) ?_))
 refine Eb (Lt _ N0 cb pb rb la lb Aa Ab k1 k2 k3 k4 q r (Tg P i j ((pN la[i] lb[j] : Nat) : Int)) R hK i j hll by_Om by_Om (fun j h => hlb _ (List.getElem_mem h)) (hQ2 by_Om)) (Bc Yz rfl rfl rfl rfl) ?_
 rintro _ w ⟨rfl, hE⟩
 replace hF := hF.ext hE
 replace hK := hK.ext hE
 clear hE
 refine Ia (v := .int .i64 (min (min ((Tg P i j ((pN la[i] lb[j] : Nat) : Int)) i j + R (i + 1) (j + 1)) ((la[i].1.length : Int) + R (i + 1) j)) ((lb[j].1.length : Int) + R i (j + 1)))) (Y0 rfl rfl rfl) (Ca (Pc rfl) (Fa ?_))
 refine Xb (Wb (Va (Gx (v := .int .i64 (min (min ((Tg P i j ((pN la[i] lb[j] : Nat) : Int)) i j + R (i + 1) (j + 1)) ((la[i].1.length : Int) + R (i + 1) j)) ((lb[j].1.length : Int) + R i (j + 1)))) rfl rfl) ?_))
 exact ⟨(Tg P i j ((pN la[i] lb[j] : Nat) : Int)), congrArg (Value.int .i64) (by rw [Eh, hR1 by_Om, hR2 by_Om, hR3 by_Om by_Om, List.drop_eq_getElem_cons hi1, List.drop_eq_getElem_cons hj1, O4, ← List.drop_eq_getElem_cons hi1, ← List.drop_eq_getElem_cons hj1]; simp only [Km] at *; omega), hK, fun _ _ => Eh _ _ _ _, fun a b h => Yn h, hF.same⟩
 refine No rfl hF sizeOf3 rfl rfl (hK.pair.row i by_Om) by_Om (.inl (Ki.2 ⟨i, by omega, rfl⟩)) Ga ?_
 clear hF; intro w hF hE hnew
 replace hK := hK.putP by_Om hE hnew
 clear hE hnew
 refine Cd rfl (v := .int .i64 0) (Sg rfl rfl) (trivial) ?_
 refine Ac (Ha (Ma (Ca (Qd rfl) (Ca (Hb rfl) (Ca (Hb rfl) ?_)))))
 refine Eb (Mr _ N0 cb pb rb la lb Aa Ab k1 k2 k3 k4 q r (Tg P i j ((pN la[i] lb[j] : Nat) : Int)) R hK i j hll by_Om by_Om (by rw [Eh]; omega) (hQ3 by_Om by_Om)) (Bc J5 rfl rfl rfl rfl) ?_
 rintro _ w ⟨rfl, hE⟩
 replace hF := hF.ext hE
 replace hK := hK.ext hE
 clear hE
 refine Ca (Qd rfl) (Ca (Hb rfl) (Ca (Hb rfl) ?_))
 refine Eb (Mn _ N0 cb pb rb la lb Aa Ab k1 k2 k3 k4 q r (Tg P i j ((pN la[i] lb[j] : Nat) : Int)) R hK i j hll by_Om by_Om (fun j h => hla _ (List.getElem_mem h)) (hQ1 by_Om)) (Bc Tx rfl rfl rfl rfl) ?_
 rintro _ w ⟨rfl, hE⟩
 replace hF := hF.ext hE
 replace hK := hK.ext hE
 clear hE
 refine Ca (Qd rfl) (Ca (Hb rfl) (Ca (Hb rfl) ?_))
 refine Eb (Lt _ N0 cb pb rb la lb Aa Ab k1 k2 k3 k4 q r (Tg P i j ((pN la[i] lb[j] : Nat) : Int)) R hK i j hll by_Om by_Om (fun j h => hlb _ (List.getElem_mem h)) (hQ2 by_Om)) (Bc Yz rfl rfl rfl rfl) ?_
 rintro _ w ⟨rfl, hE⟩
 replace hF := hF.ext hE
 replace hK := hK.ext hE
 clear hE
 refine Ia (v := .int .i64 (min (min ((Tg P i j ((pN la[i] lb[j] : Nat) : Int)) i j + R (i + 1) (j + 1)) ((la[i].1.length : Int) + R (i + 1) j)) ((lb[j].1.length : Int) + R i (j + 1)))) (Y0 rfl rfl rfl) (Ca (Pc rfl) (Fa ?_))
 refine Xb (Wb (Va (Gx (v := .int .i64 (min (min ((Tg P i j ((pN la[i] lb[j] : Nat) : Int)) i j + R (i + 1) (j + 1)) ((la[i].1.length : Int) + R (i + 1) j)) ((lb[j].1.length : Int) + R i (j + 1)))) rfl rfl) ?_))
 exact ⟨(Tg P i j ((pN la[i] lb[j] : Nat) : Int)), congrArg (Value.int .i64) (by rw [Eh, hR1 by_Om, hR2 by_Om, hR3 by_Om by_Om, List.drop_eq_getElem_cons hi1, List.drop_eq_getElem_cons hj1, O4, ← List.drop_eq_getElem_cons hi1, ← List.drop_eq_getElem_cons hj1]; simp only [Km] at *; omega), hK, fun _ _ => Eh _ _ _ _, fun a b h => Yn h, hF.same⟩
end Go.Scarf
namespace Go.Scarf
open Go.RowKit Go.Proofs Go.Proofs.Tryz
def Zu (l : List Tree) : Nat := (l.map fun x => (Yg x).length).sum
def Th (x : Tree) : TreeN := (Yg x, Gk x)
def Xm (l : List Tree) : Int := if l.all Wd = true then (if 64 < l.length then 6 else if 512 < Zu l then 6 else 0) else 1
theorem Tz {l : List Tree} {j : Nat} (h : j < l.length) : Zu (l.take (j + 1)) = Zu (l.take j) + (Yg l[j]).length := by
  unfold Zu
  rw [List.take_succ_eq_append_getElem h, List.map_append, List.sum_append]; simp only [List.map_cons, List.map_nil, List.sum_cons, List.sum_nil, Nat.add_zero]
theorem MB (l : List Tree) (j : Nat) : Zu (l.take j) ≤ Zu l := by
  unfold Zu
  conv => rhs; rw [← List.take_append_drop j l]
  rw [List.map_append, List.sum_append]; omega
theorem D7 {l : List Tree} {j : Nat} {h : j < l.length} (hr : Wd l[j] = false) : Xm l = 1 := by
  unfold Xm
  rw [if_neg]
  intro ha
  rw [List.all_eq_true.1 ha l[j] (List.getElem_mem h)] at hr
  cases hr
theorem Xt {l : List Tree} {j : Nat} (hs : ∀ i (h : i < l.length), i < j → Wd l[i] = true) (hj : l.length ≤ j) : l.all Wd = true := by
  rw [List.all_eq_true]
  intro x hx
  obtain ⟨i, hi, rfl⟩ := List.getElem_of_mem hx
  exact hs i hi by_Om
theorem E8 {l : List Tree} {j : Nat} (hs : ∀ i (h : i < l.length), i < j → Wd l[i] = true) (hj : ∀ h : j < l.length, Wd l[j] = true) : ∀ i (h : i < l.length), i < j + 1 → Wd l[i] = true := fun i h h2 => by
  by_cases e : i = j
  · subst e; exact hj h
  · exact hs i h by_Om
theorem F8 {l : List Tree} {j : Nat} (h : j < l.length) : (l.take (j + 1)).map (fun x => Yj (Th x)) = (l.take j).map (fun x => Yj (Th x)) ++ [Yj (Yg l[j], Gk l[j])] := by
  rw [List.take_succ_eq_append_getElem h, List.map_append]; rfl
def Pt (x : Tree) : Prop := Xx x ∧ Qc x ≤ 256 ∧ Rf x ≤ 16777216
theorem NG (l : List Tree) (A : Option Addr) (c : Nat) (S : Nat → Prop) (w0 : World) (hG : Gl w0) (hX : Rep S w0 (.slice (He l)) [.slice A l.length c]) (hok : ∀ x ∈ l, Pt x) : Calls prog 24 #[.slice A l.length c] w0 (Md fun v w' => (Xm l ≠ 0 ∧ v = .tuple #[.slice none 0 0, .int .i64 (Xm l)] ∧ Same [] w0 w') ∨ (Xm l = 0 ∧ ∃ (A' : Option Addr) (c' : Nat), v = .tuple #[.slice A' l.length c', .int .i64 0] ∧ Rep (Btw w0 w') w' (.slice ((l.map Th).map Yj)) [.slice A' l.length c'] ∧ Same [] w0 w')) := by
 have hXl := hX.slice_len
 rw [Sj] at hXl
 refine Ka func24 rfl ntmps24 Gb (Dd _) ?_
 have hF := FR.start w0 []
 refine Ma (Ca (Mh rfl) (Ca (Pc rfl) (Fa (Ja (Ma (Ca (Pd rfl) (Ca (Lf underlying22 rfl) (Ca (Hb rfl) (Fa ?_)))))))))
 refine Ya ?_
 refine Uc (fun μ σ w => ∃ (j : Nat), μ = l.length - j ∧ (j ≤ l.length) ∧ (∀ i (h : i < l.length), i < j → Wd l[i] = true) ∧ AllEq σ [(0, .slice A l.length c), (12, .slice A l.length c), (13, .int .i64 ((l.length : Nat))), (14, .int .i64 ((j : Int)))] ∧ FR w0 [] [] w) _ ⟨0, rfl, by_Om, (fun i _ h => by omega), Dq, hF⟩ ?_
 clear hF; rintro μ σ w ⟨j, rfl, hj, hs_, hs, hF⟩
 refine Cg.slots hs ?_
 clear hs; intro σ
 refine Ma (Ca (Yk rfl rfl) (Fa (Ja ?_)))
 refine Kc rfl rfl (fun hc0 => ?_) (fun hc0 => ?_)
 refine Cb (Ha (Ja (Ya (Ma ?_))))
 obtain ⟨ad0, cs0, hA0, hl0, hk0, hx0⟩ := hX.tree_elem (i := j) by_Om
 have ho0 := hx0.one_
 refine Ia (v := .pointer (some (ad0.add (j * 4)))) (Pa (i := (j : Int)) Do rfl hA0 rfl by_Om by_Om) (Ia (v := .agg (List.toArray cs0)) (Ic (l := cs0) isAgg27 sizeOf27 rfl hl0 (hF.cells0 hk0)) ?_)
 refine Gu (l := cs0) hF zeroValue27 (by rw [hl0]; exact sizeOf27) (by rw [hl0]; rfl) (v := .agg (List.toArray cs0)) rfl rfl (ho0) rfl ?_
 clear hF; rintro b1 w hb1 hF -
 refine Cc (Ia (v := .agg (List.toArray cs0)) (Ic (l := cs0) isAgg27 sizeOf27 rfl hl0 (hF.cellsAll 0 rfl)) ?_)
 refine Rb hF (J2 l[j] (Nat.le_trans (hok _ (List.getElem_mem (l := l) (n := j) by_Om)).2.1 Ta) _ _ cs0 (hF.rep hx0) (hok _ (List.getElem_mem (l := l) (n := j) by_Om)).1 (hG.ext hF.same)) (Ob NE rfl rfl) ?_
 clear hF; intro w hF
 refine Ca (On rfl) (Fa ?_)
 refine Ik rfl rfl (fun hc1 => ?_) (fun hc1 => ?_)
 refine Ma (Ca (Mh rfl) (Ca (Pc rfl) (Fa ?_)))
 refine Xb (Wb (Va (Od (v := .slice _ _ _) (x := .int .i64 1) rfl rfl rfl) ?_))
 have he : Xm l = 1 := D7 (j := j) (h := by omega) (by simp_all)
 exact .inl ⟨by rw [he]; decide, by rw [he], hF.same⟩
 refine Cb (Kb (Ha (Ea (Ca (Di (((j + 1 : Nat) : Int)) rfl rfl) (Ca (Hb rfl) (Fb ?_))))))
 refine Dc ⟨_, ?_, j + 1, rfl, by_Om, (E8 hs_ (fun _ => by simp_all)), Dq, hF.drop 1⟩
 omega
 refine Lc (Jc rfl ?_)
 refine Ha (Ja (Ma (Ca (Pd rfl) (Ca (Lf underlying22 rfl) (Ca (Ey rfl rfl) (Fa ?_))))))
 refine Kc rfl rfl (fun hc2 => ?_) (fun hc2 => ?_)
 refine Ma (Ca (Mh rfl) (Ca (Pc rfl) (Fa ?_)))
 refine Xb (Wb (Va (Od (v := .slice _ _ _) (x := .int .i64 6) rfl rfl rfl) ?_))
 have he : Xm l = 6 := by rw [Xm, if_pos (Xt hs_ by_Om), if_pos by_Om]
 exact .inl ⟨by rw [he]; decide, by rw [he], hF.same⟩
 refine Cb (Ha (Ma (Ca (Mh rfl) (Cc (Ca (Pc rfl) (Fa (Ja (Ja ?_))))))))
 refine Ea (Ca (Pd rfl) (Ca (Lf underlying22 rfl) (Ca (Hb rfl) (Fa (Ya ?_)))))
 have hall : ∀ i (h : i < l.length), Wd l[i] = true := fun i h => hs_ i h by_Om
 refine Uc (fun μ σ w => ∃ (j : Nat), ∃ (A1 : Option Addr), ∃ (c1 : Nat), ∃ (so : List (Nat × Obj)), ∃ (vals : List Value), μ = l.length - j ∧ (j ≤ l.length) ∧ (SlB 60 2 A1 j c1 vals so) ∧ (RX w0 ([] ++ so.map (·.1)) w ((l.take j).map fun x => Yj (Th x)) vals) ∧ (Zu (l.take j) ≤ 512) ∧ AllEq σ [(6, .slice A1 j c1), (7, .int .i64 (512 - ((Zu (l.take j) : Nat) : Int))), (25, .slice A l.length c), (26, .int .i64 ((l.length : Nat))), (27, .int .i64 ((j : Int)))] ∧ FR w0 [] ([] ++ (so ++ [])) w) _ ⟨0, none, 0, [], [], rfl, (Nat.zero_le _), (SlB.nil _ _), (RX.nil), (by simp [Zu]), Kq, hF⟩ ?_
 clear hF; rintro μ σ w ⟨j, A1, c1, so, vals, rfl, hj, hS, hDX, ht_, hs, hF⟩
 refine Cg.slots hs ?_
 clear hs; intro σ
 refine Ma (Ca (Yk rfl rfl) (Fa (Ja ?_)))
 refine Kc rfl rfl (fun hc3 => ?_) (fun hc3 => ?_)
 refine Cb (Ha (Ja (Ya (Ma ?_))))
 obtain ⟨ad1, cs1, hA1, hl1, hk1, hx1⟩ := hX.tree_elem (i := j) by_Om
 have ho1 := hx1.one_
 refine Ia (v := .pointer (some (ad1.add (j * 4)))) (Pa (i := (j : Int)) Do rfl hA1 rfl by_Om by_Om) (Ia (v := .agg (List.toArray cs1)) (Ic (l := cs1) isAgg27 sizeOf27 rfl hl1 (hF.cells0 hk1)) ?_)
 refine Gu (l := cs1) hF zeroValue27 (by rw [hl1]; exact sizeOf27) (by rw [hl1]; rfl) (v := .agg (List.toArray cs1)) rfl rfl (ho1) rfl ?_
 clear hF; intro b2 w hb2 hF hE
 replace hDX := hDX.alloc hE hb2
 clear hE
 refine Cc (Ia (v := .agg (List.toArray cs1)) (Ic (l := cs1) isAgg27 sizeOf27 rfl hl1 (hF.cellsAll 0 rfl)) ?_)
 refine Eb (CD l[j] _ _ cs1 (hF.rep hx1) (hG.ext hF.same) (hok _ (List.getElem_mem (l := l) (n := j) by_Om)).2.1 (Nat.le_trans (hok _ (List.getElem_mem (l := l) (n := j) by_Om)).2.2 Ta) (hall j by_Om)) (Ob QK rfl rfl) ?_
 rintro _ w ⟨A5, c5, B5, e5, rfl, hL_, hN_, hE⟩
 have hRt := DC (x := (Yg l[j], Gk l[j])) hL_ hN_
 have hYX := RX.made (ids := [b2] ++ so.map (·.1)) hF.same.size (fun x hx => hF.lt_ids (by grind)) hRt
 replace hDX := hDX.ext hE
 replace hF := hF.ext hE
 clear hE hRt hL_ hN_
 refine Ca (Gn rfl) (Ca (LK rfl rfl) (Ca (Mt rfl rfl) ?_))
 refine Rm hF zeroValue60 sizeOf60 rfl ?_
 clear hF; intro b3 w hb3 hF hE
 replace hDX := hDX.alloc hE hb3
 replace hYX := hYX.alloc hE hb3
 clear hE
 refine Ca (Pc rfl) (Cc (Ca (Hb rfl) (Ca (Gc De rfl) (Vd (Ij isAgg25 rfl hF.F 0 rfl rfl) (Ca (Lf underlying25 rfl) ?_)))))
 refine Ia (v := .int .i64 (512 - ((Zu (l.take (j + 1)) : Nat) : Int))) (Xu rfl rfl (Xh (by rw [Tz by_Om]; omega) (by have h1 := Nm (hall j by_Om); have h2 := (hok _ (List.getElem_mem (l := l) (n := j) by_Om)).2.1; rw [Tz by_Om]; omega) by_Om)) ?_
 refine Ca (Pc rfl) (Fa (Ja (Ma (Ca (Hb rfl) (Ia (v := .bool false) (Ld (I3 rfl rfl) Ta) (Ca (Kd rfl) (Ca (Hb rfl) (Ca (Yk rfl rfl) (Ca (Fd rfl rfl) (Fa ?_))))))))))
 refine Kc rfl rfl (fun hc4 => ?_) (fun hc4 => ?_)
 refine Ma (Ca (Mh rfl) (Ca (Pc rfl) (Fa ?_)))
 refine Xb (Wb (Va (Od (v := .slice _ _ _) (x := .int .i64 6) rfl rfl rfl) ?_))
 have he : Xm l = 6 := by have h1 := MB l (j + 1); rw [Xm, if_pos (Xt (j := l.length) (fun i h _ => hall i h) (Nat.le_refl _)), if_neg by_Om, if_pos by_Om]
 exact .inl ⟨by rw [he]; decide, by rw [he], hF.same⟩
 refine Cb (Ha (Ea (Ca (Pd rfl) (Vd (El isAgg60 sizeOf60 rfl hF.F 0 rfl rfl) ?_))))
 refine If 1 hF (Ua (cs := #[.slice (A5) ((Yg l[j]).length) (c5), .slice (B5) ((Gk l[j]).length) (e5)]) underlying51 sizeOf60 zeroValue60 Ta Ta Db) ?_
 clear hF; intro b4 w hb4 hF hE
 replace hDX := hDX.alloc hE hb4
 replace hYX := hYX.alloc hE hb4
 clear hE
 refine Pm [(b4, .cells #[.slice (A5) ((Yg l[j]).length) (c5), .slice (B5) ((Gk l[j]).length) (e5)] 60), (b3, .cells #[.slice (A5) ((Yg l[j]).length) (c5), .slice (B5) ((Gk l[j]).length) (e5)] 60), (b2, .cells (List.toArray cs1) 27)] [] (news := [.slice (A5) ((Yg l[j]).length) (c5), .slice (B5) ((Gk l[j]).length) (e5)]) (len' := j + 1) (ys := vals ++ [.slice (A5) ((Yg l[j]).length) (c5), .slice (B5) ((Gk l[j]).length) (e5)]) KM hF hS rfl rfl (rfl) (fun _ => ⟨_, rfl, Ub (hF.cellsAll 0 rfl)⟩) (by simp [Value.oneCell']) (by simp only [maxLen]; omega) (rfl) (rfl) by_Om ?_
 clear hF; intro A2 c2 o_2 w hS2_o hF hE hnew
 replace hDX := hDX.app (l := [b4, b3, b2]) hE hnew
 replace hYX := hYX.app (l := [b4, b3, b2]) hE hnew
 clear hE hnew
 refine Ca (Mh rfl) (Fb (Kb (Ha (Ea (Ca (Di (((j + 1 : Nat) : Int)) rfl rfl) (Ca (Hb rfl) (Fb ?_)))))))
 refine Dc ⟨_, ?_, j + 1, A2, c2, o_2, vals ++ [.slice A5 (Yg l[j]).length c5, .slice B5 (Gk l[j]).length e5], rfl, by_Om, (by assumption), (by rw [F8 by_Om]; exact (hDX.append hYX).sub (by grind)), by_Om, Kq, hF.drop 3⟩
 omega
 refine Lc (Jc rfl ?_)
 refine Ha (Ma (Ca (Pd rfl) (Ca (Mh rfl) (Ca (Pc rfl) (Fa ?_)))))
 refine Xb (Wb (Va (Od (v := .slice _ _ _) (x := .int .i64 0) rfl rfl rfl) ?_))
 have ej : j = l.length := by omega
 subst ej
 rw [List.take_length] at hDX ht_
 have he : Xm l = 0 := by rw [Xm, if_pos (Xt (j := l.length) (fun i h _ => hall i h) (Nat.le_refl _)), if_neg by_Om, if_neg by_Om]
 have hrep := hS.rep (pre := []) (post := []) hF hDX Ga
 exact .inr ⟨he, A1, c1, rfl, by rw [List.map_map]; exact hrep, hF.same⟩
end Go.Scarf
