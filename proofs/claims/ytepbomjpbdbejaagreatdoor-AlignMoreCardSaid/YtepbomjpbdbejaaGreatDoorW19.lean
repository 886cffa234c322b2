/- A part of the proof. -/
import Derived.Test.YtepbomjpbdbejaaGreatDoorW16
set_option linter.all false
set_option maxHeartbeats 8000000
set_option maxRecDepth 10000
namespace Go.Scarf
open Go.RowKit Go.Proofs Go.Proofs.Tryz
mutual
def YK : Tree → Tree → Bool
  | .node k t ks xs, .node k' t' ks' ys => decide (k = k') && decide (t = t') && decide (ks = ks') && F7 xs ys
def F7 : List Tree → List Tree → Bool
  | [], [] => true
  | x :: xs, y :: ys => YK x y && F7 xs ys
  | _, _ => false
end
theorem F8 : ∀ {xs ys : List Tree}, (∀ x ∈ xs, ∀ y, YK x y = true ↔ x = y) → (F7 xs ys = true ↔ xs = ys)
  | [], [], _ => by simp [F7]
  | [], _ :: _, _ => by simp [F7]
  | _ :: _, [], _ => by simp [F7]
  | x :: xs, y :: ys, h => by
    rw [F7, Bool.and_eq_true, h x Fa y, F8 (fun z hz => h z (by simp [hz]))]
    simp
theorem M8 (x : Tree) : ∀ y, YK x y = true ↔ x = y := Tree.ind (Q := fun x => ∀ y, YK x y = true ↔ x = y) (fun k t ks xs ih y => by
  obtain ⟨k', t', ks', ys⟩ := y
  rw [YK, Bool.and_eq_true, Bool.and_eq_true, Bool.and_eq_true, F8 ih]
  simp [and_assoc]) x
instance : DecidableEq Tree := fun x y => if h : YK x y = true then .isTrue ((M8 x y).1 h) else .isFalse (fun e => h ((M8 x y).2 e))
mutual
def Vm (left deep : Int) : Tree → Int | .node _ _ ks xs => if 60 < deep then -1 else Ri (left - 1 - ks.length) deep xs
def Ri (left deep : Int) : List Tree → Int | [] => left | x :: xs => if left < 0 then left else Ri (Vm left (deep + 1) x) deep xs
end
mutual
def Qg : Tree → Bool | .node _ t ks xs => decide (t.length ≤ 2048) && ks.all (fun k => decide (k.length ≤ 1024)) && Qi xs
def Qi : List Tree → Bool | [] => true | x :: xs => Qg x && Qi xs
end
def Up (x : Tree) (most : Int) : Bool := decide (0 ≤ Vm most 0 x) && Qg x
theorem R4 (deep : Int) : ∀ (xs : List Tree) (left : Int), (∀ x ∈ xs, ∀ l d : Int, 0 ≤ l → Vm l d x ≤ l) → Ri left deep xs ≤ left
  | [], left, _ => by rw [Ri]; exact Int.le_refl _
  | x :: xs, left, h => by
    rw [Ri]
    split
    · exact Int.le_refl _
    · have h1 := h x Fa left (deep + 1) by_Om
      have h2 := R4 deep xs (Vm left (deep + 1) x) (fun y hy => h y (by simp [hy]))
      omega
theorem UF (x : Tree) : ∀ l d : Int, 0 ≤ l → Vm l d x ≤ l := Tree.ind (Q := fun x => ∀ l d : Int, 0 ≤ l → Vm l d x ≤ l) (fun k t ks xs ih l d hl => by
  rw [Vm]
  split
  · omega
  · have := R4 d xs (l - 1 - ks.length) ih
    omega) x
theorem Ts {left deep : Int} (h : left < 0) : ∀ xs : List Tree, Ri left deep xs = left
  | [] => by rw [Ri]
  | x :: xs => by rw [Ri, if_pos h]
theorem Y6 (x : Tree) : ∀ l d : Int, 0 ≤ l → 0 ≤ d → 0 ≤ Vm l d x → Vm l d x = l - Kc x - Om x ∧ d + Fd x ≤ 61 := Tree.ind (Q := fun x => ∀ l d : Int, 0 ≤ l → 0 ≤ d → 0 ≤ Vm l d x → Vm l d x = l - Kc x - Om x ∧ d + Fd x ≤ 61) (fun k t ks xs ih l d hl hd h => by
  rw [Vm] at h ⊢
  split at h
  · omega
  · rename_i hd60
    rw [if_neg hd60]
    have key : ∀ (ys : List Tree), (∀ y ∈ ys, y ∈ xs) → ∀ m : Int, 0 ≤ Ri m d ys → Ri m d ys = m - Rc ys - Fk ys ∧ d + 1 + Uc ys ≤ 61 := by
      intro ys
      induction ys with
      | nil => intro _ m hm; simp only [Ri, Rc, Fk, Uc]; omega
      | cons y ys ihy =>
        intro hm m h0
        rw [Ri] at h0 ⊢
        split at h0
        · omega
        · rename_i hmm
          rw [if_neg hmm]
          obtain ⟨a1, a2⟩ := ihy (fun z hz => hm z (by simp [hz])) _ h0
          have h3 : 0 ≤ Vm m (d + 1) y := by
            rcases Int.lt_or_le (Vm m (d + 1) y) 0 with hlt | hge
            · rw [Ts hlt] at h0; omega
            · exact hge
          obtain ⟨b1, b2⟩ := ih y (hm y Fa) m (d + 1) by_Om by_Om h3
          simp only [Rc, Fk, Uc]
          omega
    obtain ⟨a1, a2⟩ := key xs (fun _ h => h) _ h
    rw [Kc, Om, Fd]
    omega) x
theorem SG {x : Tree} {most : Int} (hm : 0 ≤ most) (h : Up x most = true) : (Kc x : Int) + Om x ≤ most ∧ Fd x ≤ 61 ∧ Qg x = true := by
  unfold Up at h
  rw [Bool.and_eq_true, decide_eq_true_eq] at h
  obtain ⟨a, b⟩ := Y6 x most 0 hm by_Om h.1
  exact ⟨by omega, by omega, h.2⟩
theorem U4 (x : Tree) : Qg x = true → Lx x := Tree.ind (Q := fun x => Qg x = true → Lx x) (fun k t ks xs ih h => by
  rw [Qg, Bool.and_eq_true, Bool.and_eq_true, decide_eq_true_eq, List.all_eq_true] at h
  rw [Lx]
  refine ⟨by omega, fun k hk => by have := h.1.2 k hk; simp only [decide_eq_true_eq] at this; omega, ?_⟩
  have key : ∀ ys : List Tree, (∀ y ∈ ys, y ∈ xs) → Qi ys = true → Sx ys := by
    intro ys
    induction ys with
    | nil => intro _ _; rw [Sx]; trivial
    | cons y ys ihy =>
      intro hm hs
      rw [Qi, Bool.and_eq_true] at hs
      rw [Sx]
      exact ⟨ih y (hm y Fa) hs.1, ihy (fun z hz => hm z (by simp [hz])) hs.2⟩
  exact key xs (fun _ h => h) h.2) x
theorem V7 {left deep : Int} {xs : List Tree} {j : Nat} (h : j < xs.length) (h0 : ¬ left < 0) : Ri left deep (xs.drop j) = Ri (Vm left (deep + 1) xs[j]) deep (xs.drop (j + 1)) := by
  rw [List.drop_eq_getElem_cons h, Ri, if_neg h0]
def RK (x : Tree) : Prop := ∀ (left deep : Int) S w0 cs, 0 ≤ left → left ≤ 1000000 → 0 ≤ deep → deep ≤ 61 → Rep S w0 (Qc x) cs → Calls prog 39 #[.agg cs.toArray, .int .i64 left, .int .i64 deep] w0 (Nd fun v w' => v = .int .i64 (Vm left deep x) ∧ Same [] w0 w')
def H6 (x : Tree) : Prop := ∀ S w0 cs, Rep S w0 (Qc x) cs → Calls prog 40 #[.agg cs.toArray] w0 (Nd fun v w' => v = .bool (Qg x) ∧ Same [] w0 w')
theorem V4 {xs : List Tree} {x : Tree} (h : x ∈ xs) (hs : Qg x = false) : Qi xs = false := by
  induction xs with
  | nil => cases h
  | cons y ys ih =>
    rw [Qi]
    rcases List.mem_cons.1 h with rfl | h
    · rw [hs]; rfl
    · rw [ih h, Bool.and_false]
theorem C4 {xs : List Tree} (h : ∀ j (hj : j < xs.length), Qg xs[j] = true) : Qi xs = true := by
  induction xs with
  | nil => rfl
  | cons y ys ih =>
    have h0 : Qg y = true := h 0 Fa
    rw [Qi, h0, Bool.true_and]
    exact ih (fun j hj => by have := h (j + 1) (by simpa using hj); simpa using this)
theorem TC (k : Int) (t : Str) (ks : List Str) (xs : List Tree) (ih : ∀ x, x ∈ xs → RK x) : RK (.node k t ks xs) := by
 intro left deep S w0 cs h0 h1 h2 h3 hR
 obtain ⟨A, c, B, e, rfl, -, -, hK, hX⟩ := hR.tree_inv
 have hXl := hX.slice_len
 have hKl := hK.slice_len
 refine Ka func39 rfl ntmps39 Kb (El _ _ _) ?_
 have hF := FR.start w0 []
 refine Ma ?_
 refine Ij hF rfl ?_
 clear hF; rintro b1 w hb1 hF -
 refine Ca (Ic rfl) (Ga (Ia (Ma (Ca (Ib rfl) (Ca (Iy rfl rfl) (Ga ?_))))))
 refine Jc rfl rfl (fun hc0 => ?_) (fun hc0 => ?_)
 refine Ma (Ca (Ic rfl) (Ga ?_))
 refine Wd (v := .int .i64 ((-1))) rfl rfl ?_
 exact ⟨congrArg (Value.int .i64) (by rw [Vm, if_pos by_Om]), hF.same⟩
 refine Wa (Ha (Ma (Ca (Ib rfl) (Ca (Sp rfl rfl) (Ca (Ac Ni rfl) (Md (Di isAgg25 rfl hF.F 0 rfl rfl) (Ca (Mf underlying25 rfl) (Ca (Sp rfl rfl) (Ca (Ic rfl) (Ga (Ia ?_)))))))))))
 refine Ma (Ca (Ic rfl) (Ga (Va ?_)))
 refine Xc (fun μ σ w => ∃ (j : Nat), ∃ (lf : Int), μ = xs.length - j ∧ (j ≤ xs.length) ∧ (lf ≤ 1000000) ∧ (Ri (left - 1 - ks.length) deep xs = Ri lf deep (xs.drop j)) ∧ AllEq σ [(1, .int .i64 lf), (2, .int .i64 deep), (3, .pointer (some ⟨b1, 0, none⟩)), (7, .int .i64 ((j : Int)))] ∧ FR w0 [] [(b1, .cells #[.int .i64 k, .string (bs t), .slice A ks.length c, .slice B xs.length e] 27)] w) _ ⟨0, (left - 1 - ks.length), rfl, (Nat.zero_le _), by_Om, Fa, Xt, hF⟩ ?_
 clear hF; rintro μ σ w ⟨j, lf, rfl, hj, hlf, hf, hs, hF⟩
 refine Cg.slots hs ?_
 clear hs; intro σ
 refine Ia (Ma (Ca (Ib rfl) (Ca (Ac Ae rfl) (Md (Di isAgg22 rfl hF.F 0 rfl rfl) (Ca (Mf underlying22 rfl) (Ca (Yl rfl rfl) (Ca (Ld rfl) ?_)))))))
 refine Ad (d := 21) rfl (fun hg0 => ?_) (fun hg0 => ?_)
 refine Ca (Ib rfl) (Ca (SE rfl rfl) (Ca (Wc rfl rfl) (Ga ?_)))
 refine Jc rfl rfl (fun hc1 => ?_) (fun hc1 => ?_)
 refine Wa (Ha (Ia (Va (Ea (Ca (Ac Ae rfl) (Md (Di isAgg22 rfl hF.F 0 rfl rfl) (Ca (Ib rfl) ?_)))))))
 obtain ⟨ad1, cs1, hA1, hl1, hk1, hx1⟩ := hX.tree_elem (i := j) by_Om
 have ho1 := hx1.one_
 refine Ja (v := .pointer (some (ad1.add (j * 4)))) (Ra (i := (j : Int)) Il rfl hA1 rfl by_Om by_Om) (Ja (v := .agg (List.toArray cs1)) (Wb (l := cs1) isAgg27 sizeOf27 rfl hl1 (hF.cells0 hk1)) (Ca (Ib rfl) (Ca (Ib rfl) (Ca (Dm rfl rfl) ?_))))
 refine Pb hF (ih _ (List.getElem_mem (l := xs) (n := j) by_Om) lf (deep + 1) _ _ _ by_Om by_Om by_Om by_Om (hF.rep hx1)) (Fc HI rfl rfl rfl rfl) ?_
 clear hF; intro w hF
 refine Ca (Ic rfl) (Za (Ob (Ha (Ea (Ca (Ib rfl) (Ca (Dm rfl rfl) (Ca (Ic rfl) (Za ?_))))))))
 refine Ec ⟨_, ?_, j + 1, Vm lf (deep + 1) xs[j], rfl, by_Om, (by have := UF xs[j] lf (deep + 1) by_Om; omega), (hf.trans (V7 by_Om by_Om)), Xt, hF⟩
 omega
 refine Lc (Hc rfl ?_)
 refine Ha (Ma (Ca (Ib rfl) (Ca (Ic rfl) (Ga ?_))))
 refine Wd (v := .int .i64 lf) rfl rfl ?_
 refine ⟨congrArg (Value.int .i64) ?_, hF.same⟩
 rw [Vm, if_neg by_Om, hf]
 · first | (rw [List.drop_eq_nil_of_le by_Om, Ri]; done) | (rw [Ts by_Om])
 refine Ta (Ta (Ca (Pd rfl rfl) (Ga (Mg rfl ?_))))
 refine Lc (Hc rfl ?_)
 refine Ha (Ma (Ca (Ib rfl) (Ca (Ic rfl) (Ga ?_))))
 refine Wd (v := .int .i64 lf) rfl rfl ?_
 refine ⟨congrArg (Value.int .i64) ?_, hF.same⟩
 rw [Vm, if_neg by_Om, hf]
 · first | (rw [List.drop_eq_nil_of_le by_Om, Ri]; done) | (rw [Ts by_Om])
theorem CL (x : Tree) : RK x := Tree.ind TC x
theorem O7 (k : Int) (t : Str) (ks : List Str) (xs : List Tree) (ih : ∀ x, x ∈ xs → H6 x) : H6 (.node k t ks xs) := by
  intro S w0 cs hR
  obtain ⟨A, c, B, e, rfl, -, -, hK, hX⟩ := hR.tree_inv
  have hXl := hX.slice_len
  have hKl := hK.slice_len
  refine Ka func40 rfl ntmps40 Kb (Yc _) ?_
  have hF := FR.start w0 []
  refine Ia ?_
  refine Ea ?_
  refine Ij hF rfl ?_
  clear hF; intro b1 w hb1 hF hE
  clear hE
  refine Ca (Gc rfl) ?_
  refine Za ?_
  refine Ha ?_
  refine Ia ?_
  refine Ia ?_
  refine Ea ?_
  refine Ca (Ac Bi rfl) ?_
  refine Md (Nv isAgg9 rfl hF.F 0 rfl rfl) ?_
  refine Ca (W3 underlying9 rfl) ?_
  refine Ca (Iy rfl rfl) ?_
  refine Za ?_
  refine Ha ?_
  refine Jc rfl rfl (fun hc0 => ?_) (fun hc0 => ?_)
  ·
    refine Ia ?_
    refine Ea ?_
    refine Ca (Gc rfl) ?_
    refine Za ?_
    refine Ha ?_
    refine Wd (v := .bool false) rfl rfl ?_
    exact ⟨congrArg Value.bool (by rw [Qg, decide_eq_false by_Om]; rfl), hF.same⟩
  ·
    refine Wa ?_
    refine Ha ?_
    refine Ia ?_
    refine Ia ?_
    refine Ea ?_
    refine Ca (Ic rfl) ?_
    refine Za ?_
    refine Ha ?_
    refine Va ?_
    refine Xc (fun μ σ w => ∃ (j : Nat), μ = ks.length - j ∧ (j ≤ ks.length) ∧ (∀ i (hi : i < j) (hk : i < ks.length), ks[i].length ≤ 1024) ∧ AllEq σ [(1, .pointer (some ⟨b1, 0, none⟩)), (3, .int .i64 ((j : Int)))] ∧ FR w0 [] [(b1, .cells #[.int .i64 k, .string (bs t), .slice A ks.length c, .slice B xs.length e] 27)] w) _ ⟨0, rfl, (Nat.zero_le _), (fun i hi => absurd hi by_Om), I3, hF⟩ ?_
    clear hF; rintro μ σ w ⟨j, rfl, hj, ha, hs, hF⟩
    refine Cg.slots hs ?_
    clear hs; intro σ
    refine Ia ?_
    refine Ia ?_
    refine Ea ?_
    refine Ca (Ib rfl) ?_
    refine Ca (Ac Ni rfl) ?_
    refine Md (Di isAgg25 rfl hF.F 0 rfl rfl) ?_
    refine Ca (Mf underlying25 rfl) ?_
    refine Ca (Yl rfl rfl) ?_
    refine Za ?_
    refine Ha ?_
    refine Jc rfl rfl (fun hc1 => ?_) (fun hc1 => ?_)
    ·
      refine Wa ?_
      refine Ha ?_
      refine Ia ?_
      refine Va ?_
      refine Ia ?_
      refine Ea ?_
      refine Ca (Ac Ni rfl) ?_
      refine Md (Di isAgg25 rfl hF.F 0 rfl rfl) ?_
      refine Ca (Ib rfl) ?_
      obtain ⟨ad0, hA0, hk0, hx0⟩ := hK.str_elem (i := j) by_Om
      refine Ja (v := .pointer (some (ad0.add (j * 1)))) (Ra (i := (j : Int)) Du rfl hA0 rfl by_Om by_Om) ?_
      refine Ja (v := .string (bs (ks[j]))) (Db isAgg9 rfl (hF.cell0 hk0)) ?_
      refine Ca (W3 underlying9 rfl) ?_
      refine Ca (Iy rfl rfl) ?_
      refine Za ?_
      refine Ha ?_
      refine Jc rfl rfl (fun hc2 => ?_) (fun hc2 => ?_)
      ·
        refine Ia ?_
        refine Ea ?_
        refine Ca (Gc rfl) ?_
        refine Za ?_
        refine Ha ?_
        refine Wd (v := .bool false) rfl rfl ?_
        have hno : ks.all (fun k => decide (k.length ≤ 1024)) = false := by
          rw [Bool.eq_false_iff]; intro hall; have := List.all_eq_true.1 hall ks[j] (List.getElem_mem _); simp only [decide_eq_true_eq] at this; omega
        exact ⟨congrArg Value.bool (by rw [Qg, hno, Bool.and_false]; rfl), hF.same⟩
      ·
        refine Wa ?_
        refine Ob ?_
        refine Ha ?_
        refine Ea ?_
        refine Ca (Ib rfl) ?_
        refine Ca (Dm rfl rfl) ?_
        refine Ca (Ic rfl) ?_
        refine Za ?_
        refine Ec ⟨_, ?_, j + 1, rfl, by_Om, (fun i hi hk => by rcases Nat.lt_or_ge i j with h | h; exact ha i h hk; obtain rfl : i = j := by_Om; omega), I3, hF⟩
        omega
    ·
      refine Lc (Hc rfl ?_)
      refine Ha ?_
      refine Ia ?_
      refine Ia ?_
      refine Ea ?_
      refine Ca (Ic rfl) ?_
      refine Za ?_
      refine Ha ?_
      refine Va ?_
      refine Xc (fun μ σ w => ∃ (i : Nat), μ = xs.length - i ∧ (i ≤ xs.length) ∧ (∀ m (hm : m < i) (hk : m < xs.length), Qg xs[m] = true) ∧ AllEq σ [(1, .pointer (some ⟨b1, 0, none⟩)), (4, .int .i64 ((i : Int)))] ∧ FR w0 [] [(b1, .cells #[.int .i64 k, .string (bs t), .slice A ks.length c, .slice B xs.length e] 27)] w) _ ⟨0, rfl, (Nat.zero_le _), (fun i hi => absurd hi by_Om), I3, hF⟩ ?_
      clear hF; rintro μ σ w ⟨i, rfl, hi, hb, hs, hF⟩
      refine Cg.slots hs ?_
      clear hs; intro σ
      refine Ia ?_
      refine Ia ?_
      refine Ea ?_
      refine Ca (Ib rfl) ?_
      refine Ca (Ac Ae rfl) ?_
      refine Md (Di isAgg22 rfl hF.F 0 rfl rfl) ?_
      refine Ca (Mf underlying22 rfl) ?_
      refine Ca (Yl rfl rfl) ?_
      refine Za ?_
      refine Ha ?_
      refine Jc rfl rfl (fun hc3 => ?_) (fun hc3 => ?_)
      ·
        refine Wa ?_
        refine Ha ?_
        refine Ia ?_
        refine Va ?_
        refine Ia ?_
        refine Ea ?_
        refine Ca (Ac Ae rfl) ?_
        refine Md (Di isAgg22 rfl hF.F 0 rfl rfl) ?_
        refine Ca (Ib rfl) ?_
        obtain ⟨ad1, cs1, hA1, hl1, hk1, hx1⟩ := hX.tree_elem (i := i) by_Om
        have ho1 := hx1.one_
        refine Ja (v := .pointer (some (ad1.add (i * 4)))) (Ra (i := (i : Int)) Il rfl hA1 rfl by_Om by_Om) ?_
        refine Ja (v := .agg (List.toArray cs1)) (Wb (l := cs1) isAgg27 sizeOf27 rfl hl1 (hF.cells0 hk1)) ?_
        refine Pb hF (ih _ (List.getElem_mem (l := xs) (n := i) by_Om) _ _ _ (hF.rep hx1)) (Fb IH rfl rfl) ?_
        clear hF; intro w hF
        refine Ca (Gc rfl) ?_
        refine Za ?_
        refine Ha ?_
        refine Ia ?_
        refine Ea ?_
        refine Ca (Ld rfl) ?_
        refine Ca (Lp rfl) ?_
        refine Za ?_
        refine Ha ?_
        refine Qj rfl rfl (fun hc4 => ?_) (fun hc4 => ?_)
        ·
          refine Ia ?_
          refine Ea ?_
          refine Ca (Gc rfl) ?_
          refine Za ?_
          refine Ha ?_
          refine Wd (v := .bool false) rfl rfl ?_
          exact ⟨congrArg Value.bool (by rw [Qg, V4 (List.getElem_mem (l := xs) (n := i) by_Om) (by simpa using hc4), Bool.and_false]), hF.same⟩
        ·
          refine Wa ?_
          refine Ob ?_
          refine Ha ?_
          refine Ea ?_
          refine Ca (Ib rfl) ?_
          refine Ca (Dm rfl rfl) ?_
          refine Ca (Ic rfl) ?_
          refine Za ?_
          refine Ec ⟨_, ?_, i + 1, rfl, by_Om, (fun m hm hk => by rcases Nat.lt_or_ge m i with h | h; exact hb m h hk; obtain rfl : m = i := by_Om; simpa using hc4), I3, hF⟩
          omega
      ·
        refine Lc (Hc rfl ?_)
        refine Ha ?_
        refine Ia ?_
        refine Ea ?_
        refine Ca (Gc rfl) ?_
        refine Za ?_
        refine Ha ?_
        refine Wd (v := .bool true) rfl rfl ?_
        have h1 : ks.all (fun k => decide (k.length ≤ 1024)) = true := by
          rw [List.all_eq_true]; intro k hk; obtain ⟨q, hq, rfl⟩ := List.getElem_of_mem hk; simp only [decide_eq_true_eq]; exact ha q by_Om hq
        exact ⟨congrArg Value.bool (by rw [Qg, h1, decide_eq_true by_Om, C4 (fun m hm => hb m by_Om hm)]; rfl), hF.same⟩
theorem BH (x : Tree) : H6 x := Tree.ind O7 x
theorem LM (x : Tree) (most : Int) (h0 : 0 ≤ most) (h1 : most ≤ 1000000) (S : Nat → Prop) (w0 : World) (cs : List Value) (hR : Rep S w0 (Qc x) cs) : Calls prog 23 #[.agg cs.toArray, .int .i64 most] w0 (Nd fun v w' => v = .bool (Up x most) ∧ Same [] w0 w') := by
 have hl : cs.length = 4 := hR.length.trans (Id x)
 have ho := hR.one_
 refine Ka func23 rfl ntmps23 Kb (Td _ _) ?_
 have hF := FR.start w0 []
 refine Ma ?_
 refine Yn (v := .agg (List.toArray cs)) (cs := (List.toArray cs)) hF rfl rfl ?_
 clear hF; rintro b1 w hb1 hF -
 refine Ca (Gc rfl) (Dc (Ja (v := .agg (List.toArray cs)) (Wb (l := cs) isAgg27 sizeOf27 rfl hl (hF.cellsAll 0 rfl)) (Ca (Ib rfl) ?_)))
 refine Pb hF (CL x most 0 S _ cs h0 h1 by_Om by_Om (hF.rep hR)) (Fc HI rfl rfl rfl rfl) ?_
 clear hF; intro w hF
 refine Ca (Ic rfl) (Dc (Ca (Ib rfl) (Ca (SE rfl rfl) (Ca (Ld rfl) ?_))))
 refine Ad (d := 11) rfl (fun hg0 => ?_) (fun hg0 => ?_)
 refine Ja (v := .agg (List.toArray cs)) (Wb (l := cs) isAgg27 sizeOf27 rfl hl (hF.cellsAll 0 rfl)) ?_
 refine Pb hF (BH x S _ cs (hF.rep hR)) (Fb IH rfl rfl) ?_
 clear hF; intro w hF
 refine Ca (Wc rfl rfl) (Ca (Gc rfl) (Ga ?_))
 refine Wd (v := .bool _) rfl rfl ?_
 refine ⟨congrArg Value.bool ?_, hF.same⟩
 unfold Up
 first | (rw [decide_eq_true hg0]; rfl) | (rw [decide_eq_false hg0]; rfl)
 refine Ta (Ta (Ca (Pd rfl rfl) (Ca (Gc rfl) (Ga ?_))))
 refine Wd (v := .bool false) rfl rfl ?_
 refine ⟨congrArg Value.bool ?_, hF.same⟩
 unfold Up
 first | (rw [decide_eq_true hg0]; rfl) | (rw [decide_eq_false hg0]; rfl)
end Go.Scarf
namespace Go.Scarf
open Go.RowKit Go.Proofs Go.Proofs.Tryz
section
variable {P : Program} {w0 w w' : World} {ids : List Nat} {ds : List D}
theorem Ce {P : Program} {ρ : Operand → Value} {o : Oper} {w w' : World} {p : Prop} {_ : Decidable p} (h : (execOp ρ o).run P w = .ok (.value (.bool (decide p))) w') (hp : p) : (execOp ρ o).run P w = .ok (.value (.bool true)) w' := by rw [h, decide_eq_true hp]
theorem De {P : Program} {ρ : Operand → Value} {o : Oper} {w w' : World} {p : Prop} {_ : Decidable p} (h : (execOp ρ o).run P w = .ok (.value (.bool (decide p))) w') (hp : ¬ p) : (execOp ρ o).run P w = .ok (.value (.bool false)) w' := by rw [h, decide_eq_false hp]
theorem FR.rowX {bs : List (Nat × Obj)} (hF : FR w0 [] bs w) (i : Nat) {b n : Nat} {l : List Value} {T : TypeId} (hi : bs[i]? = some (b, .cells l.toArray T)) (hr : RX w0 ids w ds l) (hb : b ∉ ids) (hn : ds.length = n) (hm : n ≤ 9223372036854775807) :
    RX w0 ids w [.slice ds] [.slice (some ⟨b, 0, none⟩) n n] := by
  refine .one (Rep.slice_mk hn.symm (Nat.le_refl _) hm fun _ => ⟨_, rfl, l, fun j hj => ⟨?_, ?_⟩, hr⟩)
  · exact hF.cellsAll i hi j hj
  · exact ⟨hF.ge hi, hF.lt hi, hb, l.toArray, T, hF.heap hi⟩
theorem RX.tree {k : Int} {t : Str} {ks : List Str} {xs : List Tree} {v u : Value} (hk : -9223372036854775808 ≤ k ∧ k ≤ 9223372036854775807) (ht : t.length ≤ 9223372036854775807)
    (h3 : RX w0 ids w [Lf ks] [v]) (h4 : RX w0 ids w [.slice (Vc xs)] [u]) : RX w0 ids w [Qc (.node k t ks xs)] [.int .i64 k, .string (bs t), v, u] := .one (Rep.tree_mk hk ht h3.rep h4.rep)
theorem RX.nils {ids : List Nat} : RX w0 ids w [.slice []] [.slice none 0 0] := .one (Rep.nil_slice 0 by_Om none)
theorem RX.num (t : Str) (ht : t.length ≤ 9223372036854775807) : RX w0 ids w [Qc (.node 3 t [] [])] [.int .i64 3, .string (bs t), .slice none 0 0, .slice none 0 0] := RX.tree ⟨by omega, by omega⟩ ht RX.nils RX.nils
theorem RX.str (t : Str) (ht : t.length ≤ 9223372036854775807) : RX w0 ids w [Qc (.node 4 t [] [])] [.int .i64 4, .string (bs t), .slice none 0 0, .slice none 0 0] := RX.tree ⟨by omega, by omega⟩ ht RX.nils RX.nils
end
end Go.Scarf
