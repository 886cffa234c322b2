/- A part of the proof. -/
import Derived.Test.YtepbomjpbdbejaaGreatDoorW16
set_option linter.all false
set_option maxHeartbeats 8000000
set_option maxRecDepth 10000
namespace Go.Scarf
open Go.RowKit Go.Proofs Go.Proofs.Tryz
mutual
def WR : Tree → Tree → Bool
  | .node k t ks xs, .node k' t' ks' ys => decide (k = k') && decide (t = t') && decide (ks = ks') && V_ xs ys
def V_ : List Tree → List Tree → Bool
  | [], [] => true
  | x :: xs, y :: ys => WR x y && V_ xs ys
  | _, _ => false
end
theorem JE : ∀ {xs ys : List Tree}, (∀ x ∈ xs, ∀ y, WR x y = true ↔ x = y) → (V_ xs ys = true ↔ xs = ys)
  | [], [], _ => by simp [V_]
  | [], _ :: _, _ => by simp [V_]
  | _ :: _, [], _ => by simp [V_]
  | x :: xs, y :: ys, h => by
    rw [V_, Bool.and_eq_true, h x Ga y, JE (fun z hz => h z (by simp [hz]))]
    simp
theorem FD (x : Tree) : ∀ y, WR x y = true ↔ x = y := Tree.ind (Q := fun x => ∀ y, WR x y = true ↔ x = y) (fun k t ks xs ih y => by
  obtain ⟨k', t', ks', ys⟩ := y
  rw [WR, Bool.and_eq_true, Bool.and_eq_true, Bool.and_eq_true, JE ih]
  simp [and_assoc]) x
instance : DecidableEq Tree := fun x y => if h : WR x y = true then .isTrue ((FD x y).1 h) else .isFalse (fun e => h ((FD x y).2 e))
mutual
def Ho (left deep : Int) : Tree → Int | .node _ _ ks xs => if 60 < deep then -1 else Fk (left - 1 - ks.length) deep xs
def Fk (left deep : Int) : List Tree → Int | [] => left | x :: xs => if left < 0 then left else Fk (Ho left (deep + 1) x) deep xs
end
mutual
def Hh : Tree → Bool | .node _ t ks xs => decide (t.length ≤ 2048) && ks.all (fun k => decide (k.length ≤ 1024)) && Uj xs
def Uj : List Tree → Bool | [] => true | x :: xs => Hh x && Uj xs
end
def Ir (x : Tree) (most : Int) : Bool := decide (0 ≤ Ho most 0 x) && Hh x
theorem I_ (deep : Int) : ∀ (xs : List Tree) (left : Int), (∀ x ∈ xs, ∀ l d : Int, 0 ≤ l → Ho l d x ≤ l) → Fk left deep xs ≤ left
  | [], left, _ => by rw [Fk]; exact Int.le_refl _
  | x :: xs, left, h => by
    rw [Fk]
    split
    · exact Int.le_refl _
    · have h1 := h x Ga left (deep + 1) by_Om
      have h2 := I_ deep xs (Ho left (deep + 1) x) (fun y hy => h y (by simp [hy]))
      omega
theorem GN (x : Tree) : ∀ l d : Int, 0 ≤ l → Ho l d x ≤ l := Tree.ind (Q := fun x => ∀ l d : Int, 0 ≤ l → Ho l d x ≤ l) (fun k t ks xs ih l d hl => by
  rw [Ho]
  split
  · omega
  · have := I_ d xs (l - 1 - ks.length) ih
    omega) x
theorem Hw {left deep : Int} (h : left < 0) : ∀ xs : List Tree, Fk left deep xs = left
  | [] => by rw [Fk]
  | x :: xs => by rw [Fk, if_pos h]
theorem HA (x : Tree) : ∀ l d : Int, 0 ≤ l → 0 ≤ d → 0 ≤ Ho l d x → Ho l d x = l - Ac x - Lo x ∧ d + Gd x ≤ 61 := Tree.ind (Q := fun x => ∀ l d : Int, 0 ≤ l → 0 ≤ d → 0 ≤ Ho l d x → Ho l d x = l - Ac x - Lo x ∧ d + Gd x ≤ 61) (fun k t ks xs ih l d hl hd h => by
  rw [Ho] at h ⊢
  split at h
  · omega
  · rename_i hd60
    rw [if_neg hd60]
    have key : ∀ (ys : List Tree), (∀ y ∈ ys, y ∈ xs) → ∀ m : Int, 0 ≤ Fk m d ys → Fk m d ys = m - Xc ys - Em ys ∧ d + 1 + Zc ys ≤ 61 := by
      intro ys
      induction ys with
      | nil => intro _ m hm; simp only [Fk, Xc, Em, Zc]; omega
      | cons y ys ihy =>
        intro hm m h0
        rw [Fk] at h0 ⊢
        split at h0
        · omega
        · rename_i hmm
          rw [if_neg hmm]
          obtain ⟨a1, a2⟩ := ihy (fun z hz => hm z (by simp [hz])) _ h0
          have h3 : 0 ≤ Ho m (d + 1) y := by
            rcases Int.lt_or_le (Ho m (d + 1) y) 0 with hlt | hge
            · rw [Hw hlt] at h0; omega
            · exact hge
          obtain ⟨b1, b2⟩ := ih y (hm y Ga) m (d + 1) by_Om by_Om h3
          simp only [Xc, Em, Zc]
          omega
    obtain ⟨a1, a2⟩ := key xs (fun _ h => h) _ h
    rw [Ac, Lo, Gd]
    omega) x
theorem FN {x : Tree} {most : Int} (hm : 0 ≤ most) (h : Ir x most = true) : (Ac x : Int) + Lo x ≤ most ∧ Gd x ≤ 61 ∧ Hh x = true := by
  unfold Ir at h
  rw [Bool.and_eq_true, decide_eq_true_eq] at h
  obtain ⟨a, b⟩ := HA x most 0 hm by_Om h.1
  exact ⟨by omega, by omega, h.2⟩
theorem H_ (x : Tree) : Hh x = true → Ox x := Tree.ind (Q := fun x => Hh x = true → Ox x) (fun k t ks xs ih h => by
  rw [Hh, Bool.and_eq_true, Bool.and_eq_true, decide_eq_true_eq, List.all_eq_true] at h
  rw [Ox]
  refine ⟨by omega, fun k hk => by have := h.1.2 k hk; simp only [decide_eq_true_eq] at this; omega, ?_⟩
  have key : ∀ ys : List Tree, (∀ y ∈ ys, y ∈ xs) → Uj ys = true → F1 ys := by
    intro ys
    induction ys with
    | nil => intro _ _; rw [F1]; trivial
    | cons y ys ihy =>
      intro hm hs
      rw [Uj, Bool.and_eq_true] at hs
      rw [F1]
      exact ⟨ih y (hm y Ga) hs.1, ihy (fun z hz => hm z (by simp [hz])) hs.2⟩
  exact key xs (fun _ h => h) h.2) x
theorem KB {left deep : Int} {xs : List Tree} {j : Nat} (h : j < xs.length) (h0 : ¬ left < 0) : Fk left deep (xs.drop j) = Fk (Ho left (deep + 1) xs[j]) deep (xs.drop (j + 1)) := by
  rw [List.drop_eq_getElem_cons h, Fk, if_neg h0]
def HQ (x : Tree) : Prop := ∀ (left deep : Int) S w0 cs, 0 ≤ left → left ≤ 1000000 → 0 ≤ deep → deep ≤ 61 → Rep S w0 (Sc x) cs → Calls prog 39 #[.agg cs.toArray, .int .i64 left, .int .i64 deep] w0 (Rd fun v w' => v = .int .i64 (Ho left deep x) ∧ Same [] w0 w')
def IA (x : Tree) : Prop := ∀ S w0 cs, Rep S w0 (Sc x) cs → Calls prog 40 #[.agg cs.toArray] w0 (Rd fun v w' => v = .bool (Hh x) ∧ Same [] w0 w')
theorem U8 {xs : List Tree} {x : Tree} (h : x ∈ xs) (hs : Hh x = false) : Uj xs = false := by
  induction xs with
  | nil => cases h
  | cons y ys ih =>
    rw [Uj]
    rcases List.mem_cons.1 h with rfl | h
    · rw [hs]; rfl
    · rw [ih h, Bool.and_false]
theorem H8 {xs : List Tree} (h : ∀ j (hj : j < xs.length), Hh xs[j] = true) : Uj xs = true := by
  induction xs with
  | nil => rfl
  | cons y ys ih =>
    have h0 : Hh y = true := h 0 Ga
    rw [Uj, h0, Bool.true_and]
    exact ih (fun j hj => by have := h (j + 1) (by simpa using hj); simpa using this)
theorem WJ (k : Int) (t : Str) (ks : List Str) (xs : List Tree) (ih : ∀ x, x ∈ xs → HQ x) : HQ (.node k t ks xs) := by
 intro left deep S w0 cs h0 h1 h2 h3 hR
 obtain ⟨A, c, B, e, rfl, -, -, hK, hX⟩ := hR.tree_inv
 have hXl := hX.slice_len
 have hKl := hK.slice_len
 refine Ma func39 rfl ntmps39 Jb (Yi _ _ _) ?_
 have hF := FR.start w0 []
 refine Ka ?_
 refine Sj hF rfl ?_
 clear hF; rintro b1 w hb1 hF -
 refine Ca (Gc rfl) (Ea (Ia (Ka (Ca (Hb rfl) (Ca (X0 rfl rfl) (Ea ?_))))))
 refine Pc rfl rfl (fun hc0 => ?_) (fun hc0 => ?_)
 refine Ka (Ca (Gc rfl) (Ea ?_))
 refine Xd (v := .int .i64 ((-1))) rfl rfl ?_
 exact ⟨congrArg (Value.int .i64) (by rw [Ho, if_pos by_Om]), hF.same⟩
 refine Wa (Ha (Ka (Ca (Hb rfl) (Ca (Kr rfl rfl) (Ca (Kc Zj rfl) (Qd (Vi isAgg25 rfl hF.F 0 rfl rfl) (Ca (Qe underlying25 rfl) (Ca (Kr rfl rfl) (Ca (Gc rfl) (Ea (Ia ?_)))))))))))
 refine Ka (Ca (Gc rfl) (Ea (Va ?_)))
 refine Uc (fun μ σ w => ∃ (j : Nat), ∃ (lf : Int), μ = xs.length - j ∧ (j ≤ xs.length) ∧ (lf ≤ 1000000) ∧ (Fk (left - 1 - ks.length) deep xs = Fk lf deep (xs.drop j)) ∧ AllEq σ [(1, .int .i64 lf), (2, .int .i64 deep), (3, .pointer (some ⟨b1, 0, none⟩)), (7, .int .i64 ((j : Int)))] ∧ FR w0 [] [(b1, .cells #[.int .i64 k, .string (bs t), .slice A ks.length c, .slice B xs.length e] 27)] w) _ ⟨0, (left - 1 - ks.length), rfl, (Nat.zero_le _), by_Om, Ga, Gt, hF⟩ ?_
 clear hF; rintro μ σ w ⟨j, lf, rfl, hj, hlf, hf, hs, hF⟩
 refine Cg.slots hs ?_
 clear hs; intro σ
 refine Ia (Ka (Ca (Hb rfl) (Ca (Kc Ce rfl) (Qd (Vi isAgg22 rfl hF.F 0 rfl rfl) (Ca (Qe underlying22 rfl) (Ca (Nk rfl rfl) (Ca (Fd rfl) ?_)))))))
 refine Cd (d := 21) rfl (fun hg0 => ?_) (fun hg0 => ?_)
 refine Ca (Hb rfl) (Ca (CD rfl rfl) (Ca (Oc rfl rfl) (Ea ?_)))
 refine Pc rfl rfl (fun hc1 => ?_) (fun hc1 => ?_)
 refine Wa (Ha (Ia (Va (Da (Ca (Kc Ce rfl) (Qd (Vi isAgg22 rfl hF.F 0 rfl rfl) (Ca (Hb rfl) ?_)))))))
 obtain ⟨ad1, cs1, hA1, hl1, hk1, hx1⟩ := hX.tree_elem (i := j) by_Om
 have ho1 := hx1.one_
 refine Ja (v := .pointer (some (ad1.add (j * 4)))) (Oa (i := (j : Int)) Hi rfl hA1 rfl by_Om by_Om) (Ja (v := .agg (List.toArray cs1)) (Sb (l := cs1) isAgg27 sizeOf27 rfl hl1 (hF.cells0 hk1)) (Ca (Hb rfl) (Ca (Hb rfl) (Ca (Jn rfl rfl) ?_))))
 refine Pb hF (ih _ (List.getElem_mem (l := xs) (n := j) by_Om) lf (deep + 1) _ _ _ by_Om by_Om by_Om by_Om (hF.rep hx1)) (Dc MO rfl rfl rfl rfl) ?_
 clear hF; intro w hF
 refine Ca (Gc rfl) (Ya (Mb (Ha (Da (Ca (Hb rfl) (Ca (Jn rfl rfl) (Ca (Gc rfl) (Ya ?_))))))))
 refine Ic ⟨_, ?_, j + 1, Ho lf (deep + 1) xs[j], rfl, by_Om, (by have := GN xs[j] lf (deep + 1) by_Om; omega), (hf.trans (KB by_Om by_Om)), Gt, hF⟩
 omega
 refine Nc (Lc rfl ?_)
 refine Ha (Ka (Ca (Hb rfl) (Ca (Gc rfl) (Ea ?_))))
 refine Xd (v := .int .i64 lf) rfl rfl ?_
 refine ⟨congrArg (Value.int .i64) ?_, hF.same⟩
 rw [Ho, if_neg by_Om, hf]
 · first | (rw [List.drop_eq_nil_of_le by_Om, Fk]; done) | (rw [Hw by_Om])
 refine Sa (Sa (Ca (Jd rfl rfl) (Ea (Bg rfl ?_))))
 refine Nc (Lc rfl ?_)
 refine Ha (Ka (Ca (Hb rfl) (Ca (Gc rfl) (Ea ?_))))
 refine Xd (v := .int .i64 lf) rfl rfl ?_
 refine ⟨congrArg (Value.int .i64) ?_, hF.same⟩
 rw [Ho, if_neg by_Om, hf]
 · first | (rw [List.drop_eq_nil_of_le by_Om, Fk]; done) | (rw [Hw by_Om])
theorem LS (x : Tree) : HQ x := Tree.ind WJ x
theorem UB (k : Int) (t : Str) (ks : List Str) (xs : List Tree) (ih : ∀ x, x ∈ xs → IA x) : IA (.node k t ks xs) := by
  intro S w0 cs hR
  obtain ⟨A, c, B, e, rfl, -, -, hK, hX⟩ := hR.tree_inv
  have hXl := hX.slice_len
  have hKl := hK.slice_len
  refine Ma func40 rfl ntmps40 Jb (Ed _) ?_
  have hF := FR.start w0 []
  refine Ia ?_
  refine Da ?_
  refine Sj hF rfl ?_
  clear hF; intro b1 w hb1 hF hE
  clear hE
  refine Ca (Ec rfl) ?_
  refine Ya ?_
  refine Ha ?_
  refine Ia ?_
  refine Ia ?_
  refine Da ?_
  refine Ca (Kc Yh rfl) ?_
  refine Qd (Jx isAgg9 rfl hF.F 0 rfl rfl) ?_
  refine Ca (H9 underlying9 rfl) ?_
  refine Ca (X0 rfl rfl) ?_
  refine Ya ?_
  refine Ha ?_
  refine Pc rfl rfl (fun hc0 => ?_) (fun hc0 => ?_)
  ·
    refine Ia ?_
    refine Da ?_
    refine Ca (Ec rfl) ?_
    refine Ya ?_
    refine Ha ?_
    refine Xd (v := .bool false) rfl rfl ?_
    exact ⟨congrArg Value.bool (by rw [Hh, decide_eq_false by_Om]; rfl), hF.same⟩
  ·
    refine Wa ?_
    refine Ha ?_
    refine Ia ?_
    refine Ia ?_
    refine Da ?_
    refine Ca (Gc rfl) ?_
    refine Ya ?_
    refine Ha ?_
    refine Va ?_
    refine Uc (fun μ σ w => ∃ (j : Nat), μ = ks.length - j ∧ (j ≤ ks.length) ∧ (∀ i (hi : i < j) (hk : i < ks.length), ks[i].length ≤ 1024) ∧ AllEq σ [(1, .pointer (some ⟨b1, 0, none⟩)), (3, .int .i64 ((j : Int)))] ∧ FR w0 [] [(b1, .cells #[.int .i64 k, .string (bs t), .slice A ks.length c, .slice B xs.length e] 27)] w) _ ⟨0, rfl, (Nat.zero_le _), (fun i hi => absurd hi by_Om), O7, hF⟩ ?_
    clear hF; rintro μ σ w ⟨j, rfl, hj, ha, hs, hF⟩
    refine Cg.slots hs ?_
    clear hs; intro σ
    refine Ia ?_
    refine Ia ?_
    refine Da ?_
    refine Ca (Hb rfl) ?_
    refine Ca (Kc Zj rfl) ?_
    refine Qd (Vi isAgg25 rfl hF.F 0 rfl rfl) ?_
    refine Ca (Qe underlying25 rfl) ?_
    refine Ca (Nk rfl rfl) ?_
    refine Ya ?_
    refine Ha ?_
    refine Pc rfl rfl (fun hc1 => ?_) (fun hc1 => ?_)
    ·
      refine Wa ?_
      refine Ha ?_
      refine Ia ?_
      refine Va ?_
      refine Ia ?_
      refine Da ?_
      refine Ca (Kc Zj rfl) ?_
      refine Qd (Vi isAgg25 rfl hF.F 0 rfl rfl) ?_
      refine Ca (Hb rfl) ?_
      obtain ⟨ad0, hA0, hk0, hx0⟩ := hK.str_elem (i := j) by_Om
      refine Ja (v := .pointer (some (ad0.add (j * 1)))) (Oa (i := (j : Int)) Lw rfl hA0 rfl by_Om by_Om) ?_
      refine Ja (v := .string (bs (ks[j]))) (Cb isAgg9 rfl (hF.cell0 hk0)) ?_
      refine Ca (H9 underlying9 rfl) ?_
      refine Ca (X0 rfl rfl) ?_
      refine Ya ?_
      refine Ha ?_
      refine Pc rfl rfl (fun hc2 => ?_) (fun hc2 => ?_)
      ·
        refine Ia ?_
        refine Da ?_
        refine Ca (Ec rfl) ?_
        refine Ya ?_
        refine Ha ?_
        refine Xd (v := .bool false) rfl rfl ?_
        have hno : ks.all (fun k => decide (k.length ≤ 1024)) = false := by
          rw [Bool.eq_false_iff]; intro hall; have := List.all_eq_true.1 hall ks[j] (List.getElem_mem _); simp only [decide_eq_true_eq] at this; omega
        exact ⟨congrArg Value.bool (by rw [Hh, hno, Bool.and_false]; rfl), hF.same⟩
      ·
        refine Wa ?_
        refine Mb ?_
        refine Ha ?_
        refine Da ?_
        refine Ca (Hb rfl) ?_
        refine Ca (Jn rfl rfl) ?_
        refine Ca (Gc rfl) ?_
        refine Ya ?_
        refine Ic ⟨_, ?_, j + 1, rfl, by_Om, (fun i hi hk => by rcases Nat.lt_or_ge i j with h | h; exact ha i h hk; obtain rfl : i = j := by_Om; omega), O7, hF⟩
        omega
    ·
      refine Nc (Lc rfl ?_)
      refine Ha ?_
      refine Ia ?_
      refine Ia ?_
      refine Da ?_
      refine Ca (Gc rfl) ?_
      refine Ya ?_
      refine Ha ?_
      refine Va ?_
      refine Uc (fun μ σ w => ∃ (i : Nat), μ = xs.length - i ∧ (i ≤ xs.length) ∧ (∀ m (hm : m < i) (hk : m < xs.length), Hh xs[m] = true) ∧ AllEq σ [(1, .pointer (some ⟨b1, 0, none⟩)), (4, .int .i64 ((i : Int)))] ∧ FR w0 [] [(b1, .cells #[.int .i64 k, .string (bs t), .slice A ks.length c, .slice B xs.length e] 27)] w) _ ⟨0, rfl, (Nat.zero_le _), (fun i hi => absurd hi by_Om), O7, hF⟩ ?_
      clear hF; rintro μ σ w ⟨i, rfl, hi, hb, hs, hF⟩
      refine Cg.slots hs ?_
      clear hs; intro σ
      refine Ia ?_
      refine Ia ?_
      refine Da ?_
      refine Ca (Hb rfl) ?_
      refine Ca (Kc Ce rfl) ?_
      refine Qd (Vi isAgg22 rfl hF.F 0 rfl rfl) ?_
      refine Ca (Qe underlying22 rfl) ?_
      refine Ca (Nk rfl rfl) ?_
      refine Ya ?_
      refine Ha ?_
      refine Pc rfl rfl (fun hc3 => ?_) (fun hc3 => ?_)
      ·
        refine Wa ?_
        refine Ha ?_
        refine Ia ?_
        refine Va ?_
        refine Ia ?_
        refine Da ?_
        refine Ca (Kc Ce rfl) ?_
        refine Qd (Vi isAgg22 rfl hF.F 0 rfl rfl) ?_
        refine Ca (Hb rfl) ?_
        obtain ⟨ad1, cs1, hA1, hl1, hk1, hx1⟩ := hX.tree_elem (i := i) by_Om
        have ho1 := hx1.one_
        refine Ja (v := .pointer (some (ad1.add (i * 4)))) (Oa (i := (i : Int)) Hi rfl hA1 rfl by_Om by_Om) ?_
        refine Ja (v := .agg (List.toArray cs1)) (Sb (l := cs1) isAgg27 sizeOf27 rfl hl1 (hF.cells0 hk1)) ?_
        refine Pb hF (ih _ (List.getElem_mem (l := xs) (n := i) by_Om) _ _ _ (hF.rep hx1)) (Eb OO rfl rfl) ?_
        clear hF; intro w hF
        refine Ca (Ec rfl) ?_
        refine Ya ?_
        refine Ha ?_
        refine Ia ?_
        refine Da ?_
        refine Ca (Fd rfl) ?_
        refine Ca (Oo rfl) ?_
        refine Ya ?_
        refine Ha ?_
        refine Pj rfl rfl (fun hc4 => ?_) (fun hc4 => ?_)
        ·
          refine Ia ?_
          refine Da ?_
          refine Ca (Ec rfl) ?_
          refine Ya ?_
          refine Ha ?_
          refine Xd (v := .bool false) rfl rfl ?_
          exact ⟨congrArg Value.bool (by rw [Hh, U8 (List.getElem_mem (l := xs) (n := i) by_Om) (by simpa using hc4), Bool.and_false]), hF.same⟩
        ·
          refine Wa ?_
          refine Mb ?_
          refine Ha ?_
          refine Da ?_
          refine Ca (Hb rfl) ?_
          refine Ca (Jn rfl rfl) ?_
          refine Ca (Gc rfl) ?_
          refine Ya ?_
          refine Ic ⟨_, ?_, i + 1, rfl, by_Om, (fun m hm hk => by rcases Nat.lt_or_ge m i with h | h; exact hb m h hk; obtain rfl : m = i := by_Om; simpa using hc4), O7, hF⟩
          omega
      ·
        refine Nc (Lc rfl ?_)
        refine Ha ?_
        refine Ia ?_
        refine Da ?_
        refine Ca (Ec rfl) ?_
        refine Ya ?_
        refine Ha ?_
        refine Xd (v := .bool true) rfl rfl ?_
        have h1 : ks.all (fun k => decide (k.length ≤ 1024)) = true := by
          rw [List.all_eq_true]; intro k hk; obtain ⟨q, hq, rfl⟩ := List.getElem_of_mem hk; simp only [decide_eq_true_eq]; exact ha q by_Om hq
        exact ⟨congrArg Value.bool (by rw [Hh, h1, decide_eq_true by_Om, H8 (fun m hm => hb m by_Om hm)]; rfl), hF.same⟩
theorem HN (x : Tree) : IA x := Tree.ind UB x
theorem QT (x : Tree) (most : Int) (h0 : 0 ≤ most) (h1 : most ≤ 1000000) (S : Nat → Prop) (w0 : World) (cs : List Value) (hR : Rep S w0 (Sc x) cs) : Calls prog 23 #[.agg cs.toArray, .int .i64 most] w0 (Rd fun v w' => v = .bool (Ir x most) ∧ Same [] w0 w') := by
 have hl : cs.length = 4 := hR.length.trans (Tc x)
 have ho := hR.one_
 refine Ma func23 rfl ntmps23 Jb (Vd _ _) ?_
 have hF := FR.start w0 []
 refine Ka ?_
 refine Jj (v := .agg (List.toArray cs)) (cs := (List.toArray cs)) hF rfl rfl ?_
 clear hF; rintro b1 w hb1 hF -
 refine Ca (Ec rfl) (Cc (Ja (v := .agg (List.toArray cs)) (Sb (l := cs) isAgg27 sizeOf27 rfl hl (hF.cellsAll 0 rfl)) (Ca (Hb rfl) ?_)))
 refine Pb hF (LS x most 0 S _ cs h0 h1 by_Om by_Om (hF.rep hR)) (Dc MO rfl rfl rfl rfl) ?_
 clear hF; intro w hF
 refine Ca (Gc rfl) (Cc (Ca (Hb rfl) (Ca (CD rfl rfl) (Ca (Fd rfl) ?_))))
 refine Cd (d := 11) rfl (fun hg0 => ?_) (fun hg0 => ?_)
 refine Ja (v := .agg (List.toArray cs)) (Sb (l := cs) isAgg27 sizeOf27 rfl hl (hF.cellsAll 0 rfl)) ?_
 refine Pb hF (HN x S _ cs (hF.rep hR)) (Eb OO rfl rfl) ?_
 clear hF; intro w hF
 refine Ca (Oc rfl rfl) (Ca (Ec rfl) (Ea ?_))
 refine Xd (v := .bool _) rfl rfl ?_
 refine ⟨congrArg Value.bool ?_, hF.same⟩
 unfold Ir
 first | (rw [decide_eq_true hg0]; rfl) | (rw [decide_eq_false hg0]; rfl)
 refine Sa (Sa (Ca (Jd rfl rfl) (Ca (Ec rfl) (Ea ?_))))
 refine Xd (v := .bool false) rfl rfl ?_
 refine ⟨congrArg Value.bool ?_, hF.same⟩
 unfold Ir
 first | (rw [decide_eq_true hg0]; rfl) | (rw [decide_eq_false hg0]; rfl)
end Go.Scarf
namespace Go.Scarf
open Go.RowKit Go.Proofs Go.Proofs.Tryz
section
variable {P : Program} {w0 w w' : World} {ids : List Nat} {ds : List D}
theorem Ld {P : Program} {ρ : Operand → Value} {o : Oper} {w w' : World} {p : Prop} {_ : Decidable p} (h : (execOp ρ o).run P w = .ok (.value (.bool (decide p))) w') (hp : p) : (execOp ρ o).run P w = .ok (.value (.bool true)) w' := by rw [h, decide_eq_true hp]
theorem Sd {P : Program} {ρ : Operand → Value} {o : Oper} {w w' : World} {p : Prop} {_ : Decidable p} (h : (execOp ρ o).run P w = .ok (.value (.bool (decide p))) w') (hp : ¬ p) : (execOp ρ o).run P w = .ok (.value (.bool false)) w' := by rw [h, decide_eq_false hp]
theorem FR.rowX {bs : List (Nat × Obj)} (hF : FR w0 [] bs w) (i : Nat) {b n : Nat} {l : List Value} {T : TypeId} (hi : bs[i]? = some (b, .cells l.toArray T)) (hr : RX w0 ids w ds l) (hb : b ∉ ids) (hn : ds.length = n) (hm : n ≤ 9223372036854775807) :
    RX w0 ids w [.slice ds] [.slice (some ⟨b, 0, none⟩) n n] := by
  refine .one (Rep.slice_mk hn.symm (Nat.le_refl _) hm fun _ => ⟨_, rfl, l, fun j hj => ⟨?_, ?_⟩, hr⟩)
  · exact hF.cellsAll i hi j hj
  · exact ⟨hF.ge hi, hF.lt hi, hb, l.toArray, T, hF.heap hi⟩
theorem RX.tree {k : Int} {t : Str} {ks : List Str} {xs : List Tree} {v u : Value} (hk : -9223372036854775808 ≤ k ∧ k ≤ 9223372036854775807) (ht : t.length ≤ 9223372036854775807)
    (h3 : RX w0 ids w [Gf ks] [v]) (h4 : RX w0 ids w [.slice (Dd xs)] [u]) : RX w0 ids w [Sc (.node k t ks xs)] [.int .i64 k, .string (bs t), v, u] := .one (Rep.tree_mk hk ht h3.rep h4.rep)
theorem RX.nils {ids : List Nat} : RX w0 ids w [.slice []] [.slice none 0 0] := .one (Rep.nil_slice 0 by_Om none)
theorem RX.num (t : Str) (ht : t.length ≤ 9223372036854775807) : RX w0 ids w [Sc (.node 3 t [] [])] [.int .i64 3, .string (bs t), .slice none 0 0, .slice none 0 0] := RX.tree ⟨by omega, by omega⟩ ht RX.nils RX.nils
theorem RX.str (t : Str) (ht : t.length ≤ 9223372036854775807) : RX w0 ids w [Sc (.node 4 t [] [])] [.int .i64 4, .string (bs t), .slice none 0 0, .slice none 0 0] := RX.tree ⟨by omega, by omega⟩ ht RX.nils RX.nils
end
end Go.Scarf
