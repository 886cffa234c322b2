/- A part of the proof. -/
import Derived.Test.YtehigfneiofjnaaGreatDoorW16
set_option linter.all false
set_option maxHeartbeats 8000000
set_option maxRecDepth 10000
namespace Go.Scarf
open Go.RowKit Go.Proofs Go.Proofs.Tryz
mutual
def WQ : Tree → Tree → Bool
  | .node k t ks xs, .node k' t' ks' ys => decide (k = k') && decide (t = t') && decide (ks = ks') && EA xs ys
def EA : List Tree → List Tree → Bool
  | [], [] => true
  | x :: xs, y :: ys => WQ x y && EA xs ys
  | _, _ => false
end
theorem WC : ∀ {xs ys : List Tree}, (∀ x ∈ xs, ∀ y, WQ x y = true ↔ x = y) → (EA xs ys = true ↔ xs = ys)
  | [], [], _ => by simp [EA]
  | [], _ :: _, _ => by simp [EA]
  | _ :: _, [], _ => by simp [EA]
  | x :: xs, y :: ys, h => by
    rw [EA, Bool.and_eq_true, h x Sa y, WC (fun z hz => h z (by simp [hz]))]
    simp
theorem AC (x : Tree) : ∀ y, WQ x y = true ↔ x = y := Tree.ind (Q := fun x => ∀ y, WQ x y = true ↔ x = y) (fun k t ks xs ih y => by
  obtain ⟨k', t', ks', ys⟩ := y
  rw [WQ, Bool.and_eq_true, Bool.and_eq_true, Bool.and_eq_true, WC ih]
  simp [and_assoc]) x
instance : DecidableEq Tree := fun x y => if h : WQ x y = true then .isTrue ((AC x y).1 h) else .isFalse (fun e => h ((AC x y).2 e))
mutual
def Zo (left deep : Int) : Tree → Int | .node _ _ ks xs => if 60 < deep then -1 else Zk (left - 1 - ks.length) deep xs
def Zk (left deep : Int) : List Tree → Int | [] => left | x :: xs => if left < 0 then left else Zk (Zo left (deep + 1) x) deep xs
end
mutual
def Zj : Tree → Bool | .node _ t ks xs => decide (t.length ≤ 2048) && ks.all (fun k => decide (k.length ≤ 1024)) && Ao xs
def Ao : List Tree → Bool | [] => true | x :: xs => Zj x && Ao xs
end
def Mw (x : Tree) (most : Int) : Bool := decide (0 ≤ Zo most 0 x) && Zj x
theorem X7 (deep : Int) : ∀ (xs : List Tree) (left : Int), (∀ x ∈ xs, ∀ l d : Int, 0 ≤ l → Zo l d x ≤ l) → Zk left deep xs ≤ left
  | [], left, _ => by rw [Zk]; exact Int.le_refl _
  | x :: xs, left, h => by
    rw [Zk]
    split
    · exact Int.le_refl _
    · have h1 := h x Sa left (deep + 1) by_Om
      have h2 := X7 deep xs (Zo left (deep + 1) x) (fun y hy => h y (by simp [hy]))
      omega
theorem DL (x : Tree) : ∀ l d : Int, 0 ≤ l → Zo l d x ≤ l := Tree.ind (Q := fun x => ∀ l d : Int, 0 ≤ l → Zo l d x ≤ l) (fun k t ks xs ih l d hl => by
  rw [Zo]
  split
  · omega
  · have := X7 d xs (l - 1 - ks.length) ih
    omega) x
theorem Tw {left deep : Int} (h : left < 0) : ∀ xs : List Tree, Zk left deep xs = left
  | [] => by rw [Zk]
  | x :: xs => by rw [Zk, if_pos h]
theorem W8 (x : Tree) : ∀ l d : Int, 0 ≤ l → 0 ≤ d → 0 ≤ Zo l d x → Zo l d x = l - Ec x - Jo x ∧ d + Wc x ≤ 61 := Tree.ind (Q := fun x => ∀ l d : Int, 0 ≤ l → 0 ≤ d → 0 ≤ Zo l d x → Zo l d x = l - Ec x - Jo x ∧ d + Wc x ≤ 61) (fun k t ks xs ih l d hl hd h => by
  rw [Zo] at h ⊢
  split at h
  · omega
  · rename_i hd60
    rw [if_neg hd60]
    have key : ∀ (ys : List Tree), (∀ y ∈ ys, y ∈ xs) → ∀ m : Int, 0 ≤ Zk m d ys → Zk m d ys = m - Zc ys - Hm ys ∧ d + 1 + Hd ys ≤ 61 := by
      intro ys
      induction ys with
      | nil => intro _ m hm; simp only [Zk, Zc, Hm, Hd]; omega
      | cons y ys ihy =>
        intro hm m h0
        rw [Zk] at h0 ⊢
        split at h0
        · omega
        · rename_i hmm
          rw [if_neg hmm]
          obtain ⟨a1, a2⟩ := ihy (fun z hz => hm z (by simp [hz])) _ h0
          have h3 : 0 ≤ Zo m (d + 1) y := by
            rcases Int.lt_or_le (Zo m (d + 1) y) 0 with hlt | hge
            · rw [Tw hlt] at h0; omega
            · exact hge
          obtain ⟨b1, b2⟩ := ih y (hm y Sa) m (d + 1) by_Om by_Om h3
          simp only [Zc, Hm, Hd]
          omega
    obtain ⟨a1, a2⟩ := key xs (fun _ h => h) _ h
    rw [Ec, Jo, Wc]
    omega) x
theorem Zn {x : Tree} {most : Int} (hm : 0 ≤ most) (h : Mw x most = true) : (Ec x : Int) + Jo x ≤ most ∧ Wc x ≤ 61 ∧ Zj x = true := by
  unfold Mw at h
  rw [Bool.and_eq_true, decide_eq_true_eq] at h
  obtain ⟨a, b⟩ := W8 x most 0 hm by_Om h.1
  exact ⟨by omega, by omega, h.2⟩
theorem AA {left deep : Int} {xs : List Tree} {j : Nat} (h : j < xs.length) (h0 : ¬ left < 0) : Zk left deep (xs.drop j) = Zk (Zo left (deep + 1) xs[j]) deep (xs.drop (j + 1)) := by
  rw [List.drop_eq_getElem_cons h, Zk, if_neg h0]
def MO (x : Tree) : Prop := ∀ (left deep : Int) S w0 cs, 0 ≤ left → left ≤ 1000000 → 0 ≤ deep → deep ≤ 61 → Rep S w0 (Gc x) cs → Calls prog 12 #[.agg cs.toArray, .int .i64 left, .int .i64 deep] w0 (Ce fun v w' => v = .int .i64 (Zo left deep x) ∧ Same [] w0 w')
def I9 (x : Tree) : Prop := ∀ S w0 cs, Rep S w0 (Gc x) cs → Calls prog 13 #[.agg cs.toArray] w0 (Ce fun v w' => v = .bool (Zj x) ∧ Same [] w0 w')
theorem B6 {xs : List Tree} {x : Tree} (h : x ∈ xs) (hs : Zj x = false) : Ao xs = false := by
  induction xs with
  | nil => cases h
  | cons y ys ih =>
    rw [Ao]
    rcases List.mem_cons.1 h with rfl | h
    · rw [hs]; rfl
    · rw [ih h, Bool.and_false]
theorem E7 {xs : List Tree} (h : ∀ j (hj : j < xs.length), Zj xs[j] = true) : Ao xs = true := by
  induction xs with
  | nil => rfl
  | cons y ys ih =>
    have h0 : Zj y = true := h 0 Sa
    rw [Ao, h0, Bool.true_and]
    exact ih (fun j hj => by have := h (j + 1) (by simpa using hj); simpa using this)
theorem UJ (k : Int) (t : Str) (ks : List Str) (xs : List Tree) (ih : ∀ x, x ∈ xs → MO x) : MO (.node k t ks xs) := by
 intro left deep S w0 cs h0 h1 h2 h3 hR
 obtain ⟨A, c, B, e, rfl, -, -, hK, hX⟩ := hR.tree_inv
 have hXl := hX.slice_len
 have hKl := hK.slice_len
 refine Ma func12 rfl ntmps12 Qb (Bw _ _ _) ?_
 have hF := FR.start w0 []
 refine Ha ?_
 refine Bh hF rfl ?_
 clear hF; rintro b1 w hb1 hF -
 refine Ca (Kb rfl) (Da (Ia (Ha (Ca (Za rfl) (Ca (Gn rfl rfl) (Da ?_))))))
 refine Bc rfl rfl (fun hc0 => ?_) (fun hc0 => ?_)
 refine Ha (Ca (Kb rfl) (Da ?_))
 refine Ud (v := .int .i64 ((-1))) rfl rfl ?_
 exact ⟨congrArg (Value.int .i64) (by rw [Zo, if_pos by_Om]), hF.same⟩
 refine Ra (Ja (Ha (Ca (Za rfl) (Ca (Jn rfl rfl) (Ca (Fc Nf rfl) (Uc (Mf isAgg22 rfl hF.F 0 rfl rfl) (Ca (Ji underlying22 rfl) (Ca (Jn rfl rfl) (Ca (Kb rfl) (Da (Ia ?_)))))))))))
 refine Ha (Ca (Kb rfl) (Da (Db ?_)))
 refine Xc (fun μ σ w => ∃ (j : Nat), ∃ (lf : Int), μ = xs.length - j ∧ (j ≤ xs.length) ∧ (lf ≤ 1000000) ∧ (Zk (left - 1 - ks.length) deep xs = Zk lf deep (xs.drop j)) ∧ AllEq σ [(1, .int .i64 lf), (2, .int .i64 deep), (3, .pointer (some ⟨b1, 0, none⟩)), (7, .int .i64 ((j : Int)))] ∧ FR w0 [] [(b1, .cells #[.int .i64 k, .string (bs t), .slice A ks.length c, .slice B xs.length e] 25)] w) _ ⟨0, (left - 1 - ks.length), rfl, (Nat.zero_le _), by_Om, Sa, An, hF⟩ ?_
 clear hF; rintro μ σ w ⟨j, lf, rfl, hj, hlf, hf, hs, hF⟩
 refine Cg.slots hs ?_
 clear hs; intro σ
 refine Ia (Ha (Ca (Za rfl) (Ca (Fc Vc rfl) (Uc (Mf isAgg23 rfl hF.F 0 rfl rfl) (Ca (Ji underlying23 rfl) (Ca (Fj rfl rfl) (Ca (Jc rfl) ?_)))))))
 refine Mb (d := 21) rfl (fun hg0 => ?_) (fun hg0 => ?_)
 refine Ca (Za rfl) (Ca (Zv rfl rfl) (Ca (Lc rfl rfl) (Da ?_)))
 refine Bc rfl rfl (fun hc1 => ?_) (fun hc1 => ?_)
 refine Ra (Ja (Ia (Db (Ga (Ca (Fc Vc rfl) (Uc (Mf isAgg23 rfl hF.F 0 rfl rfl) (Ca (Za rfl) ?_)))))))
 obtain ⟨ad1, cs1, hA1, hl1, hk1, hx1⟩ := hX.tree_elem (i := j) by_Om
 have ho1 := hx1.one_
 refine Fa (v := .pointer (some (ad1.add (j * 4)))) (Ya (i := (j : Int)) Sj rfl hA1 rfl by_Om by_Om) (Fa (v := .agg (List.toArray cs1)) (Rb (l := cs1) isAgg25 sizeOf25 rfl hl1 (hF.cells0 hk1)) (Ca (Za rfl) (Ca (Za rfl) (Ca (El rfl rfl) ?_))))
 refine Va hF (ih _ (List.getElem_mem (l := xs) (n := j) by_Om) lf (deep + 1) _ _ _ by_Om by_Om by_Om by_Om (hF.rep hx1)) (Ff OM rfl rfl rfl rfl) ?_
 clear hF; intro w hF
 refine Ca (Kb rfl) (Cb (Wb (Ja (Ga (Ca (Za rfl) (Ca (El rfl rfl) (Ca (Kb rfl) (Cb ?_))))))))
 refine Gb ⟨_, ?_, j + 1, Zo lf (deep + 1) xs[j], rfl, by_Om, (by have := DL xs[j] lf (deep + 1) by_Om; omega), (hf.trans (AA by_Om by_Om)), An, hF⟩
 omega
 refine Oc (Nc rfl ?_)
 refine Ja (Ha (Ca (Za rfl) (Ca (Kb rfl) (Da ?_))))
 refine Ud (v := .int .i64 lf) rfl rfl ?_
 refine ⟨congrArg (Value.int .i64) ?_, hF.same⟩
 rw [Zo, if_neg by_Om, hf]
 · first | (rw [List.drop_eq_nil_of_le by_Om, Zk]; done) | (rw [Tw by_Om])
 refine Ea (Ea (Ca (Dc rfl rfl) (Da (Xe rfl ?_))))
 refine Oc (Nc rfl ?_)
 refine Ja (Ha (Ca (Za rfl) (Ca (Kb rfl) (Da ?_))))
 refine Ud (v := .int .i64 lf) rfl rfl ?_
 refine ⟨congrArg (Value.int .i64) ?_, hF.same⟩
 rw [Zo, if_neg by_Om, hf]
 · first | (rw [List.drop_eq_nil_of_le by_Om, Zk]; done) | (rw [Tw by_Om])
theorem DS (x : Tree) : MO x := Tree.ind UJ x
theorem Q9 (k : Int) (t : Str) (ks : List Str) (xs : List Tree) (ih : ∀ x, x ∈ xs → I9 x) : I9 (.node k t ks xs) := by
  intro S w0 cs hR
  obtain ⟨A, c, B, e, rfl, -, -, hK, hX⟩ := hR.tree_inv
  have hXl := hX.slice_len
  have hKl := hK.slice_len
  refine Ma func13 rfl ntmps13 Qb (Rc _) ?_
  have hF := FR.start w0 []
  refine Ia ?_
  refine Ga ?_
  refine Bh hF rfl ?_
  clear hF; intro b1 w hb1 hF hE
  clear hE
  refine Ca (Cc rfl) ?_
  refine Cb ?_
  refine Ja ?_
  refine Ia ?_
  refine Ia ?_
  refine Ga ?_
  refine Ca (Fc Pf rfl) ?_
  refine Uc (Ko isAgg9 rfl hF.F 0 rfl rfl) ?_
  refine Ca (Hk underlying9 rfl) ?_
  refine Ca (Gn rfl rfl) ?_
  refine Cb ?_
  refine Ja ?_
  refine Bc rfl rfl (fun hc0 => ?_) (fun hc0 => ?_)
  ·
    refine Ia ?_
    refine Ga ?_
    refine Ca (Cc rfl) ?_
    refine Cb ?_
    refine Ja ?_
    refine Ud (v := .bool false) rfl rfl ?_
    exact ⟨congrArg Value.bool (by rw [Zj, decide_eq_false by_Om]; rfl), hF.same⟩
  ·
    refine Ra ?_
    refine Ja ?_
    refine Ia ?_
    refine Ia ?_
    refine Ga ?_
    refine Ca (Kb rfl) ?_
    refine Cb ?_
    refine Ja ?_
    refine Db ?_
    refine Xc (fun μ σ w => ∃ (j : Nat), μ = ks.length - j ∧ (j ≤ ks.length) ∧ (∀ i (hi : i < j) (hk : i < ks.length), ks[i].length ≤ 1024) ∧ AllEq σ [(1, .pointer (some ⟨b1, 0, none⟩)), (3, .int .i64 ((j : Int)))] ∧ FR w0 [] [(b1, .cells #[.int .i64 k, .string (bs t), .slice A ks.length c, .slice B xs.length e] 25)] w) _ ⟨0, rfl, (Nat.zero_le _), (fun i hi => absurd hi by_Om), Nv, hF⟩ ?_
    clear hF; rintro μ σ w ⟨j, rfl, hj, ha, hs, hF⟩
    refine Cg.slots hs ?_
    clear hs; intro σ
    refine Ia ?_
    refine Ia ?_
    refine Ga ?_
    refine Ca (Za rfl) ?_
    refine Ca (Fc Nf rfl) ?_
    refine Uc (Mf isAgg22 rfl hF.F 0 rfl rfl) ?_
    refine Ca (Ji underlying22 rfl) ?_
    refine Ca (Fj rfl rfl) ?_
    refine Cb ?_
    refine Ja ?_
    refine Bc rfl rfl (fun hc1 => ?_) (fun hc1 => ?_)
    ·
      refine Ra ?_
      refine Ja ?_
      refine Ia ?_
      refine Db ?_
      refine Ia ?_
      refine Ga ?_
      refine Ca (Fc Nf rfl) ?_
      refine Uc (Mf isAgg22 rfl hF.F 0 rfl rfl) ?_
      refine Ca (Za rfl) ?_
      obtain ⟨ad0, hA0, hk0, hx0⟩ := hK.str_elem (i := j) by_Om
      refine Fa (v := .pointer (some (ad0.add (j * 1)))) (Ya (i := (j : Int)) Pj rfl hA0 rfl by_Om by_Om) ?_
      refine Fa (v := .string (bs (ks[j]))) (Vb isAgg9 rfl (hF.cell0 hk0)) ?_
      refine Ca (Hk underlying9 rfl) ?_
      refine Ca (Gn rfl rfl) ?_
      refine Cb ?_
      refine Ja ?_
      refine Bc rfl rfl (fun hc2 => ?_) (fun hc2 => ?_)
      ·
        refine Ia ?_
        refine Ga ?_
        refine Ca (Cc rfl) ?_
        refine Cb ?_
        refine Ja ?_
        refine Ud (v := .bool false) rfl rfl ?_
        have hno : ks.all (fun k => decide (k.length ≤ 1024)) = false := by
          rw [Bool.eq_false_iff]; intro hall; have := List.all_eq_true.1 hall ks[j] (List.getElem_mem _); simp only [decide_eq_true_eq] at this; omega
        exact ⟨congrArg Value.bool (by rw [Zj, hno, Bool.and_false]; rfl), hF.same⟩
      ·
        refine Ra ?_
        refine Wb ?_
        refine Ja ?_
        refine Ga ?_
        refine Ca (Za rfl) ?_
        refine Ca (El rfl rfl) ?_
        refine Ca (Kb rfl) ?_
        refine Cb ?_
        refine Gb ⟨_, ?_, j + 1, rfl, by_Om, (fun i hi hk => by rcases Nat.lt_or_ge i j with h | h; exact ha i h hk; obtain rfl : i = j := by_Om; omega), Nv, hF⟩
        omega
    ·
      refine Oc (Nc rfl ?_)
      refine Ja ?_
      refine Ia ?_
      refine Ia ?_
      refine Ga ?_
      refine Ca (Kb rfl) ?_
      refine Cb ?_
      refine Ja ?_
      refine Db ?_
      refine Xc (fun μ σ w => ∃ (i : Nat), μ = xs.length - i ∧ (i ≤ xs.length) ∧ (∀ m (hm : m < i) (hk : m < xs.length), Zj xs[m] = true) ∧ AllEq σ [(1, .pointer (some ⟨b1, 0, none⟩)), (4, .int .i64 ((i : Int)))] ∧ FR w0 [] [(b1, .cells #[.int .i64 k, .string (bs t), .slice A ks.length c, .slice B xs.length e] 25)] w) _ ⟨0, rfl, (Nat.zero_le _), (fun i hi => absurd hi by_Om), Nv, hF⟩ ?_
      clear hF; rintro μ σ w ⟨i, rfl, hi, hb, hs, hF⟩
      refine Cg.slots hs ?_
      clear hs; intro σ
      refine Ia ?_
      refine Ia ?_
      refine Ga ?_
      refine Ca (Za rfl) ?_
      refine Ca (Fc Vc rfl) ?_
      refine Uc (Mf isAgg23 rfl hF.F 0 rfl rfl) ?_
      refine Ca (Ji underlying23 rfl) ?_
      refine Ca (Fj rfl rfl) ?_
      refine Cb ?_
      refine Ja ?_
      refine Bc rfl rfl (fun hc3 => ?_) (fun hc3 => ?_)
      ·
        refine Ra ?_
        refine Ja ?_
        refine Ia ?_
        refine Db ?_
        refine Ia ?_
        refine Ga ?_
        refine Ca (Fc Vc rfl) ?_
        refine Uc (Mf isAgg23 rfl hF.F 0 rfl rfl) ?_
        refine Ca (Za rfl) ?_
        obtain ⟨ad1, cs1, hA1, hl1, hk1, hx1⟩ := hX.tree_elem (i := i) by_Om
        have ho1 := hx1.one_
        refine Fa (v := .pointer (some (ad1.add (i * 4)))) (Ya (i := (i : Int)) Sj rfl hA1 rfl by_Om by_Om) ?_
        refine Fa (v := .agg (List.toArray cs1)) (Rb (l := cs1) isAgg25 sizeOf25 rfl hl1 (hF.cells0 hk1)) ?_
        refine Va hF (ih _ (List.getElem_mem (l := xs) (n := i) by_Om) _ _ _ (hF.rep hx1)) (Ua AN rfl rfl) ?_
        clear hF; intro w hF
        refine Ca (Cc rfl) ?_
        refine Cb ?_
        refine Ja ?_
        refine Ia ?_
        refine Ga ?_
        refine Ca (Jc rfl) ?_
        refine Ca (Dm rfl) ?_
        refine Cb ?_
        refine Ja ?_
        refine Vh rfl rfl (fun hc4 => ?_) (fun hc4 => ?_)
        ·
          refine Ia ?_
          refine Ga ?_
          refine Ca (Cc rfl) ?_
          refine Cb ?_
          refine Ja ?_
          refine Ud (v := .bool false) rfl rfl ?_
          exact ⟨congrArg Value.bool (by rw [Zj, B6 (List.getElem_mem (l := xs) (n := i) by_Om) (by simpa using hc4), Bool.and_false]), hF.same⟩
        ·
          refine Ra ?_
          refine Wb ?_
          refine Ja ?_
          refine Ga ?_
          refine Ca (Za rfl) ?_
          refine Ca (El rfl rfl) ?_
          refine Ca (Kb rfl) ?_
          refine Cb ?_
          refine Gb ⟨_, ?_, i + 1, rfl, by_Om, (fun m hm hk => by rcases Nat.lt_or_ge m i with h | h; exact hb m h hk; obtain rfl : m = i := by_Om; simpa using hc4), Nv, hF⟩
          omega
      ·
        refine Oc (Nc rfl ?_)
        refine Ja ?_
        refine Ia ?_
        refine Ga ?_
        refine Ca (Cc rfl) ?_
        refine Cb ?_
        refine Ja ?_
        refine Ud (v := .bool true) rfl rfl ?_
        have h1 : ks.all (fun k => decide (k.length ≤ 1024)) = true := by
          rw [List.all_eq_true]; intro k hk; obtain ⟨q, hq, rfl⟩ := List.getElem_of_mem hk; simp only [decide_eq_true_eq]; exact ha q by_Om hq
        exact ⟨congrArg Value.bool (by rw [Zj, h1, decide_eq_true by_Om, E7 (fun m hm => hb m by_Om hm)]; rfl), hF.same⟩
theorem ML (x : Tree) : I9 x := Tree.ind Q9 x
theorem Qx (x : Tree) (most : Int) (h0 : 0 ≤ most) (h1 : most ≤ 1000000) (S : Nat → Prop) (w0 : World) (cs : List Value) (hR : Rep S w0 (Gc x) cs) : Calls prog 5 #[.agg cs.toArray, .int .i64 most] w0 (Ce fun v w' => v = .bool (Mw x most) ∧ Same [] w0 w') := by
 have hl : cs.length = 4 := hR.length.trans (Ac x)
 have ho := hR.one_
 refine Ma func5 rfl ntmps5 Qb (Wd _ _) ?_
 have hF := FR.start w0 []
 refine Ha ?_
 refine Vf (v := .agg (List.toArray cs)) (cs := (List.toArray cs)) hF rfl rfl ?_
 clear hF; rintro b1 w hb1 hF -
 refine Ca (Cc rfl) (Yb (Fa (v := .agg (List.toArray cs)) (Rb (l := cs) isAgg25 sizeOf25 rfl hl (hF.cellsAll 0 rfl)) (Ca (Za rfl) ?_)))
 refine Va hF (DS x most 0 S _ cs h0 h1 by_Om by_Om (hF.rep hR)) (Ff OM rfl rfl rfl rfl) ?_
 clear hF; intro w hF
 refine Ca (Kb rfl) (Yb (Ca (Za rfl) (Ca (Zv rfl rfl) (Ca (Jc rfl) ?_))))
 refine Mb (d := 11) rfl (fun hg0 => ?_) (fun hg0 => ?_)
 refine Fa (v := .agg (List.toArray cs)) (Rb (l := cs) isAgg25 sizeOf25 rfl hl (hF.cellsAll 0 rfl)) ?_
 refine Va hF (ML x S _ cs (hF.rep hR)) (Ua AN rfl rfl) ?_
 clear hF; intro w hF
 refine Ca (Lc rfl rfl) (Ca (Cc rfl) (Da ?_))
 refine Ud (v := .bool _) rfl rfl ?_
 refine ⟨congrArg Value.bool ?_, hF.same⟩
 unfold Mw
 first | (rw [decide_eq_true hg0]; rfl) | (rw [decide_eq_false hg0]; rfl)
 refine Ea (Ea (Ca (Dc rfl rfl) (Ca (Cc rfl) (Da ?_))))
 refine Ud (v := .bool false) rfl rfl ?_
 refine ⟨congrArg Value.bool ?_, hF.same⟩
 unfold Mw
 first | (rw [decide_eq_true hg0]; rfl) | (rw [decide_eq_false hg0]; rfl)
theorem Ys (A : Option Addr) (n c : Nat) (w0 : World) : Calls prog 10 #[.slice A n c] w0 (Ce fun v w' => v = .agg #[.int .i64 5, .string (bs []), .slice none 0 0, .slice A n c] ∧ Same [] w0 w') := by
 refine Ma func10 rfl ntmps10 Qb (Rc _) ?_
 have hF := FR.start w0 []
 refine Ha ?_
 refine Af (cs := #[.int .i64 0, .string (bs []), .slice none 0 0, .slice none 0 0]) hF zeroValue25 rfl ?_
 clear hF; rintro b1 w hb1 hF -
 refine Yb (Ca (No rfl) ?_)
 refine Fa (w' := w) (v := .agg #[.int .i64 5, .string (bs []), .slice none 0 0, .slice A n c]) Fb ?_
 refine Ij hF sizeOf25 rfl rfl Dl ?_
 clear hF; rintro w hF -
 refine Da ?_
 refine Pb (Ob (Qa (Qk rfl (l := [.int .i64 5, .string (bs []), .slice none 0 0, .slice A n c]) rfl isAgg25 sizeOf25 rfl (hF.cellsAll 0 rfl)) ?_))
 exact ⟨rfl, hF.same⟩
theorem Cd (A : Option Addr) (n c : Nat) (B : Option Addr) (m d : Nat) (w0 : World) : Calls prog 11 #[.slice A n c, .slice B m d] w0 (Ce fun v w' => v = .agg #[.int .i64 6, .string (bs []), .slice A n c, .slice B m d] ∧ Same [] w0 w') := by
 refine Ma func11 rfl ntmps11 Qb (Wd _ _) ?_
 have hF := FR.start w0 []
 refine Ha ?_
 refine Af (cs := #[.int .i64 0, .string (bs []), .slice none 0 0, .slice none 0 0]) hF zeroValue25 rfl ?_
 clear hF; rintro b1 w hb1 hF -
 refine Yb (Ca (No rfl) (Ca (No rfl) ?_))
 refine Fa (w' := w) (v := .agg #[.int .i64 6, .string (bs []), .slice A n c, .slice B m d]) Fb ?_
 refine Ij hF sizeOf25 rfl rfl Dl ?_
 clear hF; rintro w hF -
 refine Da ?_
 refine Pb (Ob (Qa (Qk rfl (l := [.int .i64 6, .string (bs []), .slice A n c, .slice B m d]) rfl isAgg25 sizeOf25 rfl (hF.cellsAll 0 rfl)) ?_))
 exact ⟨rfl, hF.same⟩
end Go.Scarf
namespace Go.Scarf
open Go.RowKit Go.Proofs Go.Proofs.Tryz
section
variable {P : Program} {w0 w w' : World} {ids : List Nat} {ds : List D}
theorem Sc {P : Program} {ρ : Operand → Value} {o : Oper} {w w' : World} {p : Prop} {_ : Decidable p} (h : (execOp ρ o).run P w = .ok (.value (.bool (decide p))) w') (hp : p) : (execOp ρ o).run P w = .ok (.value (.bool true)) w' := by rw [h, decide_eq_true hp]
theorem Dd {P : Program} {ρ : Operand → Value} {o : Oper} {w w' : World} {p : Prop} {_ : Decidable p} (h : (execOp ρ o).run P w = .ok (.value (.bool (decide p))) w') (hp : ¬ p) : (execOp ρ o).run P w = .ok (.value (.bool false)) w' := by rw [h, decide_eq_false hp]
theorem FR.rowX {bs : List (Nat × Obj)} (hF : FR w0 [] bs w) (i : Nat) {b n : Nat} {l : List Value} {T : TypeId} (hi : bs[i]? = some (b, .cells l.toArray T)) (hr : RX w0 ids w ds l) (hb : b ∉ ids) (hn : ds.length = n) (hm : n ≤ 9223372036854775807) :
    RX w0 ids w [.slice ds] [.slice (some ⟨b, 0, none⟩) n n] := by
  refine .one (Rep.slice_mk hn.symm (Nat.le_refl _) hm fun _ => ⟨_, rfl, l, fun j hj => ⟨?_, ?_⟩, hr⟩)
  · exact hF.cellsAll i hi j hj
  · exact ⟨hF.ge hi, hF.lt hi, hb, l.toArray, T, hF.heap hi⟩
theorem RX.tree {k : Int} {t : Str} {ks : List Str} {xs : List Tree} {v u : Value} (hk : -9223372036854775808 ≤ k ∧ k ≤ 9223372036854775807) (ht : t.length ≤ 9223372036854775807)
    (h3 : RX w0 ids w [We ks] [v]) (h4 : RX w0 ids w [.slice (Je xs)] [u]) : RX w0 ids w [Gc (.node k t ks xs)] [.int .i64 k, .string (bs t), v, u] := .one (Rep.tree_mk hk ht h3.rep h4.rep)
theorem RX.nils {ids : List Nat} : RX w0 ids w [.slice []] [.slice none 0 0] := .one (Rep.nil_slice 0 by_Om none)
theorem RX.strs : ∀ {ks : List Str}, (∀ k ∈ ks, k.length ≤ 9223372036854775807) → RX w0 ids w (ks.map Wn) (ks.map fun k => .string (bs k))
  | [], _ => RX.nil
  | k :: ks, h => RepL.cons_mk (Rep.lit_mk (v := .string (bs k)) (h k Sa)) (RX.strs (fun x hx => h x (by simp [hx])))
theorem RX.num (t : Str) (ht : t.length ≤ 9223372036854775807) : RX w0 ids w [Gc (.node 3 t [] [])] [.int .i64 3, .string (bs t), .slice none 0 0, .slice none 0 0] := RX.tree ⟨by omega, by omega⟩ ht RX.nils RX.nils
theorem RX.str (t : Str) (ht : t.length ≤ 9223372036854775807) : RX w0 ids w [Gc (.node 4 t [] [])] [.int .i64 4, .string (bs t), .slice none 0 0, .slice none 0 0] := RX.tree ⟨by omega, by omega⟩ ht RX.nils RX.nils
end
end Go.Scarf
