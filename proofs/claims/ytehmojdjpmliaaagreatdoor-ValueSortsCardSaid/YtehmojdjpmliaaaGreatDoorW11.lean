/- A part of the proof. -/
import Derived.Test.YtehmojdjpmliaaaGreatDoorW10
set_option linter.all false
namespace Go.Scarf
open Go.RowKit Go.Proofs
def lookT : List Str → List Tree → Str → Option Tree
  | k :: ks, x :: xs, key => if k = key then some x else lookT ks xs key
  | _, _, _ => none
def memB (q : Tree → Tree → Bool) (ks : List Str) (xs : List Tree) (ks' : List Str) (ys : List Tree) : Bool :=
  (ks.zip xs).all fun p => match lookT ks' ys p.1 with | some y => q p.2 y | none => false
theorem MapRep.tail {S : Nat → Prop} {w : World} {x : Tree} {xs : List Tree} {p : Str × Value} {l : MapL} (h : MapRep S w (x :: xs) (p :: l)) : MapRep S w xs l := by
  intro i hi
  obtain ⟨cs, h1, h2, h3⟩ := h (i + 1) (by simpa using hi)
  exact ⟨cs, by simpa using h1, by simpa using h2, by simpa using h3⟩
theorem lookM_tree {S : Nat → Prop} {w : World} (key : Str) : ∀ {ks : List Str} {xs : List Tree} {l : MapL}, l.map (·.1) = ks → MapRep S w xs l →
    (lookM l key = none ∧ lookT ks xs key = none) ∨ ∃ (cs : List Value) (y : Tree), lookM l key = some (.agg cs.toArray) ∧ lookT ks xs key = some y ∧ y ∈ xs ∧ Rep S w (treeD y) cs
  | ks, xs, [], hk, _ => by
    left
    simp only [List.map_nil] at hk
    subst hk
    exact ⟨rfl, by cases xs <;> rfl⟩
  | ks, [], p :: l, hk, hm => by
    obtain ⟨cs, h1, h2, h3⟩ := hm 0 (by simp)
    simp at h2
  | ks, x :: xs, p :: l, hk, hm => by
    rw [List.map_cons] at hk
    subst hk
    by_cases h : p.1 = key
    · right
      obtain ⟨cs, h1, h2, h3⟩ := hm 0 (by simp)
      refine ⟨cs, x, ?_, by simp [lookT, h], by simp, h3⟩
      simp only [List.getElem_cons_zero] at h1
      simp [lookM, h, h1]
    · have e1 : lookM (p :: l) key = lookM l key := by simp [lookM, h]
      have e2 : lookT (p.1 :: l.map (·.1)) (x :: xs) key = lookT (l.map (·.1)) xs key := by simp [lookT, h]
      rw [e1, e2]
      rcases lookM_tree key rfl hm.tail with h | ⟨cs, y, h1, h2, h3, h4⟩
      · exact .inl h
      · exact .inr ⟨cs, y, h1, h2, by simp [h3], h4⟩
def BothC (w0 : World) (g : Nat) (xs ys : List Tree) (q : Tree → Tree → Bool) : Prop := ∀ x, x ∈ xs → ∀ y, y ∈ ys → ∀ S S' w cs ct, Same [] w0 w → Rep S w (treeD x) cs → Rep S' w (treeD y) ct → Calls Tryz.prog g #[.agg cs.toArray, .agg ct.toArray] w (Ret fun v w' => v = .bool (q x y) ∧ Same [] w w')
theorem BothC.ext {w0 w : World} {g : Nat} {xs ys : List Tree} {q : Tree → Tree → Bool} (h : BothC w0 g xs ys q) (hs : Same [] w0 w) : BothC w g xs ys q := fun x hx y hy S S' w' cs ct hw => h x hx y hy S S' w' cs ct (hs.trans hw)
def okAt (q : Tree → Tree → Bool) (ks : List Str) (xs : List Tree) (ks' : List Str) (ys : List Tree) (i : Nat) : Prop := ∀ (h : i < ks.length) (h2 : i < xs.length), ∃ y, lookT ks' ys ks[i] = some y ∧ q xs[i] y = true
theorem memB_true {q : Tree → Tree → Bool} {ks ks' : List Str} {xs ys : List Tree} (h : ∀ i, i < ks.length → okAt q ks xs ks' ys i) : memB q ks xs ks' ys = true := by
  unfold memB
  rw [List.all_eq_true]
  intro p hp
  obtain ⟨i, hi, rfl⟩ := List.getElem_of_mem hp
  rw [List.length_zip] at hi
  obtain ⟨y, h1, h2⟩ := h i (by omega) (by omega) (by omega)
  rw [List.getElem_zip]
  simp only [h1, h2]
theorem memB_false {q : Tree → Tree → Bool} {ks ks' : List Str} {xs ys : List Tree} {i : Nat} (h : i < ks.length) (h2 : i < xs.length) (hn : ∀ y, lookT ks' ys ks[i] = some y → q xs[i] y = false) : memB q ks xs ks' ys = false := by
  unfold memB
  rw [Bool.eq_false_iff]
  intro ha
  have := List.all_eq_true.1 ha ((ks.zip xs)[i]'(by rw [List.length_zip]; omega)) (List.getElem_mem _)
  rw [List.getElem_zip] at this
  simp only at this
  cases hl : lookT ks' ys ks[i] with
  | none => rw [hl] at this; cases this
  | some y => rw [hl] at this; simp only at this; rw [hn y hl] at this; cases this
set_option maxHeartbeats 1000000 in
set_option maxRecDepth 10000 in
theorem mapsEqual_c (q : Tree → Tree → Bool) (ks ks' : List Str) (xs ys : List Tree) (m1 m2 : Nat) (l1 l2 : MapL) (S S' : Nat → Prop) (w0 : World) (h1 : w0.heap[m1]? = some (mapO l1)) (h2 : w0.heap[m2]? = some (mapO l2)) (hk1 : l1.map (·.1) = ks) (hk2 : l2.map (·.1) = ks') (hm1 : MapRep S w0 xs l1) (hm2 : MapRep S' w0 ys l2) (hq : BothC w0 69 xs ys q) : Calls Tryz.prog 105 #[.map (some m1), .map (some m2), .func (.func 69) #[] #[]] w0 (Ret fun v w' => v = .bool (decide (ks.length = ks'.length) && memB q ks xs ks' ys) ∧ Same [] w0 w') := by
  have e1 : l1.length = ks.length := by rw [← hk1, List.length_map]
  have e2 : l2.length = ks'.length := by rw [← hk2, List.length_map]
  refine calls_start Tryz.func105 rfl Tryz.ntmps105 (Nat.le_of_ble_eq_true rfl) (args_3 _ _ _) ?_
  have hF := FR.start w0 []
  refine c_seq ?_
  refine c_region ?_
  refine o_val (v := .bool false) (x_assign rfl) ?_
  refine o_nil ?_
  refine e_seq ?_
  refine c_seq ?_
  refine c_seq ?_
  refine c_region ?_
  refine o_val (v := .map (some m1)) (x_move rfl) ?_
  refine o_val (v := .int .i64 (((l1).length : Nat))) (x_len_map Tryz.underlying58 rfl (hF.heap0 h1)) ?_
  refine o_val (v := .map (some m2)) (x_move rfl) ?_
  refine o_val (v := .int .i64 (((l2).length : Nat))) (x_len_map Tryz.underlying58 rfl (hF.heap0 h2)) ?_
  refine o_val (v := .bool (decide ((((l1).length : Nat) : Int) ≠ (((l2).length : Nat) : Int)))) (x_neq rfl rfl) ?_
  refine o_nil ?_
  refine e_seq ?_
  refine c_splitd (d := 15) (p := (((l1).length : Nat) : Int) ≠ (((l2).length : Nat) : Int)) rfl (fun hc0 => ?_) (fun hc0 => ?_)
  ·
    refine c_ift rfl ?_
    refine c_seq ?_
    refine c_region ?_
    refine o_val (v := .bool false) (x_assign rfl) ?_
    refine o_nil ?_
    refine e_seq ?_
    refine c_ret (e_ret (post_ret (res_1 (v := .bool false) rfl rfl) ?_))
    exact ⟨congrArg Value.bool (by rw [decide_eq_false (by omega)]; rfl), hF.same⟩
  ·
    refine c_iff rfl ?_
    refine c_skip ?_
    refine e_seq ?_
    refine c_seq ?_
    refine c_seq ?_
    refine c_region ?_
    refine o_val (v := .map (some m1)) (x_move rfl) ?_
    refine o_new (v := fun b => .pointer (some ⟨b, 0, none⟩)) (o := .mapIter (some m1) (l1).length #[] (l1).length) hF (x_rangeM Tryz.underlying58 rfl (hF.heap0 h1)) ?_
    clear hF; intro b1 w hb1 hF hE
    clear hE
    refine o_nil ?_
    refine e_seq ?_
    refine c_block ?_
    refine c_loop (fun μ σ w => ∃ (seen : Array Nat), μ = unseen l1.length seen ∧ (∀ i, i < l1.length → seen.contains i = true → okAt q ks xs ks' ys i) ∧ AllEq σ [(1, .map (some m2)), (2, .func (.func 69) #[] #[]), (17, .pointer (some ⟨b1, 0, none⟩))] ∧ FR w0 [] [(b1, .mapIter (some m1) (l1).length (seen) (l1).length)] w) _ ⟨#[], rfl, (fun i _ h => by simp at h), ⟨rfl, rfl, rfl, trivial⟩, hF⟩ ?_
    clear hF; rintro μ σ w ⟨seen, rfl, hs_, hs, hF⟩
    refine Cg.slots hs ?_
    clear hs; intro σ
    refine c_seq ?_
    refine c_region ?_
    refine o_nextM 0 (b := m1) (l := l1) (seen := seen) hF rfl rfl (hF.heap0 h1) (fun hall => ?_) (fun j w hj hn hF2 hE _ => ?_)
    ·
      refine o_val (v := .bool false) (x_extract rfl rfl) ?_
      refine o_nil ?_
      refine e_seq ?_
      refine c_seq ?_
      refine c_iff rfl ?_
      refine c_exit (e_exit rfl ?_)
      refine e_seq ?_
      refine c_seq ?_
      refine c_region ?_
      refine o_val (v := .bool true) (x_assign rfl) ?_
      refine o_nil ?_
      refine e_seq ?_
      refine c_ret (e_ret (post_ret (res_1 (v := .bool true) rfl rfl) ?_))
      exact ⟨congrArg Value.bool (by rw [decide_eq_true (by omega), memB_true (fun i hi => hs_ i (by omega) (hall i (by omega)))]; rfl), hF.same⟩
    ·
      clear hF
      have hF : FR w0 [] [(b1, .mapIter (some m1) (l1).length ((seen).push j) (l1).length)] w := hF2
      clear hE hF2
      refine o_val (v := .bool true) (x_extract rfl rfl) ?_
      refine o_nil ?_
      refine e_seq ?_
      refine c_seq ?_
      refine c_ift rfl ?_
      refine c_skip ?_
      refine e_seq ?_
      refine c_block ?_
      refine c_seq ?_
      refine c_region ?_
      obtain ⟨cx, hcx, hx2, hrx⟩ := hm1 j hj
      have hox := hrx.one_
      have hlx : cx.length = 4 := hrx.length.trans (size_treeD _)
      have hkj : (l1)[j].1 = ks[j]'(by rw [← hk1, List.length_map]; exact hj) := by have := List.getElem_map (·.1) (l := l1) (i := j) (h := by rw [List.length_map]; exact hj); simp only [hk1] at this; exact this.symm
      refine o_val (v := .tuple #[.string (bs ((l1)[j].1)), .agg (List.toArray cx)]) (x_entryM rfl hj (hF.heap (i := 0) rfl) (hF.heap0 h1) (hcx)) ?_
      refine o_val (v := .string (bs ((l1)[j].1))) (x_extract rfl rfl) ?_
      refine o_val (v := .agg (List.toArray cx)) (x_extract rfl rfl) ?_
      refine o_alloc (cs := #[.int .i64 (0), .string (bs ([])), .slice (none) (0) (0), .slice (none) (0) (0)]) hF Tryz.zeroValue25 rfl ?_
      clear hF; intro b2 w hb2 hF hE
      clear hE
      refine o_val (v := .string (bs ((l1)[j].1))) (x_assign rfl) ?_
      refine o_store 0 (l := cx) (cs' := (List.toArray cx)) hF (by rw [hlx]; exact Tryz.sizeOf25) rfl (v := .agg (List.toArray cx)) rfl rfl (hox) rfl (by rw [hlx]; exact Nat.le_of_ble_eq_true rfl) (putA_all (by rw [hlx]; rfl)) ?_
      clear hF; intro w hF hE
      clear hE
      replace hF : FR w0 [] [(b2, .cells (List.toArray cx) 25), (b1, .mapIter (some m1) (l1).length ((seen).push j) (l1).length)] w := hF
      refine o_nil ?_
      refine e_seq ?_
      refine c_seq ?_
      refine c_region ?_
      refine o_val (v := .map (some m2)) (x_move rfl) ?_
      refine o_val (v := .string (bs ((l1)[j].1))) (x_move rfl) ?_
      rcases lookM_tree (l1)[j].1 hk2 hm2 with ⟨hlk, hlt⟩ | ⟨cy, y, hlk, hlt, hym, hry⟩
      ·
        refine o_val (v := .tuple #[.agg #[.int .i64 (0), .string (bs ([])), .slice (none) (0) (0), .slice (none) (0) (0)], .bool false]) (x_lookup2E Tryz.underlying58 Tryz.underlying9 Tryz.zeroValue25 rfl rfl (hF.heap0 h2) (by rw [hlk]; rfl) (by rw [hlk]; rfl)) ?_
        refine o_val (v := .tuple #[.agg #[.int .i64 (0), .string (bs ([])), .slice (none) (0) (0), .slice (none) (0) (0)], .bool false]) (x_move rfl) ?_
        refine o_val (v := .agg #[.int .i64 (0), .string (bs ([])), .slice (none) (0) (0), .slice (none) (0) (0)]) (x_extract rfl rfl) ?_
        refine o_val (v := .bool false) (x_extract rfl rfl) ?_
        refine o_lay (l := [.int .i64 (0), .string (bs ([])), .slice (none) (0) (0), .slice (none) (0) (0)]) hF Tryz.zeroValue25 Tryz.sizeOf25 rfl (v := .agg #[.int .i64 (0), .string (bs ([])), .slice (none) (0) (0), .slice (none) (0) (0)]) rfl rfl (by simp [one]) rfl ?_
        clear hF; intro b3 w hb3 hF hE
        clear hE
        refine o_val (v := .bool false) (x_assign rfl) ?_
        refine o_nil ?_
        refine e_seq ?_
        refine c_seq ?_
        refine c_region ?_
        refine o_val (v := .bool false) (x_move rfl) ?_
        refine o_val (v := .bool true) (x_not (b := false) rfl) ?_
        refine o_val (v := .bool true) (x_move rfl) ?_
        refine o_off ?_
        refine o_off ?_
        refine o_off ?_
        refine o_off ?_
        refine o_off ?_
        refine o_val (v := .bool true) (x_pickt rfl rfl) ?_
        refine o_nil ?_
        refine e_seq ?_
        refine c_ift rfl ?_
        refine c_seq ?_
        refine c_region ?_
        refine o_val (v := .bool false) (x_assign rfl) ?_
        refine o_nil ?_
        refine e_seq ?_
        refine c_ret (e_ret (post_ret (res_1 (v := .bool false) rfl rfl) ?_))
        exact ⟨congrArg Value.bool (by rw [memB_false (i := j) (by omega) hx2 (fun y hy => by rw [← hkj, hlt] at hy; cases hy), Bool.and_false]), hF.same⟩
      ·
        have hoy := hry.one_
        have hly : cy.length = 4 := hry.length.trans (size_treeD _)
        refine o_val (v := .tuple #[.agg (List.toArray cy), .bool true]) (x_lookup2E Tryz.underlying58 Tryz.underlying9 Tryz.zeroValue25 rfl rfl (hF.heap0 h2) (by rw [hlk]; rfl) (by rw [hlk]; rfl)) ?_
        refine o_val (v := .tuple #[.agg (List.toArray cy), .bool true]) (x_move rfl) ?_
        refine o_val (v := .agg (List.toArray cy)) (x_extract rfl rfl) ?_
        refine o_val (v := .bool true) (x_extract rfl rfl) ?_
        refine o_lay (l := cy) hF Tryz.zeroValue25 (by rw [hly]; exact Tryz.sizeOf25) (by rw [hly]; rfl) (v := .agg (List.toArray cy)) rfl rfl (hoy) rfl ?_
        clear hF; intro b4 w hb4 hF hE
        clear hE
        refine o_val (v := .bool true) (x_assign rfl) ?_
        refine o_nil ?_
        refine e_seq ?_
        refine c_seq ?_
        refine c_region ?_
        refine o_val (v := .bool true) (x_move rfl) ?_
        refine o_val (v := .bool false) (x_not (b := true) rfl) ?_
        refine o_val (v := .bool false) (x_move rfl) ?_
        refine o_val (v := .func (.func 69) #[] #[]) (x_move rfl) ?_
        refine o_val (v := .agg (List.toArray cx)) (x_loadS (l := cx) Tryz.isAgg25 Tryz.sizeOf25 rfl hlx (hF.cellsAll 1 rfl)) ?_
        refine o_val (v := .agg (List.toArray cy)) (x_loadS (l := cy) Tryz.isAgg25 Tryz.sizeOf25 rfl hly (hF.cellsAll 0 rfl)) ?_
        refine o_call (hq _ (List.getElem_mem hx2) y hym S S' _ cx cy hF.same (hF.rep hrx) (hF.rep hry)) (x_callv2 rfl en_69 rfl rfl rfl) ?_
        rintro _ w ⟨rfl, hE⟩
        replace hF := hF.ext hE
        clear hE
        refine o_val (v := .bool (!(q xs[j] y))) (x_not rfl) ?_
        refine o_val (v := .bool (!(q xs[j] y))) (x_pickf rfl rfl) ?_
        refine o_nil ?_
        refine e_seq ?_
        refine c_split (d := 37) (b := !(q xs[j] y)) rfl (fun hc2 => ?_) (fun hc2 => ?_)
        ·
          refine c_ift rfl ?_
          refine c_seq ?_
          refine c_region ?_
          refine o_val (v := .bool false) (x_assign rfl) ?_
          refine o_nil ?_
          refine e_seq ?_
          refine c_ret (e_ret (post_ret (res_1 (v := .bool false) rfl rfl) ?_))
          exact ⟨congrArg Value.bool (by rw [memB_false (i := j) (by omega) hx2 (fun y1 hy => by rw [← hkj, hlt] at hy; injection hy with hy; subst hy; simpa using hc2), Bool.and_false]), hF.same⟩
        ·
          refine c_iff rfl ?_
          refine c_skip ?_
          refine e_block ?_
          refine e_inv ⟨_, ?_, seen.push j, rfl, (fun i hi hc => by rw [contains_push] at hc; rcases Bool.or_eq_true_iff.1 hc with hc | hc; exact hs_ i hi hc; obtain rfl := beq_iff_eq.1 hc; exact fun h _ => ⟨y, by rw [← hkj]; exact hlt, by simpa using hc2⟩), ⟨rfl, rfl, rfl, trivial⟩, hF.drop 2⟩
          exact unseen_push hj hn
end Go.Scarf
