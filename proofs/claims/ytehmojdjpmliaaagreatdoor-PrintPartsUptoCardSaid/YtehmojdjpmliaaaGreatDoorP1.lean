/- A part of the proof. -/
import Derived.Test.YtehmojdjpmliaaaGreatDoorW19
set_option linter.all false
namespace Go.Scarf
theorem lookT_get {ks : List Str} {xs : List Tree} (hn : ks.Nodup) : ∀ {i : Nat} (h : i < ks.length) (h2 : i < xs.length), lookT ks xs ks[i] = some xs[i] := by
  induction ks generalizing xs with
  | nil => intro i h; cases h
  | cons k ks ih =>
    intro i h h2
    cases xs with
    | nil => cases h2
    | cons x xs =>
      cases i with
      | zero => simp [lookT]
      | succ i =>
        have hne : k ≠ ks[i]'(by simpa using h) := fun e => (List.nodup_cons.1 hn).1 (e ▸ List.getElem_mem _)
        simp only [lookT, List.getElem_cons_succ]
        rw [if_neg hne]
        exact ih (List.nodup_cons.1 hn).2 (by simpa using h) (by simpa using h2)
theorem lookT_in {ks : List Str} {xs : List Tree} (hl : ks.length = xs.length) {key : Str} (h : key ∈ ks) : ∃ y, lookT ks xs key = some y := by
  induction ks generalizing xs with
  | nil => cases h
  | cons k ks ih =>
    cases xs with
    | nil => cases hl
    | cons x xs =>
      rw [lookT]
      by_cases e : k = key
      · exact ⟨x, if_pos e⟩
      · rw [if_neg e]
        exact ih (by simpa using hl) (by rcases List.mem_cons.1 h with h | h; exact absurd h.symm e; exact h)
theorem lookT_key {ks : List Str} {xs : List Tree} {key : Str} {y : Tree} (h : lookT ks xs key = some y) : key ∈ ks := by
  induction ks generalizing xs with
  | nil => cases xs <;> cases h
  | cons k ks ih =>
    cases xs with
    | nil => cases h
    | cons x xs =>
      rw [lookT] at h
      by_cases e : k = key
      · simp [e]
      · rw [if_neg e] at h; simp [ih h]
theorem lookT_sortTs {ks : List Str} {xs : List Tree} (key : Str) : lookT ks (sortTs xs) key = (lookT ks xs key).map sortT := by
  cases h : lookT ks xs key with
  | some y => exact lookT_sort h
  | none =>
    induction ks generalizing xs with
    | nil => cases xs <;> rfl
    | cons k ks ih =>
      cases xs with
      | nil => rfl
      | cons x xs =>
        rw [lookT] at h
        rw [sortTs, lookT]
        by_cases e : k = key
        · rw [if_pos e] at h; cases h
        · rw [if_neg e] at h ⊢; exact ih h
theorem perm_of_sub {ks ks' : List Str} (h1 : ks.Nodup) (hl : ks.length = ks'.length) (hs : ∀ k ∈ ks, k ∈ ks') : ks.Perm ks' := by
  induction ks generalizing ks' with
  | nil =>
    have : ks' = [] := List.eq_nil_of_length_eq_zero (by simpa using hl.symm)
    subst this; exact .refl _
  | cons k ks ih =>
    have hk := hs k (by simp)
    have hp := List.perm_cons_erase hk
    refine List.Perm.trans (List.Perm.cons k (ih (List.nodup_cons.1 h1).2 ?_ ?_)) hp.symm
    · rw [List.length_erase_of_mem hk, ← hl]; simp
    · intro x hx
      have hne : x ≠ k := fun e => (List.nodup_cons.1 h1).1 (e ▸ hx)
      exact (List.mem_erase_of_ne hne).2 (hs x (by simp [hx]))
theorem sameL_iff {xs ys : List Tree} (h : ∀ x ∈ xs, ∀ y, allT nodeB y = true → (sameT x y = true ↔ sortT x = sortT y)) (hl : xs.length = ys.length) (hy : ∀ y ∈ ys, allT nodeB y = true) : sameL xs ys = true ↔ sortTs xs = sortTs ys := by
  induction xs generalizing ys with
  | nil => cases ys with
    | nil => simp [sameL]
    | cons y ys => cases hl
  | cons x xs ih => cases ys with
    | nil => cases hl
    | cons y ys =>
      rw [sameL, Bool.and_eq_true, h x (by simp) y (hy y (by simp)), ih (fun x hx => h x (by simp [hx])) (by simpa using hl) (fun y hy' => hy y (by simp [hy'])), sortTs, sortTs, List.cons.injEq]
theorem sameM_iff' (xs : List Tree) (ks ks' : List Str) (ys : List Tree) (hl : ks.length = xs.length) : sameM xs ks ks' ys = true ↔ ∀ i (h : i < ks.length), ∃ y, lookT ks' ys ks[i] = some y ∧ sameT (xs[i]'(by omega)) y = true := by
  induction xs generalizing ks with
  | nil =>
    have : ks = [] := List.eq_nil_of_length_eq_zero (by simpa using hl)
    subst this
    simp [sameM]
  | cons x xs ih => cases ks with
    | nil => cases hl
    | cons k ks =>
      rw [sameM, Bool.and_eq_true, ih ks (by simpa using hl)]
      constructor
      · rintro ⟨h1, h2⟩ i hi
        cases i with
        | zero =>
          cases hk : lookT ks' ys k with
          | none => rw [hk] at h1; cases h1
          | some y => rw [hk] at h1; exact ⟨y, hk, h1⟩
        | succ i => exact h2 i (by simpa using hi)
      · intro h
        refine ⟨?_, fun i hi => h (i + 1) (by simpa using hi)⟩
        obtain ⟨y, h1, h2⟩ := h 0 (by simp)
        simp only [List.getElem_cons_zero] at h1 h2
        rw [h1]; exact h2
theorem same_iff (x : Tree) : allT nodeB x = true → ∀ y, allT nodeB y = true → (sameT x y = true ↔ sortT x = sortT y) := Tree.ind (Q := fun x => allT nodeB x = true → ∀ y, allT nodeB y = true → (sameT x y = true ↔ sortT x = sortT y)) (fun k t ks xs ih hx y hy => by
  obtain ⟨k', t', ks', ys⟩ := y
  obtain ⟨hn, hxs⟩ := allT_node hx
  obtain ⟨hn', hys⟩ := allT_node hy
  have ih' : ∀ x ∈ xs, ∀ y, allT nodeB y = true → (sameT x y = true ↔ sortT x = sortT y) := fun x hx' => ih x hx' (hxs x hx')
  rw [sameT, Bool.and_eq_true, Bool.and_eq_true, Bool.and_eq_true, decide_eq_true_eq, decide_eq_true_eq, decide_eq_true_eq, sortT, sortT]
  by_cases h : k = k'
  · subst h
    by_cases h6 : k = 6
    · subst h6
      obtain ⟨nd, len⟩ := node6 hn
      obtain ⟨nd', len'⟩ := node6 hn'
      rw [if_neg (by simp), if_pos rfl, if_pos rfl, Bool.and_eq_true, decide_eq_true_eq, sameM_iff' xs ks ks' ys len]
      constructor
      · rintro ⟨⟨⟨-, e1⟩, e2⟩, e3, hall⟩
        have hp : ks.Perm ks' := perm_of_sub nd e3 (fun k hk => by
          obtain ⟨i, hi, rfl⟩ := List.getElem_of_mem hk
          obtain ⟨y, h1, -⟩ := hall i hi
          exact lookT_key h1)
        have hs : sortS ks = sortS ks' := by unfold sortS; exact mergeSort_of_perm hp
        rw [e1, ← hs]
        congr 1
        refine List.map_congr_left fun key hkey => ?_
        have hin := sortS_mem.1 hkey
        obtain ⟨i, hi, rfl⟩ := List.getElem_of_mem hin
        obtain ⟨y, h1, h2⟩ := hall i hi
        rw [lookT_sortTs, lookT_sortTs, h1, lookT_get nd hi (by omega)]
        simp only [Option.map_some, Option.getD_some]
        exact (ih' _ (List.getElem_mem _) y (hys y (lookT_mem h1))).1 h2
      · intro e
        injection e with _ e1 e2 e3
        have hl : ks.length = ks'.length := by have := congrArg List.length e2; rwa [sortS_len, sortS_len] at this
        refine ⟨⟨⟨rfl, e1⟩, by omega⟩, hl, fun i hi => ?_⟩
        have hin : ks[i] ∈ sortS ks := sortS_mem.2 (List.getElem_mem _)
        have hin' : ks[i] ∈ ks' := sortS_mem.1 (e2 ▸ hin)
        obtain ⟨y, h1⟩ := lookT_in len' hin'
        refine ⟨y, h1, (ih' _ (List.getElem_mem _) y (hys y (lookT_mem h1))).2 ?_⟩
        rw [← e2] at e3
        have := List.map_inj_left.1 e3 ks[i] hin
        rw [lookT_sortTs, lookT_sortTs, h1, lookT_get nd hi (by omega)] at this
        simpa using this
    · rw [if_pos h6, if_neg h6, if_neg h6]
      constructor
      · rintro ⟨⟨⟨-, e1⟩, e2⟩, e3⟩
        rw [e1, (sameL_iff ih' e2 hys).1 e3]
      · intro e
        injection e with _ e1 _ e3
        have hl : xs.length = ys.length := by have := congrArg List.length e3; rwa [sortTs_eq, sortTs_eq, List.length_map, List.length_map] at this
        exact ⟨⟨⟨rfl, e1⟩, hl⟩, (sameL_iff ih' hl hys).2 e3⟩
  · constructor
    · rintro ⟨⟨⟨e, -⟩, -⟩, -⟩; exact absurd e h
    · intro e
      exfalso
      split at e <;> split at e <;> injection e with e <;> exact h e) x
theorem keyed_perm {ks ks' : List Str} {n : Int} (h : ks.Perm ks') : keyedB ks n = keyedB ks' n := by
  unfold keyedB
  rw [h.length_eq, decide_eq_decide.2 h.nodup_iff]
  congr 2
  rw [Bool.eq_iff_iff, List.all_eq_true, List.all_eq_true]
  exact ⟨fun hh k hk => hh k (h.mem_iff.2 hk), fun hh k hk => hh k (h.mem_iff.1 hk)⟩
theorem allTs_of {q : Tree → Bool} : ∀ {xs : List Tree}, (∀ x ∈ xs, allT q x = true) → allTs q xs = true
  | [], _ => rfl
  | x :: xs, h => by rw [allTs, h x (by simp), allTs_of (fun y hy => h y (by simp [hy]))]; rfl
theorem outs_eq {ks : List Str} {xs : List Tree} (hn : ks.Nodup) (hl : ks.length = xs.length) : (outs ks xs).Perm (sortTs xs) := by
  have h1 : (outs ks xs).Perm (ks.map fun key => (lookT ks (sortTs xs) key).getD (.node 0 [] [] [])) := (sortS_perm ks).map _
  refine h1.trans ?_
  have h2 : (ks.map fun key => (lookT ks (sortTs xs) key).getD (.node 0 [] [] [])) = sortTs xs := by
    apply List.ext_getElem
    · rw [List.length_map, sortTs_eq, List.length_map, hl]
    · intro i h1 h2
      rw [List.getElem_map, lookT_get hn (by simpa using h1) h2]
      rfl
  rw [h2]
theorem sort_node {k : Int} {t : Str} {ks : List Str} {xs : List Tree} : sortT (.node k t ks xs) = if k = 6 then .node k t (sortS ks) (outs ks xs) else .node k t [] (sortTs xs) := by rw [sortT]; rfl
theorem good_sort (x : Tree) : allT nodeB x = true → allT nodeB (sortT x) = true := Tree.ind (Q := fun x => allT nodeB x = true → allT nodeB (sortT x) = true) (fun k t ks xs ih hx => by
  obtain ⟨hn, hxs⟩ := allT_node hx
  have hs : ∀ y ∈ sortTs xs, allT nodeB y = true := by
    intro y hy
    rw [sortTs_eq] at hy
    obtain ⟨z, hz, rfl⟩ := List.mem_map.1 hy
    exact ih z hz (hxs z hz)
  rw [sort_node]
  split
  · rename_i h6
    subst h6
    obtain ⟨nd, len⟩ := node6 hn
    have hp := outs_eq nd len
    rw [allT, Bool.and_eq_true]
    refine ⟨?_, allTs_of fun y hy => hs y (hp.mem_iff.1 hy)⟩
    simp only [nodeB] at hn ⊢
    rw [if_pos trivial] at hn ⊢
    rw [keyed_perm (sortS_perm ks), hp.length_eq, sortTs_eq, List.length_map]
    exact hn
  · rename_i h6
    rw [allT, Bool.and_eq_true]
    refine ⟨?_, allTs_of hs⟩
    simp only [nodeB] at hn ⊢
    by_cases h5 : k = 5
    · rw [if_pos h5] at hn ⊢
      simp at hn ⊢
      exact hn.2
    · rw [if_neg h5, if_neg h6] at hn ⊢
      by_cases hc : ks ≠ [] ∨ xs ≠ []
      · rw [if_pos hc] at hn; cases hn
      · have hk : ks = [] := Classical.byContradiction fun h => hc (.inl h)
        have hx0 : xs = [] := Classical.byContradiction fun h => hc (.inr h)
        subst hk hx0
        simpa [sortTs] using hn) x
theorem sameV_iff {x y : Tree} (hx : openB x = true) (hy : openB y = true) : SameV x y = true ↔ sortT x = sortT y := by
  unfold SameV
  rw [hx, hy]
  exact same_iff x (open_all hx) y (open_all hy)
end Go.Scarf
namespace Go.Scarf
theorem sizeTs_sum : ∀ xs : List Tree, sizeTs xs = (xs.map sizeT).sum
  | [] => rfl
  | x :: xs => by rw [sizeTs, sizeTs_sum xs]; rfl
theorem sizeTs_perm {xs ys : List Tree} (h : xs.Perm ys) : sizeTs xs = sizeTs ys := by
  rw [sizeTs_sum, sizeTs_sum]; exact (h.map _).sum_nat
theorem depthTs_perm {xs ys : List Tree} (h : xs.Perm ys) : depthTs xs = depthTs ys := by
  induction h with
  | nil => rfl
  | cons x _ ih => rw [depthTs, depthTs, ih]
  | swap x y l => simp only [depthTs]; omega
  | trans _ _ h1 h2 => rw [h1, h2]
theorem sort_size (x : Tree) : allT nodeB x = true → sizeT (sortT x) = sizeT x ∧ depthT (sortT x) = depthT x := Tree.ind (Q := fun x => allT nodeB x = true → sizeT (sortT x) = sizeT x ∧ depthT (sortT x) = depthT x) (fun k t ks xs ih hx => by
  obtain ⟨hn, hxs⟩ := allT_node hx
  have h1 : ∀ ys : List Tree, (∀ y ∈ ys, y ∈ xs) → sizeTs (sortTs ys) = sizeTs ys ∧ depthTs (sortTs ys) = depthTs ys := by
    intro ys
    induction ys with
    | nil => intro _; exact ⟨rfl, rfl⟩
    | cons y ys ihy =>
      intro hm
      obtain ⟨a, b⟩ := ih y (hm y (by simp)) (hxs y (hm y (by simp)))
      obtain ⟨c, d⟩ := ihy (fun z hz => hm z (by simp [hz]))
      simp only [sortTs, sizeTs, depthTs, a, b, c, d]
      exact ⟨trivial, trivial⟩
  obtain ⟨a, b⟩ := h1 xs (fun _ h => h)
  rw [sort_node]
  split
  · rename_i h6
    subst h6
    obtain ⟨nd, len⟩ := node6 hn
    have hp := outs_eq nd len
    simp only [sizeT, depthT, sizeTs_perm hp, depthTs_perm hp, a, b]
    exact ⟨trivial, trivial⟩
  · simp only [sizeT, depthT, a, b]
    exact ⟨trivial, trivial⟩) x
theorem open_sort {x : Tree} (h : openB x = true) : openB (sortT x) = true := by
  obtain ⟨a, b⟩ := sort_size x (open_all h)
  have c := good_sort x (open_all h)
  unfold openB sizedB at h ⊢
  rw [a, b, c]
  simp only [Bool.and_eq_true] at h
  simp [h.1]
theorem sorted_open {x : Tree} (h : openB x = true) : sortedV x = sortT x := by rw [sortedV, if_pos h]
end Go.Scarf
