/- A part of the proof. -/
import Derived.Test.YtpliibolgknenaaGreatDoorW19
set_option linter.all false
namespace Go.Scarf
theorem lookT_get {ks : List Str} {xs : List Tree} (hn : ks.Nodup) : ∀ {i : Nat} (h : i < ks.length) (h2 : i < xs.length), lookT ks xs ks[i] = some xs[i] := by
  induction ks generalizing xs with
  | nil => intro i h; cases h
  | cons k ks ih =>
    intro i h h2
    cases xs with
    | nil => cases h2
    | cons x xs =>
      cases i with
      | zero => simp [lookT]
      | succ i =>
        have hne : k ≠ ks[i]'(by simpa using h) := fun e => (List.nodup_cons.1 hn).1 (e ▸ List.getElem_mem _)
        simp only [lookT, List.getElem_cons_succ]
        rw [if_neg hne]
        exact ih (List.nodup_cons.1 hn).2 (by simpa using h) (by simpa using h2)
theorem keyed_perm {ks ks' : List Str} {n : Int} (h : ks.Perm ks') : keyedB ks n = keyedB ks' n := by
  unfold keyedB
  rw [h.length_eq, decide_eq_decide.2 h.nodup_iff]
  congr 2
  rw [Bool.eq_iff_iff, List.all_eq_true, List.all_eq_true]
  exact ⟨fun hh k hk => hh k (h.mem_iff.2 hk), fun hh k hk => hh k (h.mem_iff.1 hk)⟩
theorem allTs_of {q : Tree → Bool} : ∀ {xs : List Tree}, (∀ x ∈ xs, allT q x = true) → allTs q xs = true
  | [], _ => rfl
  | x :: xs, h => by rw [allTs, h x (by simp), allTs_of (fun y hy => h y (by simp [hy]))]; rfl
theorem outs_eq {ks : List Str} {xs : List Tree} (hn : ks.Nodup) (hl : ks.length = xs.length) : (outs ks xs).Perm (sortTs xs) := by
  have h1 : (outs ks xs).Perm (ks.map fun key => (lookT ks (sortTs xs) key).getD (.node 0 [] [] [])) := (sortS_perm ks).map _
  refine h1.trans ?_
  have h2 : (ks.map fun key => (lookT ks (sortTs xs) key).getD (.node 0 [] [] [])) = sortTs xs := by
    apply List.ext_getElem
    · rw [List.length_map, sortTs_eq, List.length_map, hl]
    · intro i h1 h2
      rw [List.getElem_map, lookT_get hn (by simpa using h1) h2]
      rfl
  rw [h2]
theorem sort_node {k : Int} {t : Str} {ks : List Str} {xs : List Tree} : sortT (.node k t ks xs) = if k = 6 then .node k t (sortS ks) (outs ks xs) else .node k t [] (sortTs xs) := by rw [sortT]; rfl
theorem good_sort (x : Tree) : allT nodeB x = true → allT nodeB (sortT x) = true := Tree.ind (Q := fun x => allT nodeB x = true → allT nodeB (sortT x) = true) (fun k t ks xs ih hx => by
  obtain ⟨hn, hxs⟩ := allT_node hx
  have hs : ∀ y ∈ sortTs xs, allT nodeB y = true := by
    intro y hy
    rw [sortTs_eq] at hy
    obtain ⟨z, hz, rfl⟩ := List.mem_map.1 hy
    exact ih z hz (hxs z hz)
  rw [sort_node]
  split
  · rename_i h6
    subst h6
    obtain ⟨nd, len⟩ := node6 hn
    have hp := outs_eq nd len
    rw [allT, Bool.and_eq_true]
    refine ⟨?_, allTs_of fun y hy => hs y (hp.mem_iff.1 hy)⟩
    simp only [nodeB] at hn ⊢
    rw [if_pos trivial] at hn ⊢
    rw [keyed_perm (sortS_perm ks), hp.length_eq, sortTs_eq, List.length_map]
    exact hn
  · rename_i h6
    rw [allT, Bool.and_eq_true]
    refine ⟨?_, allTs_of hs⟩
    simp only [nodeB] at hn ⊢
    by_cases h5 : k = 5
    · rw [if_pos h5] at hn ⊢
      simp at hn ⊢
      exact hn.2
    · rw [if_neg h5, if_neg h6] at hn ⊢
      by_cases hc : ks ≠ [] ∨ xs ≠ []
      · rw [if_pos hc] at hn; cases hn
      · have hk : ks = [] := Classical.byContradiction fun h => hc (.inl h)
        have hx0 : xs = [] := Classical.byContradiction fun h => hc (.inr h)
        subst hk hx0
        simpa [sortTs] using hn) x
end Go.Scarf
namespace Go.Scarf
theorem sizeTs_sum : ∀ xs : List Tree, sizeTs xs = (xs.map sizeT).sum
  | [] => rfl
  | x :: xs => by rw [sizeTs, sizeTs_sum xs]; rfl
theorem sizeTs_perm {xs ys : List Tree} (h : xs.Perm ys) : sizeTs xs = sizeTs ys := by
  rw [sizeTs_sum, sizeTs_sum]; exact (h.map _).sum_nat
theorem depthTs_perm {xs ys : List Tree} (h : xs.Perm ys) : depthTs xs = depthTs ys := by
  induction h with
  | nil => rfl
  | cons x _ ih => rw [depthTs, depthTs, ih]
  | swap x y l => simp only [depthTs]; omega
  | trans _ _ h1 h2 => rw [h1, h2]
theorem sort_size (x : Tree) : allT nodeB x = true → sizeT (sortT x) = sizeT x ∧ depthT (sortT x) = depthT x := Tree.ind (Q := fun x => allT nodeB x = true → sizeT (sortT x) = sizeT x ∧ depthT (sortT x) = depthT x) (fun k t ks xs ih hx => by
  obtain ⟨hn, hxs⟩ := allT_node hx
  have h1 : ∀ ys : List Tree, (∀ y ∈ ys, y ∈ xs) → sizeTs (sortTs ys) = sizeTs ys ∧ depthTs (sortTs ys) = depthTs ys := by
    intro ys
    induction ys with
    | nil => intro _; exact ⟨rfl, rfl⟩
    | cons y ys ihy =>
      intro hm
      obtain ⟨a, b⟩ := ih y (hm y (by simp)) (hxs y (hm y (by simp)))
      obtain ⟨c, d⟩ := ihy (fun z hz => hm z (by simp [hz]))
      simp only [sortTs, sizeTs, depthTs, a, b, c, d]
      exact ⟨trivial, trivial⟩
  obtain ⟨a, b⟩ := h1 xs (fun _ h => h)
  rw [sort_node]
  split
  · rename_i h6
    subst h6
    obtain ⟨nd, len⟩ := node6 hn
    have hp := outs_eq nd len
    simp only [sizeT, depthT, sizeTs_perm hp, depthTs_perm hp, a, b]
    exact ⟨trivial, trivial⟩
  · simp only [sizeT, depthT, a, b]
    exact ⟨trivial, trivial⟩) x
theorem open_sort {x : Tree} (h : openB x = true) : openB (sortT x) = true := by
  obtain ⟨a, b⟩ := sort_size x (open_all h)
  have c := good_sort x (open_all h)
  unfold openB sizedB at h ⊢
  rw [a, b, c]
  simp only [Bool.and_eq_true] at h
  simp [h.1]
theorem sorted_open {x : Tree} (h : openB x = true) : sortedV x = sortT x := by rw [sortedV, if_pos h]
end Go.Scarf
