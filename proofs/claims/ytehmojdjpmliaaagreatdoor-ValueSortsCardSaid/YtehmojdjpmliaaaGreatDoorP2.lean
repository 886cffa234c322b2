/- A part of the proof. -/
import Derived.Test.YtehmojdjpmliaaaGreatDoorP1
set_option linter.all false
namespace Go.Scarf
theorem sizeTs_sum : ∀ xs : List Tree, sizeTs xs = (xs.map sizeT).sum
  | [] => rfl
  | x :: xs => by rw [sizeTs, sizeTs_sum xs]; rfl
theorem sizeTs_perm {xs ys : List Tree} (h : xs.Perm ys) : sizeTs xs = sizeTs ys := by
  rw [sizeTs_sum, sizeTs_sum]; exact (h.map _).sum_nat
theorem depthTs_perm {xs ys : List Tree} (h : xs.Perm ys) : depthTs xs = depthTs ys := by
  induction h with
  | nil => rfl
  | cons x _ ih => rw [depthTs, depthTs, ih]
  | swap x y l => simp only [depthTs]; omega
  | trans _ _ h1 h2 => rw [h1, h2]
theorem sort_size (x : Tree) : allT nodeB x = true → sizeT (sortT x) = sizeT x ∧ depthT (sortT x) = depthT x := Tree.ind (Q := fun x => allT nodeB x = true → sizeT (sortT x) = sizeT x ∧ depthT (sortT x) = depthT x) (fun k t ks xs ih hx => by
  obtain ⟨hn, hxs⟩ := allT_node hx
  have h1 : ∀ ys : List Tree, (∀ y ∈ ys, y ∈ xs) → sizeTs (sortTs ys) = sizeTs ys ∧ depthTs (sortTs ys) = depthTs ys := by
    intro ys
    induction ys with
    | nil => intro _; exact ⟨rfl, rfl⟩
    | cons y ys ihy =>
      intro hm
      obtain ⟨a, b⟩ := ih y (hm y (by simp)) (hxs y (hm y (by simp)))
      obtain ⟨c, d⟩ := ihy (fun z hz => hm z (by simp [hz]))
      simp only [sortTs, sizeTs, depthTs, a, b, c, d]
      exact ⟨trivial, trivial⟩
  obtain ⟨a, b⟩ := h1 xs (fun _ h => h)
  rw [sort_node]
  split
  · rename_i h6
    subst h6
    obtain ⟨nd, len⟩ := node6 hn
    have hp := outs_eq nd len
    simp only [sizeT, depthT, sizeTs_perm hp, depthTs_perm hp, a, b]
    exact ⟨trivial, trivial⟩
  · simp only [sizeT, depthT, a, b]
    exact ⟨trivial, trivial⟩) x
theorem sortS_idem (ks : List Str) : sortS (sortS ks) = sortS ks := by
  have h : (sortS ks).Perm ks := sortS_perm ks
  show (sortS ks).mergeSort leB = sortS ks
  exact sortS_of_perm h
theorem lookT_map {f : Str → Tree} {key : Str} : ∀ {l : List Str}, key ∈ l → lookT l (l.map f) key = some (f key)
  | [], h => absurd h (by simp)
  | k :: l, h => by
    rw [List.map_cons, lookT]
    by_cases e : k = key
    · rw [if_pos e, e]
    · rw [if_neg e]; exact lookT_map (by rcases List.mem_cons.1 h with h | h; exact absurd h.symm e; exact h)
theorem sort_idem (x : Tree) : allT nodeB x = true → sortT (sortT x) = sortT x := Tree.ind (Q := fun x => allT nodeB x = true → sortT (sortT x) = sortT x) (fun k t ks xs ih hx => by
  obtain ⟨hn, hxs⟩ := allT_node hx
  rw [sort_node]
  split
  · rename_i h6
    subst h6
    obtain ⟨nd, len⟩ := node6 hn
    rw [sort_node, if_pos rfl, sortS_idem]
    congr 1
    unfold outs
    rw [sortS_idem]
    refine List.map_congr_left fun key hkey => ?_
    rw [lookT_sortTs, lookT_map (f := fun key => (lookT ks (sortTs xs) key).getD (.node 0 [] [] [])) hkey]
    simp only [Option.map_some, Option.getD_some]
    obtain ⟨y, hy⟩ := lookT_in len (sortS_mem.1 hkey)
    rw [lookT_sortTs, hy]
    simp only [Option.map_some, Option.getD_some]
    exact ih y (lookT_mem hy) (hxs y (lookT_mem hy))
  · rename_i h6
    rw [sort_node, if_neg h6]
    congr 1
    rw [sortTs_eq, sortTs_eq, List.map_map]
    refine List.map_congr_left fun y hy => ?_
    exact ih y hy (hxs y hy)) x
theorem open_sort {x : Tree} (h : openB x = true) : openB (sortT x) = true := by
  obtain ⟨a, b⟩ := sort_size x (open_all h)
  have c := good_sort x (open_all h)
  unfold openB sizedB at h ⊢
  rw [a, b, c]
  simp only [Bool.and_eq_true] at h
  simp [h.1]
theorem sorted_open {x : Tree} (h : openB x = true) : sortedV x = sortT x := by rw [sortedV, if_pos h]
theorem same_sort {x : Tree} (h : openB x = true) : SameV (sortT x) x = true := (sameV_iff (open_sort h) h).2 (sort_idem x (open_all h))
theorem sorted_sort {x : Tree} (h : openB x = true) : sortedV (sortT x) = sortT x := by rw [sorted_open (open_sort h), sort_idem x (open_all h)]
theorem same_eq {x y : Tree} (hx : openB x = true) (hy : openB y = true) : SameV x y = eqT (sortT x) (sortT y) := by
  rw [Bool.eq_iff_iff, sameV_iff hx hy, eqT_iff]
end Go.Scarf
