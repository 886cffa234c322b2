/- A part of the proof. -/
import Derived.Test.YtonoededmmohhaaGreatDoorMem
import Derived.Test.YtonoededmmohhaaGreatDoorX4
set_option linter.all false
namespace Go.Scarf
def addU (acc : List Str) (s : Str) : List Str := if s ∈ acc then acc else acc ++ [s]
def unionS (rows : List (List Str)) : List Str := rows.flatten.foldl addU []
theorem foldU_ext : ∀ (l : List Str) (acc : List Str), ∃ r, l.foldl addU acc = acc ++ r ∧ r.length ≤ l.length
  | [], acc => ⟨[], by simp⟩
  | s :: l, acc => by
    obtain ⟨r, h, hr⟩ := foldU_ext l (addU acc s)
    by_cases hs : s ∈ acc
    · have e : addU acc s = acc := if_pos hs
      rw [e] at h
      exact ⟨r, by rw [List.foldl_cons, e, h], by simp; omega⟩
    · have e : addU acc s = acc ++ [s] := if_neg hs
      rw [e] at h
      exact ⟨s :: r, by rw [List.foldl_cons, e, h]; simp, by simp; omega⟩
end Go.Scarf
namespace Go.Scarf
def idK (y : Tree) : Bool := decide (y.kind = 4) || decide (y.kind = 3)
def idB (x : Tree) (key : Str) : Bool := ((getV x key).2 && idK (getV x key).1) && decide (compE (sortedV (getV x key).1) = 0)
def idS (x : Tree) (key : Str) : Str := if ((getV x key).2 && idK (getV x key).1) = true then compS (sortedV (getV x key).1) else []
def idsK (key : Str) : List Tree → List Str → Option (List Str)
  | [], acc => some acc
  | x :: xs, acc => if idB x key = true ∧ idS x key ∉ acc then idsK key xs (acc ++ [idS x key]) else none
def idsV (v : Tree) (key : Str) : Option (List Str) := if rightB v = true ∧ v.kind = 5 then idsK key v.items [] else none
theorem idsK_next {key : Str} {xs : List Tree} {acc : List Str} {j : Nat} (h : j < xs.length) (h1 : idB xs[j] key = true) (h2 : idS xs[j] key ∉ acc) : idsK key (xs.drop j) acc = idsK key (xs.drop (j + 1)) (acc ++ [idS xs[j] key]) := by
  rw [List.drop_eq_getElem_cons h, idsK, if_pos ⟨h1, h2⟩]
theorem idsK_stop {key : Str} {xs : List Tree} {acc : List Str} {j : Nat} (h : j < xs.length) (hn : ¬ (idB xs[j] key = true ∧ idS xs[j] key ∉ acc)) : idsK key (xs.drop j) acc = none := by
  rw [List.drop_eq_getElem_cons h, idsK, if_neg hn]
theorem idsK_end {key : Str} {xs : List Tree} {acc : List Str} {j : Nat} (h : ¬ j < xs.length) : idsK key (xs.drop j) acc = some acc := by
  rw [List.drop_eq_nil_of_le (by omega), idsK]
theorem idsK_len {key : Str} : ∀ (xs : List Tree) (acc l : List Str), idsK key xs acc = some l → l.length = acc.length + xs.length
  | [], acc, l, h => by rw [idsK] at h; cases h; simp
  | x :: xs, acc, l, h => by
    rw [idsK] at h
    split at h
    · have := idsK_len xs _ l h
      simp at this ⊢
      omega
    · cases h
theorem right_get {x : Tree} {key : Str} (h : rightB x = true) (hg : (getV x key).2 = true) : rightB (getV x key).1 = true := by
  obtain ⟨k, t, ks, xs⟩ := x
  unfold getV at hg ⊢
  split at hg
  · rename_i ho
    rw [if_pos ho]
    cases hl : lookT (Tree.node k t ks xs).keys (Tree.node k t ks xs).items key with
    | none => rw [hl] at hg; cases hg
    | some y => exact right_kid h (lookT_mem hl)
  · cases hg
theorem id_right {x : Tree} {key : Str} (h : rightB x = true) : idB x key = ((getV x key).2 && idK (getV x key).1) := by
  unfold idB
  cases hg : (getV x key).2 with
  | false => rfl
  | true =>
    have e : compE (sortedV (getV x key).1) = 0 := by rw [compE, right_sorted, if_pos (right_get h hg)]
    rw [decide_eq_true e, Bool.and_true]
theorem copy_right {x : Tree} (h : rightB x = true) : copyV x = x := by rw [copyV, if_pos (right_open h)]
end Go.Scarf
