/- A part of the proof. -/
import Derived.Test.YtonoededmmohhaaGreatDoorMem
import Derived.Test.YtonoededmmohhaaGreatDoorX4
set_option linter.all false
namespace Go.Scarf
def addU (acc : List Str) (s : Str) : List Str := if s ∈ acc then acc else acc ++ [s]
def unionS (rows : List (List Str)) : List Str := rows.flatten.foldl addU []
theorem addU_mem {acc : List Str} {s t : Str} : t ∈ addU acc s ↔ t ∈ acc ∨ t = s := by
  unfold addU
  split
  · rename_i h
    constructor
    · exact .inl
    · rintro (h1 | rfl)
      · exact h1
      · exact h
  · simp
theorem addU_nodup {acc : List Str} (h : acc.Nodup) (s : Str) : (addU acc s).Nodup := by
  unfold addU
  split
  · exact h
  · rename_i hn
    rw [List.nodup_append]
    refine ⟨h, by simp, ?_⟩
    rintro a ha b hb rfl
    simp only [List.mem_singleton] at hb
    subst hb
    exact hn ha
theorem foldU_nodup : ∀ (l : List Str) {acc : List Str}, acc.Nodup → (l.foldl addU acc).Nodup
  | [], _, h => h
  | s :: l, _, h => foldU_nodup l (addU_nodup h s)
theorem foldU_mem : ∀ (l : List Str) {acc : List Str} {t : Str}, t ∈ l.foldl addU acc ↔ t ∈ acc ∨ t ∈ l
  | [], _, _ => by simp
  | s :: l, _, _ => by rw [List.foldl_cons, foldU_mem l, addU_mem, List.mem_cons, or_assoc]
theorem foldU_old : ∀ (l : List Str) {acc : List Str}, (∀ t ∈ l, t ∈ acc) → l.foldl addU acc = acc
  | [], _, _ => rfl
  | s :: l, acc, h => by
    have e : addU acc s = acc := if_pos (h s (by simp))
    rw [List.foldl_cons, e]
    exact foldU_old l fun t ht => h t (by simp [ht])
theorem foldU_new : ∀ (l : List Str) {acc : List Str}, (acc ++ l).Nodup → l.foldl addU acc = acc ++ l
  | [], _, _ => by simp
  | s :: l, acc, h => by
    have hn : s ∉ acc := fun hs => by
      rw [List.nodup_append] at h
      exact h.2.2 s hs s (by simp) rfl
    have e : addU acc s = acc ++ [s] := if_neg hn
    rw [List.foldl_cons, e, foldU_new l (by simpa using h)]
    simp
theorem foldU_ext : ∀ (l : List Str) (acc : List Str), ∃ r, l.foldl addU acc = acc ++ r ∧ r.length ≤ l.length
  | [], acc => ⟨[], by simp⟩
  | s :: l, acc => by
    obtain ⟨r, h, hr⟩ := foldU_ext l (addU acc s)
    by_cases hs : s ∈ acc
    · have e : addU acc s = acc := if_pos hs
      rw [e] at h
      exact ⟨r, by rw [List.foldl_cons, e, h], by simp; omega⟩
    · have e : addU acc s = acc ++ [s] := if_neg hs
      rw [e] at h
      exact ⟨s :: r, by rw [List.foldl_cons, e, h]; simp, by simp; omega⟩
theorem union_nodup (rows : List (List Str)) : (unionS rows).Nodup := foldU_nodup _ List.nodup_nil
theorem union_again (a b : List Str) : unionS [unionS [a, b], a, b] = unionS [a, b] := by
  have h1 : (unionS [a, b]).foldl addU [] = unionS [a, b] := by rw [foldU_new _ (by simpa using union_nodup [a, b])]; simp
  have h2 : ∀ t ∈ a ++ b, t ∈ unionS [a, b] := fun t ht => by
    unfold unionS
    rw [foldU_mem]
    exact .inr (by simpa using ht)
  have e : unionS [unionS [a, b], a, b] = (a ++ b).foldl addU ((unionS [a, b]).foldl addU []) := by
    show ([unionS [a, b], a, b].flatten).foldl addU [] = _
    simp only [List.flatten_cons, List.flatten_nil, List.append_nil, List.foldl_append]
  rw [e, h1]
  exact foldU_old _ h2
theorem union_first (a b : List Str) : ∃ r, unionS [a, b] = unionS [a] ++ r ∧ r.length ≤ b.length := by
  obtain ⟨r, h, hr⟩ := foldU_ext b (a.foldl addU [])
  exact ⟨r, by unfold unionS; simpa [List.foldl_append] using h, hr⟩
theorem union_len (a : List Str) : (unionS [a]).length ≤ a.length := by
  obtain ⟨r, h, hr⟩ := foldU_ext a []
  unfold unionS
  simp only [List.flatten_cons, List.flatten_nil, List.append_nil]
  rw [h]
  simpa using hr
end Go.Scarf
namespace Go.Scarf
def idK (y : Tree) : Bool := decide (y.kind = 4) || decide (y.kind = 3)
def idB (x : Tree) (key : Str) : Bool := ((getV x key).2 && idK (getV x key).1) && decide (compE (sortedV (getV x key).1) = 0)
def idS (x : Tree) (key : Str) : Str := if ((getV x key).2 && idK (getV x key).1) = true then compS (sortedV (getV x key).1) else []
def idsK (key : Str) : List Tree → List Str → Option (List Str)
  | [], acc => some acc
  | x :: xs, acc => if idB x key = true ∧ idS x key ∉ acc then idsK key xs (acc ++ [idS x key]) else none
def idsV (v : Tree) (key : Str) : Option (List Str) := if rightB v = true ∧ v.kind = 5 then idsK key v.items [] else none
theorem idsK_next {key : Str} {xs : List Tree} {acc : List Str} {j : Nat} (h : j < xs.length) (h1 : idB xs[j] key = true) (h2 : idS xs[j] key ∉ acc) : idsK key (xs.drop j) acc = idsK key (xs.drop (j + 1)) (acc ++ [idS xs[j] key]) := by
  rw [List.drop_eq_getElem_cons h, idsK, if_pos ⟨h1, h2⟩]
theorem idsK_stop {key : Str} {xs : List Tree} {acc : List Str} {j : Nat} (h : j < xs.length) (hn : ¬ (idB xs[j] key = true ∧ idS xs[j] key ∉ acc)) : idsK key (xs.drop j) acc = none := by
  rw [List.drop_eq_getElem_cons h, idsK, if_neg hn]
theorem idsK_end {key : Str} {xs : List Tree} {acc : List Str} {j : Nat} (h : ¬ j < xs.length) : idsK key (xs.drop j) acc = some acc := by
  rw [List.drop_eq_nil_of_le (by omega), idsK]
theorem idsK_len {key : Str} : ∀ (xs : List Tree) (acc l : List Str), idsK key xs acc = some l → l.length = acc.length + xs.length
  | [], acc, l, h => by rw [idsK] at h; cases h; simp
  | x :: xs, acc, l, h => by
    rw [idsK] at h
    split at h
    · have := idsK_len xs _ l h
      simp at this ⊢
      omega
    · cases h
theorem copy_right {x : Tree} (h : rightB x = true) : copyV x = x := by rw [copyV, if_pos (right_open h)]
end Go.Scarf
