/- A part of the proof. -/
import Derived.Test.YtepbomjpbdbejaaGreatDoorTr
import Derived.Test.YtepbomjpbdbejaaGreatDoorMem
set_option linter.all false
set_option maxHeartbeats 8000000
set_option maxRecDepth 10000
namespace Go.Scarf
open Go.RowKit
def Hu (q : Int × Int) : D := .agg [Ze q.1, Ze q.2]
def Kh (m : List (Int × Int)) : D := .slice (m.map Hu)
abbrev Xi (q : Int × Int) : List Value := [.int .i64 q.1, .int .i64 q.2]
def Xv (m : List (Int × Int)) : List Value := m.flatMap Xi
section
variable {S : Nat → Prop} {w : World}
theorem SI {q : Int × Int} {cs : List Value} (h : Rep S w (Hu q) cs) : cs = Xi q ∧ (-9223372036854775808 ≤ q.1 ∧ q.1 ≤ 9223372036854775807) ∧ (-9223372036854775808 ≤ q.2 ∧ q.2 ≤ 9223372036854775807) := by
  simp only [Hu, Ze, Rep, RepL] at h
  obtain ⟨c1, c2, rfl, ⟨rfl, h1⟩, c3, c4, rfl, ⟨rfl, h2⟩, rfl⟩ := h
  exact ⟨rfl, h1, h2⟩
theorem CH {q : Int × Int} (h1 : -9223372036854775808 ≤ q.1 ∧ q.1 ≤ 9223372036854775807) (h2 : -9223372036854775808 ≤ q.2 ∧ q.2 ≤ 9223372036854775807) : Rep S w (Hu q) (Xi q) := by
  simp only [Hu, Ze, Rep, RepL]
  exact ⟨_, _, rfl, ⟨rfl, h1⟩, _, _, rfl, ⟨rfl, h2⟩, rfl⟩
theorem Rep.pair_elem {m : List (Int × Int)} {A : Option Addr} {len c : Nat} (h : Rep S w (Kh m) [.slice A len c]) {i : Nat} (hi : i < m.length) :
    ∃ ad, A = some ad ∧ (∀ j (hj : j < (Xi m[i]).length), w.cell? ((ad.add (i * 2)).add j) = some (Xi m[i])[j]) ∧ (-9223372036854775808 ≤ m[i].1 ∧ m[i].1 ≤ 9223372036854775807) ∧ (-9223372036854775808 ≤ m[i].2 ∧ m[i].2 ≤ 9223372036854775807) := by
  obtain ⟨ad, cs, hA, hl, hc, hr⟩ := Rep.elem (sz := 2) h (fun d hd => by obtain ⟨k, _, rfl⟩ := List.mem_map.1 hd; rfl) (i := i) (by simpa using hi)
  rw [List.getElem_map] at hr
  obtain ⟨rfl, h1, h2⟩ := SI hr
  exact ⟨ad, hA, hc, h1, h2⟩
theorem Rep.pairs_len {m : List (Int × Int)} {A : Option Addr} {len c : Nat} (h : Rep S w (Kh m) [.slice A len c]) : len = m.length ∧ len ≤ c ∧ c ≤ 9223372036854775807 := by
  have := h.slice_len
  rwa [List.length_map] at this
def Pl (x : List Str × List Int) : D := .agg [Gf x.1, .slice (x.2.map Ze)]
theorem KH {x : List Str × List Int} {cs : List Value} (h : Rep S w (Pl x) cs) : ∃ A c B e, cs = [.slice A x.1.length c, .slice B x.2.length e] ∧ Rep S w (Gf x.1) [.slice A x.1.length c] ∧ Rep S w (.slice (x.2.map Ze)) [.slice B x.2.length e] := by
  rw [Pl, Rep, RepL] at h
  obtain ⟨c1, c2, rfl, h1, h2⟩ := h
  rw [RepL] at h2
  obtain ⟨c3, c4, rfl, h2, h3⟩ := h2
  rw [RepL] at h3
  subst h3
  obtain ⟨A, c, e1⟩ : ∃ A c, c1 = [.slice A x.1.length c] := by
    have h1' := h1
    rw [Gf, Rep] at h1'
    obtain ⟨A, c, he, -⟩ := h1'
    exact ⟨A, c, by rw [he, List.length_map]⟩
  obtain ⟨B, e, e2⟩ : ∃ A c, c3 = [.slice A x.2.length c] := by
    have h2' := h2
    rw [Rep] at h2'
    obtain ⟨A, c, he, -⟩ := h2'
    exact ⟨A, c, by rw [he, List.length_map]⟩
  subst e1 e2
  exact ⟨A, c, B, e, rfl, h1, h2⟩
theorem RL {x : List Str × List Int} {A B : Option Addr} {c e : Nat} (h1 : Rep S w (Gf x.1) [.slice A x.1.length c]) (h2 : Rep S w (.slice (x.2.map Ze)) [.slice B x.2.length e]) : Rep S w (Pl x) [.slice A x.1.length c, .slice B x.2.length e] := by
  rw [Pl, Rep, RepL]
  refine ⟨_, _, rfl, h1, ?_⟩
  rw [RepL]
  exact ⟨_, _, rfl, h2, by rw [RepL]⟩
theorem Rep.node_elem {l : List (List Str × List Int)} {A : Option Addr} {len c : Nat} (h : Rep S w (.slice (l.map Pl)) [.slice A len c]) {i : Nat} (hi : i < l.length) :
    ∃ ad A1 c1 B1 e1, A = some ad ∧ (∀ j (hj : j < [Value.slice A1 l[i].1.length c1, .slice B1 l[i].2.length e1].length), w.cell? ((ad.add (i * 2)).add j) = some [Value.slice A1 l[i].1.length c1, .slice B1 l[i].2.length e1][j]) ∧
      Rep S w (Gf l[i].1) [.slice A1 l[i].1.length c1] ∧ Rep S w (.slice (l[i].2.map Ze)) [.slice B1 l[i].2.length e1] := by
  obtain ⟨ad, cs, hA, hl, hc, hr⟩ := Rep.elem (sz := 2) h (fun d hd => by obtain ⟨k, _, rfl⟩ := List.mem_map.1 hd; rfl) (i := i) (by simpa using hi)
  rw [List.getElem_map] at hr
  obtain ⟨A1, c1, B1, e1, rfl, h1, h2⟩ := KH hr
  exact ⟨ad, A1, c1, B1, e1, hA, hc, h1, h2⟩
end
end Go.Scarf
namespace Go.Scarf
section
variable {α : Type} (sz : α → Nat) (p : α → α → Nat)
def WO (x : α) (rec : List α → Nat) : List α → Nat
  | [] => sz x + rec []
  | y :: ys => min (p x y + rec ys) (min (sz x + rec (y :: ys)) (sz y + WO x rec ys))
def VO : List α → Nat
  | [] => 0
  | y :: ys => sz y + VO ys
def al : List α → List α → Nat
  | [] => VO sz
  | x :: xs => WO sz p x (al xs)
inductive Ali : List α → List α → Nat → Prop
  | nil : Ali [] [] 0
  | pair {x y : α} {xs ys : List α} {c : Nat} : Ali xs ys c → Ali (x :: xs) (y :: ys) (p x y + c)
  | drop {x : α} {xs ys : List α} {c : Nat} : Ali xs ys c → Ali (x :: xs) ys (sz x + c)
  | add {y : α} {xs ys : List α} {c : Nat} : Ali xs ys c → Ali xs (y :: ys) (sz y + c)
end
section
variable {α : Type} {sz : α → Nat} {p : α → α → Nat}
theorem X3 (y : α) (ys : List α) : al sz p [] (y :: ys) = sz y + al sz p [] ys := rfl
theorem F8 (x : α) (xs : List α) : al sz p (x :: xs) [] = sz x + al sz p xs [] := rfl
theorem Jq (x y : α) (xs ys : List α) : al sz p (x :: xs) (y :: ys) = min (p x y + al sz p xs ys) (min (sz x + al sz p xs (y :: ys)) (sz y + al sz p (x :: xs) ys)) := rfl
theorem Cy (x : α) (xs ys : List α) : al sz p (x :: xs) ys ≤ sz x + al sz p xs ys := by
  cases ys with
  | nil => exact Nat.le_refl _
  | cons y ys => rw [Jq]; omega
theorem KF (y : α) (xs ys : List α) : al sz p xs (y :: ys) ≤ sz y + al sz p xs ys := by
  cases xs with
  | nil => exact Nat.le_refl _
  | cons x xs => rw [Jq]; omega
theorem RA (x y : α) (xs ys : List α) : al sz p (x :: xs) (y :: ys) ≤ p x y + al sz p xs ys := by
  rw [Jq]; omega
theorem UC {xs ys : List α} {c : Nat} (h : Ali sz p xs ys c) : al sz p xs ys ≤ c := by
  induction h with
  | nil => exact Nat.le_refl _
  | pair _ ih => exact Nat.le_trans (RA ..) (Nat.add_le_add_left ih _)
  | drop _ ih => exact Nat.le_trans (Cy ..) (Nat.add_le_add_left ih _)
  | add _ ih => exact Nat.le_trans (KF ..) (Nat.add_le_add_left ih _)
theorem Kq : ∀ (xs ys : List α), Ali sz p xs ys (al sz p xs ys)
  | [], [] => .nil
  | [], y :: ys => .add (Kq [] ys)
  | x :: xs, [] => .drop (Kq xs [])
  | x :: xs, y :: ys => by
    have h1 := Ali.pair (x := x) (y := y) (Kq xs ys)
    have h2 := Ali.drop (x := x) (Kq xs (y :: ys))
    have h3 := Ali.add (y := y) (Kq (x :: xs) ys)
    rw [Jq]
    by_cases e1 : p x y + al sz p xs ys ≤ min (sz x + al sz p xs (y :: ys)) (sz y + al sz p (x :: xs) ys)
    · rw [Nat.min_eq_left e1]; exact h1
    · rw [Nat.min_eq_right (Nat.le_of_not_le e1)]
      by_cases e2 : sz x + al sz p xs (y :: ys) ≤ sz y + al sz p (x :: xs) ys
      · rw [Nat.min_eq_left e2]; exact h2
      · rw [Nat.min_eq_right (Nat.le_of_not_le e2)]; exact h3
termination_by xs ys => xs.length + ys.length
theorem Ali.flip (hp : ∀ x y, p x y = p y x) {xs ys : List α} {c : Nat} (h : Ali sz p xs ys c) : Ali sz p ys xs c := by
  induction h with
  | nil => exact .nil
  | pair _ ih => rw [hp]; exact .pair ih
  | drop _ ih => exact .add ih
  | add _ ih => exact .drop ih
theorem BO (hp : ∀ x y, p x y = p y x) (xs ys : List α) : al sz p xs ys = al sz p ys xs :=
  Nat.le_antisymm (UC ((Kq ys xs).flip hp)) (UC ((Kq xs ys).flip hp))
theorem Ali.append {xs ys xs' ys' : List α} {c c' : Nat} (h : Ali sz p xs ys c) (h' : Ali sz p xs' ys' c') : Ali sz p (xs ++ xs') (ys ++ ys') (c + c') := by
  induction h with
  | nil => simpa using h'
  | pair _ ih => rw [Nat.add_assoc]; exact .pair ih
  | drop _ ih => rw [Nat.add_assoc]; exact .drop ih
  | add _ ih => rw [Nat.add_assoc]; exact .add ih
theorem Ali.zero (hz : ∀ x, 1 ≤ sz x) {xs ys : List α} {c : Nat} (h : Ali sz p xs ys c) (hc : c = 0) : xs.length = ys.length ∧ ∀ i (h1 : i < xs.length) (h2 : i < ys.length), p xs[i] ys[i] = 0 := by
  induction h with
  | nil => exact ⟨rfl, fun i h1 => absurd h1 Ga⟩
  | @pair x y xs ys c _ ih =>
    obtain ⟨h1, h2⟩ := ih by_Om
    refine ⟨by simpa using h1, fun i hi hj => ?_⟩
    match i, hi, hj with
    | 0, _, _ => show p x y = 0; omega
    | i + 1, hi, hj => exact h2 i (by simpa using hi) (by simpa using hj)
  | @drop x _ _ _ _ _ => have := hz x; omega
  | @add y _ _ _ _ _ => have := hz y; omega
theorem RM {xs ys : List α} (hl : xs.length = ys.length) (h : ∀ i (h1 : i < xs.length) (h2 : i < ys.length), p xs[i] ys[i] = 0) : al sz p xs ys = 0 := by
  suffices hA : Ali sz p xs ys 0 from Nat.le_zero.1 (UC hA)
  induction xs generalizing ys with
  | nil => match ys, hl with | [], _ => exact .nil
  | cons x xs ih =>
    match ys, hl with
    | y :: ys, hl =>
      have h0 := h 0 Ga Ga
      have := Ali.pair (sz := sz) (p := p) (x := x) (y := y) (ih (ys := ys) (by simpa using hl) fun i h1 h2 => h (i + 1) (by simpa using h1) (by simpa using h2))
      simp only [List.getElem_cons_zero] at h0
      rwa [h0] at this
theorem PM (hz : ∀ x, 1 ≤ sz x) (xs ys : List α) : al sz p xs ys = 0 ↔ xs.length = ys.length ∧ ∀ i (h1 : i < xs.length) (h2 : i < ys.length), p xs[i] ys[i] = 0 :=
  ⟨fun h => (Kq xs ys).zero hz h, fun h => RM h.1 h.2⟩
theorem Ali.pop (ht : ∀ x y, sz x ≤ p x y + sz y) {xs zs : List α} {c : Nat} (h : Ali sz p xs zs c) : ∀ {ys : List α} {v : α}, zs = ys ++ [v] → ∃ c', Ali sz p xs ys c' ∧ c' ≤ c + sz v := by
  induction h with
  | nil => intro ys v e; simp at e
  | @pair x y xs zs c h ih =>
    intro ys v e
    cases ys with
    | nil =>
      simp only [List.nil_append, List.cons.injEq] at e
      obtain ⟨rfl, rfl⟩ := e
      exact ⟨_, .drop h, by have := ht x y; omega⟩
    | cons y' ys =>
      simp only [List.cons_append, List.cons.injEq] at e
      obtain ⟨rfl, e⟩ := e
      obtain ⟨c', h1, h2⟩ := ih e
      exact ⟨_, .pair h1, by omega⟩
  | @drop x xs zs c h ih =>
    intro ys v e
    obtain ⟨c', h1, h2⟩ := ih e
    exact ⟨_, .drop h1, by omega⟩
  | @add y xs zs c h ih =>
    intro ys v e
    cases ys with
    | nil =>
      simp only [List.nil_append, List.cons.injEq] at e
      obtain ⟨rfl, rfl⟩ := e
      exact ⟨_, h, by omega⟩
    | cons y' ys =>
      simp only [List.cons_append, List.cons.injEq] at e
      obtain ⟨rfl, e⟩ := e
      obtain ⟨c', h1, h2⟩ := ih e
      exact ⟨_, .add h1, by omega⟩
end
end Go.Scarf
