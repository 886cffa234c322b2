/- A part of the proof. -/
import Derived.Test.YtepbomjpbdbejaaGreatDoorW19
set_option linter.all false
set_option maxHeartbeats 8000000
set_option maxRecDepth 10000
namespace Go.Scarf
theorem GA {ks : List Str} {xs : List Tree} (hn : ks.Nodup) : ∀ {i : Nat} (h : i < ks.length) (h2 : i < xs.length), Yg ks xs ks[i] = some xs[i] := by
  induction ks generalizing xs with
  | nil => intro i h; cases h
  | cons k ks ih =>
    intro i h h2
    cases xs with
    | nil => cases h2
    | cons x xs =>
      cases i with
      | zero => simp [Yg]
      | succ i =>
        have hne : k ≠ ks[i]'(by simpa using h) := fun e => (List.nodup_cons.1 hn).1 (e ▸ List.getElem_mem _)
        simp only [Yg, List.getElem_cons_succ]
        rw [if_neg hne]
        exact ih (List.nodup_cons.1 hn).2 (by simpa using h) (by simpa using h2)
theorem Y5 {ks ks' : List Str} {n : Int} (h : ks.Perm ks') : Zm ks n = Zm ks' n := by
  unfold Zm
  rw [h.length_eq, decide_eq_decide.2 h.nodup_iff]
  congr 2
  rw [Bool.eq_iff_iff, List.all_eq_true, List.all_eq_true]
  exact ⟨fun hh k hk => hh k (h.mem_iff.2 hk), fun hh k hk => hh k (h.mem_iff.1 hk)⟩
theorem Zw {q : Tree → Bool} : ∀ {xs : List Tree}, (∀ x ∈ xs, Ud q x = true) → Um q xs = true
  | [], _ => rfl
  | x :: xs, h => by rw [Um, h x Fa, Zw (fun y hy => h y (by simp [hy]))]; rfl
theorem O8 {ks : List Str} {xs : List Tree} (hn : ks.Nodup) (hl : ks.length = xs.length) : (By ks xs).Perm (Ue xs) := by
  have h1 : (By ks xs).Perm (ks.map fun key => (Yg ks (Ue xs) key).getD (.node 0 [] [] [])) := (Ln ks).map _
  refine h1.trans ?_
  have h2 : (ks.map fun key => (Yg ks (Ue xs) key).getD (.node 0 [] [] [])) = Ue xs := by
    apply List.ext_getElem
    · rw [List.length_map, Hi, List.length_map, hl]
    · intro i h1 h2
      rw [List.getElem_map, GA hn (by simpa using h1) h2]
      rfl
  rw [h2]
theorem Bz {k : Int} {t : Str} {ks : List Str} {xs : List Tree} : Rh (.node k t ks xs) = if k = 6 then .node k t (Cj ks) (By ks xs) else .node k t [] (Ue xs) := by rw [Rh]; rfl
theorem R_ (x : Tree) : Ud nodeB x = true → Ud nodeB (Rh x) = true := Tree.ind (Q := fun x => Ud nodeB x = true → Ud nodeB (Rh x) = true) (fun k t ks xs ih hx => by
  obtain ⟨hn, hxs⟩ := Gg hx
  have hs : ∀ y ∈ Ue xs, Ud nodeB y = true := by
    intro y hy
    rw [Hi] at hy
    obtain ⟨z, hz, rfl⟩ := List.mem_map.1 hy
    exact ih z hz (hxs z hz)
  rw [Bz]
  split
  · rename_i h6
    subst h6
    obtain ⟨nd, len⟩ := Dq hn
    have hp := O8 nd len
    rw [Ud, Bool.and_eq_true]
    refine ⟨?_, Zw fun y hy => hs y (hp.mem_iff.1 hy)⟩
    simp only [nodeB] at hn ⊢
    rw [if_pos trivial] at hn ⊢
    rw [Y5 (Ln ks), hp.length_eq, Hi, List.length_map]
    exact hn
  · rename_i h6
    rw [Ud, Bool.and_eq_true]
    refine ⟨?_, Zw hs⟩
    simp only [nodeB] at hn ⊢
    by_cases h5 : k = 5
    · rw [if_pos h5] at hn ⊢
      simp at hn ⊢
      exact hn.2
    · rw [if_neg h5, if_neg h6] at hn ⊢
      by_cases hc : ks ≠ [] ∨ xs ≠ []
      · rw [if_pos hc] at hn; cases hn
      · have hk : ks = [] := Classical.byContradiction fun h => hc (.inl h)
        have hx0 : xs = [] := Classical.byContradiction fun h => hc (.inr h)
        subst hk hx0
        simpa [Ue] using hn) x
end Go.Scarf
namespace Go.Scarf
theorem Uq : ∀ xs : List Tree, Rc xs = (xs.map Kc).sum
  | [] => rfl
  | x :: xs => by rw [Rc, Uq xs]; rfl
theorem D5 {xs ys : List Tree} (h : xs.Perm ys) : Rc xs = Rc ys := by
  rw [Uq, Uq]; exact (h.map _).sum_nat
theorem D1 {xs ys : List Tree} (h : xs.Perm ys) : Uc xs = Uc ys := by
  induction h with
  | nil => rfl
  | cons x _ ih => rw [Uc, Uc, ih]
  | swap x y l => simp only [Uc]; omega
  | trans _ _ h1 h2 => rw [h1, h2]
theorem Ht (x : Tree) : Ud nodeB x = true → Kc (Rh x) = Kc x ∧ Fd (Rh x) = Fd x := Tree.ind (Q := fun x => Ud nodeB x = true → Kc (Rh x) = Kc x ∧ Fd (Rh x) = Fd x) (fun k t ks xs ih hx => by
  obtain ⟨hn, hxs⟩ := Gg hx
  have h1 : ∀ ys : List Tree, (∀ y ∈ ys, y ∈ xs) → Rc (Ue ys) = Rc ys ∧ Uc (Ue ys) = Uc ys := by
    intro ys
    induction ys with
    | nil => intro _; exact ⟨rfl, rfl⟩
    | cons y ys ihy =>
      intro hm
      obtain ⟨a, b⟩ := ih y (hm y Fa) (hxs y (hm y Fa))
      obtain ⟨c, d⟩ := ihy (fun z hz => hm z (by simp [hz]))
      simp only [Ue, Rc, Uc, a, b, c, d]
      exact ⟨trivial, trivial⟩
  obtain ⟨a, b⟩ := h1 xs (fun _ h => h)
  rw [Bz]
  split
  · rename_i h6
    subst h6
    obtain ⟨nd, len⟩ := Dq hn
    have hp := O8 nd len
    simp only [Kc, Fd, D5 hp, D1 hp, a, b]
    exact ⟨trivial, trivial⟩
  · simp only [Kc, Fd, a, b]
    exact ⟨trivial, trivial⟩) x
theorem VA {x : Tree} (h : Mi x = true) : Mi (Rh x) = true := by
  obtain ⟨a, b⟩ := Ht x (Xm h)
  have c := R_ x (Xm h)
  unfold Mi On at h ⊢
  rw [a, b, c]
  simp only [Bool.and_eq_true] at h
  simp [h.1]
theorem Am {x : Tree} (h : Mi x = true) : Jf x = Rh x := by rw [Jf, if_pos h]
end Go.Scarf
