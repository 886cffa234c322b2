/- A part of the proof. -/
import Derived.Test.YtepbomjpbdbejaaGreatDoorW19
set_option linter.all false
set_option maxHeartbeats 8000000
set_option maxRecDepth 10000
namespace Go.Scarf
theorem U9 {ks : List Str} {xs : List Tree} (hn : ks.Nodup) : ∀ {i : Nat} (h : i < ks.length) (h2 : i < xs.length), Ah ks xs ks[i] = some xs[i] := by
  induction ks generalizing xs with
  | nil => intro i h; cases h
  | cons k ks ih =>
    intro i h h2
    cases xs with
    | nil => cases h2
    | cons x xs =>
      cases i with
      | zero => simp [Ah]
      | succ i =>
        have hne : k ≠ ks[i]'(by simpa using h) := fun e => (List.nodup_cons.1 hn).1 (e ▸ List.getElem_mem _)
        simp only [Ah, List.getElem_cons_succ]
        rw [if_neg hne]
        exact ih (List.nodup_cons.1 hn).2 (by simpa using h) (by simpa using h2)
theorem J6 {ks ks' : List Str} {n : Int} (h : ks.Perm ks') : Tm ks n = Tm ks' n := by
  unfold Tm
  rw [h.length_eq, decide_eq_decide.2 h.nodup_iff]
  congr 2
  rw [Bool.eq_iff_iff, List.all_eq_true, List.all_eq_true]
  exact ⟨fun hh k hk => hh k (h.mem_iff.2 hk), fun hh k hk => hh k (h.mem_iff.1 hk)⟩
theorem Jv {q : Tree → Bool} : ∀ {xs : List Tree}, (∀ x ∈ xs, Rd q x = true) → Gm q xs = true
  | [], _ => rfl
  | x :: xs, h => by rw [Gm, h x Fa, Jv (fun y hy => h y (by simp [hy]))]; rfl
theorem L8 {ks : List Str} {xs : List Tree} (hn : ks.Nodup) (hl : ks.length = xs.length) : (Qx ks xs).Perm (Ue xs) := by
  have h1 : (Qx ks xs).Perm (ks.map fun key => (Ah ks (Ue xs) key).getD (.node 0 [] [] [])) := (Rm ks).map _
  refine h1.trans ?_
  have h2 : (ks.map fun key => (Ah ks (Ue xs) key).getD (.node 0 [] [] [])) = Ue xs := by
    apply List.ext_getElem
    · rw [List.length_map, Ii, List.length_map, hl]
    · intro i h1 h2
      rw [List.getElem_map, U9 hn (by simpa using h1) h2]
      rfl
  rw [h2]
theorem Ny {k : Int} {t : Str} {ks : List Str} {xs : List Tree} : Lh (.node k t ks xs) = if k = 6 then .node k t (Yi ks) (Qx ks xs) else .node k t [] (Ue xs) := by rw [Lh]; rfl
theorem Q_ (x : Tree) : Rd nodeB x = true → Rd nodeB (Lh x) = true := Tree.ind (Q := fun x => Rd nodeB x = true → Rd nodeB (Lh x) = true) (fun k t ks xs ih hx => by
  obtain ⟨hn, hxs⟩ := Gg hx
  have hs : ∀ y ∈ Ue xs, Rd nodeB y = true := by
    intro y hy
    rw [Ii] at hy
    obtain ⟨z, hz, rfl⟩ := List.mem_map.1 hy
    exact ih z hz (hxs z hz)
  rw [Ny]
  split
  · rename_i h6
    subst h6
    obtain ⟨nd, len⟩ := Vp hn
    have hp := L8 nd len
    rw [Rd, Bool.and_eq_true]
    refine ⟨?_, Jv fun y hy => hs y (hp.mem_iff.1 hy)⟩
    simp only [nodeB] at hn ⊢
    rw [if_pos trivial] at hn ⊢
    rw [J6 (Rm ks), hp.length_eq, Ii, List.length_map]
    exact hn
  · rename_i h6
    rw [Rd, Bool.and_eq_true]
    refine ⟨?_, Jv hs⟩
    simp only [nodeB] at hn ⊢
    by_cases h5 : k = 5
    · rw [if_pos h5] at hn ⊢
      simp at hn ⊢
      exact hn.2
    · rw [if_neg h5, if_neg h6] at hn ⊢
      by_cases hc : ks ≠ [] ∨ xs ≠ []
      · rw [if_pos hc] at hn; cases hn
      · have hk : ks = [] := Classical.byContradiction fun h => hc (.inl h)
        have hx0 : xs = [] := Classical.byContradiction fun h => hc (.inr h)
        subst hk hx0
        simpa [Ue] using hn) x
end Go.Scarf
namespace Go.Scarf
theorem Bq : ∀ xs : List Tree, Rc xs = (xs.map Nc).sum
  | [] => rfl
  | x :: xs => by rw [Rc, Bq xs]; rfl
theorem S1 {xs ys : List Tree} (h : xs.Perm ys) : Rc xs = Rc ys := by
  rw [Bq, Bq]; exact (h.map _).sum_nat
theorem Mz {xs ys : List Tree} (h : xs.Perm ys) : Tc xs = Tc ys := by
  induction h with
  | nil => rfl
  | cons x _ ih => rw [Tc, Tc, ih]
  | swap x y l => simp only [Tc]; omega
  | trans _ _ h1 h2 => rw [h1, h2]
theorem Zs (x : Tree) : Rd nodeB x = true → Nc (Lh x) = Nc x ∧ Hd (Lh x) = Hd x := Tree.ind (Q := fun x => Rd nodeB x = true → Nc (Lh x) = Nc x ∧ Hd (Lh x) = Hd x) (fun k t ks xs ih hx => by
  obtain ⟨hn, hxs⟩ := Gg hx
  have h1 : ∀ ys : List Tree, (∀ y ∈ ys, y ∈ xs) → Rc (Ue ys) = Rc ys ∧ Tc (Ue ys) = Tc ys := by
    intro ys
    induction ys with
    | nil => intro _; exact ⟨rfl, rfl⟩
    | cons y ys ihy =>
      intro hm
      obtain ⟨a, b⟩ := ih y (hm y Fa) (hxs y (hm y Fa))
      obtain ⟨c, d⟩ := ihy (fun z hz => hm z (by simp [hz]))
      simp only [Ue, Rc, Tc, a, b, c, d]
      exact ⟨trivial, trivial⟩
  obtain ⟨a, b⟩ := h1 xs (fun _ h => h)
  rw [Ny]
  split
  · rename_i h6
    subst h6
    obtain ⟨nd, len⟩ := Vp hn
    have hp := L8 nd len
    simp only [Nc, Hd, S1 hp, Mz hp, a, b]
    exact ⟨trivial, trivial⟩
  · simp only [Nc, Hd, a, b]
    exact ⟨trivial, trivial⟩) x
theorem N9 {x : Tree} (h : Ui x = true) : Ui (Lh x) = true := by
  obtain ⟨a, b⟩ := Zs x (Em h)
  have c := Q_ x (Em h)
  unfold Ui Wm at h ⊢
  rw [a, b, c]
  simp only [Bool.and_eq_true] at h
  simp [h.1]
theorem Jl {x : Tree} (h : Ui x = true) : Pf x = Lh x := by rw [Pf, if_pos h]
end Go.Scarf
