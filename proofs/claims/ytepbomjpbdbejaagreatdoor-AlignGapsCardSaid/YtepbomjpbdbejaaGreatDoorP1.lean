/- A part of the proof. -/
import Derived.Test.YtepbomjpbdbejaaGreatDoorW19
set_option linter.all false
set_option maxHeartbeats 8000000
set_option maxRecDepth 10000
namespace Go.Scarf
theorem WA {ks : List Str} {xs : List Tree} (hn : ks.Nodup) : ∀ {i : Nat} (h : i < ks.length) (h2 : i < xs.length), Fh ks xs ks[i] = some xs[i] := by
  induction ks generalizing xs with
  | nil => intro i h; cases h
  | cons k ks ih =>
    intro i h h2
    cases xs with
    | nil => cases h2
    | cons x xs =>
      cases i with
      | zero => simp [Fh]
      | succ i =>
        have hne : k ≠ ks[i]'(by simpa using h) := fun e => (List.nodup_cons.1 hn).1 (e ▸ List.getElem_mem _)
        simp only [Fh, List.getElem_cons_succ]
        rw [if_neg hne]
        exact ih (List.nodup_cons.1 hn).2 (by simpa using h) (by simpa using h2)
theorem Y7 {ks ks' : List Str} {n : Int} (h : ks.Perm ks') : Zm ks n = Zm ks' n := by
  unfold Zm
  rw [h.length_eq, decide_eq_decide.2 h.nodup_iff]
  congr 2
  rw [Bool.eq_iff_iff, List.all_eq_true, List.all_eq_true]
  exact ⟨fun hh k hk => hh k (h.mem_iff.2 hk), fun hh k hk => hh k (h.mem_iff.1 hk)⟩
theorem Rw {q : Tree → Bool} : ∀ {xs : List Tree}, (∀ x ∈ xs, Xd q x = true) → Qm q xs = true
  | [], _ => rfl
  | x :: xs, h => by rw [Qm, h x Ga, Rw (fun y hy => h y (by simp [hy]))]; rfl
theorem I_ {ks : List Str} {xs : List Tree} (hn : ks.Nodup) (hl : ks.length = xs.length) : (Jy ks xs).Perm (Ze xs) := by
  have h1 : (Jy ks xs).Perm (ks.map fun key => (Fh ks (Ze xs) key).getD (.node 0 [] [] [])) := (Ln ks).map _
  refine h1.trans ?_
  have h2 : (ks.map fun key => (Fh ks (Ze xs) key).getD (.node 0 [] [] [])) = Ze xs := by
    apply List.ext_getElem
    · rw [List.length_map, Ti, List.length_map, hl]
    · intro i h1 h2
      rw [List.getElem_map, WA hn (by simpa using h1) h2]
      rfl
  rw [h2]
theorem Qz {k : Int} {t : Str} {ks : List Str} {xs : List Tree} : Yh (.node k t ks xs) = if k = 6 then .node k t (Jj ks) (Jy ks xs) else .node k t [] (Ze xs) := by rw [Yh]; rfl
theorem HB (x : Tree) : Xd nodeB x = true → Xd nodeB (Yh x) = true := Tree.ind (Q := fun x => Xd nodeB x = true → Xd nodeB (Yh x) = true) (fun k t ks xs ih hx => by
  obtain ⟨hn, hxs⟩ := Ng hx
  have hs : ∀ y ∈ Ze xs, Xd nodeB y = true := by
    intro y hy
    rw [Ti] at hy
    obtain ⟨z, hz, rfl⟩ := List.mem_map.1 hy
    exact ih z hz (hxs z hz)
  rw [Qz]
  split
  · rename_i h6
    subst h6
    obtain ⟨nd, len⟩ := Nq hn
    have hp := I_ nd len
    rw [Xd, Bool.and_eq_true]
    refine ⟨?_, Rw fun y hy => hs y (hp.mem_iff.1 hy)⟩
    simp only [nodeB] at hn ⊢
    rw [if_pos trivial] at hn ⊢
    rw [Y7 (Ln ks), hp.length_eq, Ti, List.length_map]
    exact hn
  · rename_i h6
    rw [Xd, Bool.and_eq_true]
    refine ⟨?_, Rw hs⟩
    simp only [nodeB] at hn ⊢
    by_cases h5 : k = 5
    · rw [if_pos h5] at hn ⊢
      simp at hn ⊢
      exact hn.2
    · rw [if_neg h5, if_neg h6] at hn ⊢
      by_cases hc : ks ≠ [] ∨ xs ≠ []
      · rw [if_pos hc] at hn; cases hn
      · have hk : ks = [] := Classical.byContradiction fun h => hc (.inl h)
        have hx0 : xs = [] := Classical.byContradiction fun h => hc (.inr h)
        subst hk hx0
        simpa [Ze] using hn) x
end Go.Scarf
namespace Go.Scarf
theorem Cr : ∀ xs : List Tree, Vc xs = (xs.map Qc).sum
  | [] => rfl
  | x :: xs => by rw [Vc, Cr xs]; rfl
theorem C3 {xs ys : List Tree} (h : xs.Perm ys) : Vc xs = Vc ys := by
  rw [Cr, Cr]; exact (h.map _).sum_nat
theorem M2 {xs ys : List Tree} (h : xs.Perm ys) : Xc xs = Xc ys := by
  induction h with
  | nil => rfl
  | cons x _ ih => rw [Xc, Xc, ih]
  | swap x y l => simp only [Xc]; omega
  | trans _ _ h1 h2 => rw [h1, h2]
theorem Ht (x : Tree) : Xd nodeB x = true → Qc (Yh x) = Qc x ∧ Hd (Yh x) = Hd x := Tree.ind (Q := fun x => Xd nodeB x = true → Qc (Yh x) = Qc x ∧ Hd (Yh x) = Hd x) (fun k t ks xs ih hx => by
  obtain ⟨hn, hxs⟩ := Ng hx
  have h1 : ∀ ys : List Tree, (∀ y ∈ ys, y ∈ xs) → Vc (Ze ys) = Vc ys ∧ Xc (Ze ys) = Xc ys := by
    intro ys
    induction ys with
    | nil => intro _; exact ⟨rfl, rfl⟩
    | cons y ys ihy =>
      intro hm
      obtain ⟨a, b⟩ := ih y (hm y Ga) (hxs y (hm y Ga))
      obtain ⟨c, d⟩ := ihy (fun z hz => hm z (by simp [hz]))
      simp only [Ze, Vc, Xc, a, b, c, d]
      exact ⟨trivial, trivial⟩
  obtain ⟨a, b⟩ := h1 xs (fun _ h => h)
  rw [Qz]
  split
  · rename_i h6
    subst h6
    obtain ⟨nd, len⟩ := Nq hn
    have hp := I_ nd len
    simp only [Qc, Hd, C3 hp, M2 hp, a, b]
    exact ⟨trivial, trivial⟩
  · simp only [Qc, Hd, a, b]
    exact ⟨trivial, trivial⟩) x
theorem OA {x : Tree} (h : Bj x = true) : Bj (Yh x) = true := by
  obtain ⟨a, b⟩ := Ht x (Ym h)
  have c := HB x (Ym h)
  unfold Bj Wn at h ⊢
  rw [a, b, c]
  simp only [Bool.and_eq_true] at h
  simp [h.1]
theorem Xl {x : Tree} (h : Bj x = true) : Yf x = Yh x := by rw [Yf, if_pos h]
end Go.Scarf
