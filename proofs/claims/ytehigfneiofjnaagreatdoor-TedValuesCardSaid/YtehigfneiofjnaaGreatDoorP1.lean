/- A part of the proof. -/
import Derived.Test.YtehigfneiofjnaaGreatDoorW19
set_option linter.all false
set_option maxHeartbeats 8000000
set_option maxRecDepth 10000
namespace Go.Scarf
theorem L3 {x : Num} (h : Sd x = true) (hd : x.digits = []) : x = Num.zero := by
  unfold Sd at h
  simp only [Bool.or_eq_true, Bool.and_eq_true, decide_eq_true_eq] at h
  rcases h with h | h
  · exact h
  · exact absurd hd (Mg h.1.1.1.1.1)
theorem CE {ks : List Str} {xs : List Tree} (hn : ks.Nodup) : ∀ {i : Nat} (h : i < ks.length) (h2 : i < xs.length), Ai ks xs ks[i] = some xs[i] := by
  induction ks generalizing xs with
  | nil => intro i h; cases h
  | cons k ks ih =>
    intro i h h2
    cases xs with
    | nil => cases h2
    | cons x xs =>
      cases i with
      | zero => simp [Ai]
      | succ i =>
        have hne : k ≠ ks[i]'(by simpa using h) := fun e => (List.nodup_cons.1 hn).1 (e ▸ List.getElem_mem _)
        simp only [Ai, List.getElem_cons_succ]
        rw [if_neg hne]
        exact ih (List.nodup_cons.1 hn).2 (by simpa using h) (by simpa using h2)
theorem O_ {ks ks' : List Str} {n : Int} (h : ks.Perm ks') : Bl ks n = Bl ks' n := by
  unfold Bl
  rw [h.length_eq, decide_eq_decide.2 h.nodup_iff]
  congr 2
  rw [Bool.eq_iff_iff, List.all_eq_true, List.all_eq_true]
  exact ⟨fun hh k hk => hh k (h.mem_iff.2 hk), fun hh k hk => hh k (h.mem_iff.1 hk)⟩
theorem Ry {q : Tree → Bool} : ∀ {xs : List Tree}, (∀ x ∈ xs, Yd q x = true) → Jp q xs = true
  | [], _ => rfl
  | x :: xs, h => by rw [Jp, h x Sa, Ry (fun y hy => h y (by simp [hy]))]; rfl
theorem YB {ks : List Str} {xs : List Tree} (hn : ks.Nodup) (hl : ks.length = xs.length) : (Jw ks xs).Perm (Jg xs) := by
  have h1 : (Jw ks xs).Perm (ks.map fun key => (Ai ks (Jg xs) key).getD (.node 0 [] [] [])) := (Ln ks).map _
  refine h1.trans ?_
  have h2 : (ks.map fun key => (Ai ks (Jg xs) key).getD (.node 0 [] [] [])) = Jg xs := by
    apply List.ext_getElem
    · rw [List.length_map, Aj, List.length_map, hl]
    · intro i h1 h2
      rw [List.getElem_map, CE hn (by simpa using h1) h2]
      rfl
  rw [h2]
theorem Z1 {k : Int} {t : Str} {ks : List Str} {xs : List Tree} : Mh (.node k t ks xs) = if k = 6 then .node k t (Sf ks) (Jw ks xs) else .node k t [] (Jg xs) := by rw [Mh]; rfl
theorem JE (x : Tree) : Yd nodeB x = true → Yd nodeB (Mh x) = true := Tree.ind (Q := fun x => Yd nodeB x = true → Yd nodeB (Mh x) = true) (fun k t ks xs ih hx => by
  obtain ⟨hn, hxs⟩ := Uf hx
  have hs : ∀ y ∈ Jg xs, Yd nodeB y = true := by
    intro y hy
    rw [Aj] at hy
    obtain ⟨z, hz, rfl⟩ := List.mem_map.1 hy
    exact ih z hz (hxs z hz)
  rw [Z1]
  split
  · rename_i h6
    subst h6
    obtain ⟨nd, len⟩ := Kq hn
    have hp := YB nd len
    rw [Yd, Bool.and_eq_true]
    refine ⟨?_, Ry fun y hy => hs y (hp.mem_iff.1 hy)⟩
    simp only [nodeB] at hn ⊢
    rw [if_pos trivial] at hn ⊢
    rw [O_ (Ln ks), hp.length_eq, Aj, List.length_map]
    exact hn
  · rename_i h6
    rw [Yd, Bool.and_eq_true]
    refine ⟨?_, Ry hs⟩
    simp only [nodeB] at hn ⊢
    by_cases h5 : k = 5
    · rw [if_pos h5] at hn ⊢
      simp at hn ⊢
      exact hn.2
    · rw [if_neg h5, if_neg h6] at hn ⊢
      by_cases hc : ks ≠ [] ∨ xs ≠ []
      · rw [if_pos hc] at hn; cases hn
      · have hk : ks = [] := Classical.byContradiction fun h => hc (.inl h)
        have hx0 : xs = [] := Classical.byContradiction fun h => hc (.inr h)
        subst hk hx0
        simpa [Jg] using hn) x
end Go.Scarf
namespace Go.Scarf
theorem Jt : ∀ xs : List Tree, Zc xs = (xs.map Ec).sum
  | [] => rfl
  | x :: xs => by rw [Zc, Jt xs]; rfl
theorem J6 {xs ys : List Tree} (h : xs.Perm ys) : Zc xs = Zc ys := by
  rw [Jt, Jt]; exact (h.map _).sum_nat
theorem Z4 {xs ys : List Tree} (h : xs.Perm ys) : Hd xs = Hd ys := by
  induction h with
  | nil => rfl
  | cons x _ ih => rw [Hd, Hd, ih]
  | swap x y l => simp only [Hd]; omega
  | trans _ _ h1 h2 => rw [h1, h2]
theorem Sw (x : Tree) : Yd nodeB x = true → Ec (Mh x) = Ec x ∧ Wc (Mh x) = Wc x := Tree.ind (Q := fun x => Yd nodeB x = true → Ec (Mh x) = Ec x ∧ Wc (Mh x) = Wc x) (fun k t ks xs ih hx => by
  obtain ⟨hn, hxs⟩ := Uf hx
  have h1 : ∀ ys : List Tree, (∀ y ∈ ys, y ∈ xs) → Zc (Jg ys) = Zc ys ∧ Hd (Jg ys) = Hd ys := by
    intro ys
    induction ys with
    | nil => intro _; exact ⟨rfl, rfl⟩
    | cons y ys ihy =>
      intro hm
      obtain ⟨a, b⟩ := ih y (hm y Sa) (hxs y (hm y Sa))
      obtain ⟨c, d⟩ := ihy (fun z hz => hm z (by simp [hz]))
      simp only [Jg, Zc, Hd, a, b, c, d]
      exact ⟨trivial, trivial⟩
  obtain ⟨a, b⟩ := h1 xs (fun _ h => h)
  rw [Z1]
  split
  · rename_i h6
    subst h6
    obtain ⟨nd, len⟩ := Kq hn
    have hp := YB nd len
    simp only [Ec, Wc, J6 hp, Z4 hp, a, b]
    exact ⟨trivial, trivial⟩
  · simp only [Ec, Wc, a, b]
    exact ⟨trivial, trivial⟩) x
theorem YE {x : Tree} (h : Ti x = true) : Ti (Mh x) = true := by
  obtain ⟨a, b⟩ := Sw x (Tn h)
  have c := JE x (Tn h)
  unfold Ti Yj at h ⊢
  rw [a, b, c]
  simp only [Bool.and_eq_true] at h
  simp [h.1]
theorem Yn {x : Tree} (h : Ti x = true) : Cf x = Mh x := by rw [Cf, if_pos h]
end Go.Scarf
