/- A part of the proof. -/
import Derived.Test.YtepbomjpbdbejaaGreatDoorW19
set_option linter.all false
set_option maxHeartbeats 8000000
set_option maxRecDepth 10000
namespace Go.Scarf
theorem Mv {ks : List Str} {xs : List Tree} (hn : ks.Nodup) : ∀ {i : Nat} (h : i < ks.length) (h2 : i < xs.length), Me ks xs ks[i] = some xs[i] := by
  induction ks generalizing xs with
  | nil => intro i h; cases h
  | cons k ks ih =>
    intro i h h2
    cases xs with
    | nil => cases h2
    | cons x xs =>
      cases i with
      | zero => simp [Me]
      | succ i =>
        have hne : k ≠ ks[i]'(by simpa using h) := fun e => (List.nodup_cons.1 hn).1 (e ▸ List.getElem_mem _)
        simp only [Me, List.getElem_cons_succ]
        rw [if_neg hne]
        exact ih (List.nodup_cons.1 hn).2 (by simpa using h) (by simpa using h2)
theorem YK {ks : List Str} {xs : List Tree} (hl : ks.length = xs.length) {key : Str} (h : key ∈ ks) : ∃ y, Me ks xs key = some y := by
  induction ks generalizing xs with
  | nil => cases h
  | cons k ks ih =>
    cases xs with
    | nil => cases hl
    | cons x xs =>
      rw [Me]
      by_cases e : k = key
      · exact ⟨x, if_pos e⟩
      · rw [if_neg e]
        exact ih (by simpa using hl) (by rcases List.mem_cons.1 h with h | h; exact absurd h.symm e; exact h)
theorem YE {ks : List Str} {xs : List Tree} {key : Str} {y : Tree} (h : Me ks xs key = some y) : key ∈ ks := by
  induction ks generalizing xs with
  | nil => cases xs <;> cases h
  | cons k ks ih =>
    cases xs with
    | nil => cases h
    | cons x xs =>
      rw [Me] at h
      by_cases e : k = key
      · simp [e]
      · rw [if_neg e] at h; simp [ih h]
theorem Lm {ks : List Str} {xs : List Tree} (key : Str) : Me ks (He xs) key = (Me ks xs key).map sortT := by
  cases h : Me ks xs key with
  | some y => exact Ls h
  | none =>
    induction ks generalizing xs with
    | nil => cases xs <;> rfl
    | cons k ks ih =>
      cases xs with
      | nil => rfl
      | cons x xs =>
        rw [Me] at h
        rw [He, Me]
        by_cases e : k = key
        · rw [if_pos e] at h; cases h
        · rw [if_neg e] at h ⊢; exact ih h
theorem K8 {ks ks' : List Str} (h1 : ks.Nodup) (hl : ks.length = ks'.length) (hs : ∀ k ∈ ks, k ∈ ks') : ks.Perm ks' := by
  induction ks generalizing ks' with
  | nil =>
    have : ks' = [] := List.eq_nil_of_length_eq_zero (by simpa using hl.symm)
    subst this; exact .refl _
  | cons k ks ih =>
    have hk := hs k Ga
    have hp := List.perm_cons_erase hk
    refine List.Perm.trans (List.Perm.cons k (ih (List.nodup_cons.1 h1).2 ?_ ?_)) hp.symm
    · rw [List.length_erase_of_mem hk, ← hl]; simp
    · intro x hx
      have hne : x ≠ k := fun e => (List.nodup_cons.1 h1).1 (e ▸ hx)
      exact (List.mem_erase_of_ne hne).2 (hs x (by simp [hx]))
theorem O3 {xs ys : List Tree} (h : ∀ x ∈ xs, ∀ y, Vc nodeB y = true → (Wj x y = true ↔ sortT x = sortT y)) (hl : xs.length = ys.length) (hy : ∀ y ∈ ys, Vc nodeB y = true) : Lt xs ys = true ↔ He xs = He ys := by
  induction xs generalizing ys with
  | nil => cases ys with
    | nil => simp [Lt]
    | cons y ys => cases hl
  | cons x xs ih => cases ys with
    | nil => cases hl
    | cons y ys =>
      rw [Lt, Bool.and_eq_true, h x Ga y (hy y Ga), ih (fun x hx => h x (by simp [hx])) (by simpa using hl) (fun y hy' => hy y (by simp [hy'])), He, He, List.cons.injEq]
theorem JB (xs : List Tree) (ks ks' : List Str) (ys : List Tree) (hl : ks.length = xs.length) : Gu xs ks ks' ys = true ↔ ∀ i (h : i < ks.length), ∃ y, Me ks' ys ks[i] = some y ∧ Wj (xs[i]'by_Om) y = true := by
  induction xs generalizing ks with
  | nil =>
    have : ks = [] := List.eq_nil_of_length_eq_zero (by simpa using hl)
    subst this
    simp [Gu]
  | cons x xs ih => cases ks with
    | nil => cases hl
    | cons k ks =>
      rw [Gu, Bool.and_eq_true, ih ks (by simpa using hl)]
      constructor
      · rintro ⟨h1, h2⟩ i hi
        cases i with
        | zero =>
          cases hk : Me ks' ys k with
          | none => rw [hk] at h1; cases h1
          | some y => rw [hk] at h1; exact ⟨y, hk, h1⟩
        | succ i => exact h2 i (by simpa using hi)
      · intro h
        refine ⟨?_, fun i hi => h (i + 1) (by simpa using hi)⟩
        obtain ⟨y, h1, h2⟩ := h 0 Ga
        simp only [List.getElem_cons_zero] at h1 h2
        rw [h1]; exact h2
theorem OJ (x : Tree) : Vc nodeB x = true → ∀ y, Vc nodeB y = true → (Wj x y = true ↔ sortT x = sortT y) := Tree.ind (Q := fun x => Vc nodeB x = true → ∀ y, Vc nodeB y = true → (Wj x y = true ↔ sortT x = sortT y)) (fun k t ks xs ih hx y hy => by
  obtain ⟨k', t', ks', ys⟩ := y
  obtain ⟨hn, hxs⟩ := Td hx
  obtain ⟨hn', hys⟩ := Td hy
  have ih' : ∀ x ∈ xs, ∀ y, Vc nodeB y = true → (Wj x y = true ↔ sortT x = sortT y) := fun x hx' => ih x hx' (hxs x hx')
  rw [Wj, Bool.and_eq_true, Bool.and_eq_true, Bool.and_eq_true, decide_eq_true_eq, decide_eq_true_eq, decide_eq_true_eq, sortT, sortT]
  by_cases h : k = k'
  · subst h
    by_cases h6 : k = 6
    · subst h6
      obtain ⟨nd, len⟩ := Tl hn
      obtain ⟨nd', len'⟩ := Tl hn'
      rw [if_neg Ga, if_pos rfl, if_pos rfl, Bool.and_eq_true, decide_eq_true_eq, JB xs ks ks' ys len]
      constructor
      · rintro ⟨⟨⟨-, e1⟩, e2⟩, e3, hall⟩
        have hp : ks.Perm ks' := K8 nd e3 (fun k hk => by
          obtain ⟨i, hi, rfl⟩ := List.getElem_of_mem hk
          obtain ⟨y, h1, -⟩ := hall i hi
          exact YE h1)
        have hs : Ui ks = Ui ks' := by unfold Ui; exact mergeSort_of_perm hp
        rw [e1, ← hs]
        congr 1
        refine List.map_congr_left fun key hkey => ?_
        have hin := Pm.1 hkey
        obtain ⟨i, hi, rfl⟩ := List.getElem_of_mem hin
        obtain ⟨y, h1, h2⟩ := hall i hi
        rw [Lm, Lm, h1, Mv nd hi by_Om]
        simp only [Option.map_some, Option.getD_some]
        exact (ih' _ (List.getElem_mem _) y (hys y (Dr h1))).1 h2
      · intro e
        injection e with _ e1 e2 e3
        have hl : ks.length = ks'.length := by have := congrArg List.length e2; rwa [Dh, Dh] at this
        refine ⟨⟨⟨rfl, e1⟩, by omega⟩, hl, fun i hi => ?_⟩
        have hin : ks[i] ∈ Ui ks := Pm.2 (List.getElem_mem _)
        have hin' : ks[i] ∈ ks' := Pm.1 (e2 ▸ hin)
        obtain ⟨y, h1⟩ := YK len' hin'
        refine ⟨y, h1, (ih' _ (List.getElem_mem _) y (hys y (Dr h1))).2 ?_⟩
        rw [← e2] at e3
        have := List.map_inj_left.1 e3 ks[i] hin
        rw [Lm, Lm, h1, Mv nd hi by_Om] at this
        simpa using this
    · rw [if_pos h6, if_neg h6, if_neg h6]
      constructor
      · rintro ⟨⟨⟨-, e1⟩, e2⟩, e3⟩
        rw [e1, (O3 ih' e2 hys).1 e3]
      · intro e
        injection e with _ e1 _ e3
        have hl : xs.length = ys.length := by have := congrArg List.length e3; rwa [Xg, Xg, List.length_map, List.length_map] at this
        exact ⟨⟨⟨rfl, e1⟩, hl⟩, (O3 ih' hl hys).2 e3⟩
  · constructor
    · rintro ⟨⟨⟨e, -⟩, -⟩, -⟩; exact absurd e h
    · intro e
      exfalso
      split at e <;> split at e <;> injection e with e <;> exact h e) x
theorem BA {ks ks' : List Str} {n : Int} (h : ks.Perm ks') : Eo ks n = Eo ks' n := by
  unfold Eo
  rw [h.length_eq, decide_eq_decide.2 h.nodup_iff]
  congr 2
  rw [Bool.eq_iff_iff, List.all_eq_true, List.all_eq_true]
  exact ⟨fun hh k hk => hh k (h.mem_iff.2 hk), fun hh k hk => hh k (h.mem_iff.1 hk)⟩
theorem Ay {q : Tree → Bool} : ∀ {xs : List Tree}, (∀ x ∈ xs, Vc q x = true) → Zm q xs = true
  | [], _ => rfl
  | x :: xs, h => by rw [Zm, h x Ga, Ay (fun y hy => h y (by simp [hy]))]; rfl
theorem Q5 {ks : List Str} {xs : List Tree} (hn : ks.Nodup) (hl : ks.length = xs.length) : (C2 ks xs).Perm (He xs) := by
  have h1 : (C2 ks xs).Perm (ks.map fun key => (Me ks (He xs) key).getD (.node 0 [] [] [])) := (Xo ks).map _
  refine h1.trans ?_
  have h2 : (ks.map fun key => (Me ks (He xs) key).getD (.node 0 [] [] [])) = He xs := by
    apply List.ext_getElem
    · rw [List.length_map, Xg, List.length_map, hl]
    · intro i h1 h2
      rw [List.getElem_map, Mv hn (by simpa using h1) h2]
      rfl
  rw [h2]
theorem Iw {k : Int} {t : Str} {ks : List Str} {xs : List Tree} : sortT (.node k t ks xs) = if k = 6 then .node k t (Ui ks) (C2 ks xs) else .node k t [] (He xs) := by rw [sortT]; rfl
theorem CG (x : Tree) : Vc nodeB x = true → Vc nodeB (sortT x) = true := Tree.ind (Q := fun x => Vc nodeB x = true → Vc nodeB (sortT x) = true) (fun k t ks xs ih hx => by
  obtain ⟨hn, hxs⟩ := Td hx
  have hs : ∀ y ∈ He xs, Vc nodeB y = true := by
    intro y hy
    rw [Xg] at hy
    obtain ⟨z, hz, rfl⟩ := List.mem_map.1 hy
    exact ih z hz (hxs z hz)
  rw [Iw]
  split
  · rename_i h6
    subst h6
    obtain ⟨nd, len⟩ := Tl hn
    have hp := Q5 nd len
    rw [Vc, Bool.and_eq_true]
    refine ⟨?_, Ay fun y hy => hs y (hp.mem_iff.1 hy)⟩
    simp only [nodeB] at hn ⊢
    rw [if_pos trivial] at hn ⊢
    rw [BA (Xo ks), hp.length_eq, Xg, List.length_map]
    exact hn
  · rename_i h6
    rw [Vc, Bool.and_eq_true]
    refine ⟨?_, Ay hs⟩
    simp only [nodeB] at hn ⊢
    by_cases h5 : k = 5
    · rw [if_pos h5] at hn ⊢
      simp at hn ⊢
      exact hn.2
    · rw [if_neg h5, if_neg h6] at hn ⊢
      by_cases hc : ks ≠ [] ∨ xs ≠ []
      · rw [if_pos hc] at hn; cases hn
      · have hk : ks = [] := Classical.byContradiction fun h => hc (.inl h)
        have hx0 : xs = [] := Classical.byContradiction fun h => hc (.inr h)
        subst hk hx0
        simpa [He] using hn) x
theorem NE {x y : Tree} (hx : Th x = true) (hy : Th y = true) : Gm x y = true ↔ sortT x = sortT y := by
  unfold Gm
  rw [hx, hy]
  exact OJ x (Gi hx) y (Gi hy)
end Go.Scarf
namespace Go.Scarf
theorem Rs : ∀ xs : List Tree, Xc xs = (xs.map Ac).sum
  | [] => rfl
  | x :: xs => by rw [Xc, Rs xs]; rfl
theorem R9 {xs ys : List Tree} (h : xs.Perm ys) : Xc xs = Xc ys := by
  rw [Rs, Rs]; exact (h.map _).sum_nat
theorem H5 {xs ys : List Tree} (h : xs.Perm ys) : Zc xs = Zc ys := by
  induction h with
  | nil => rfl
  | cons x _ ih => rw [Zc, Zc, ih]
  | swap x y l => simp only [Zc]; omega
  | trans _ _ h1 h2 => rw [h1, h2]
theorem Tv (x : Tree) : Vc nodeB x = true → Ac (sortT x) = Ac x ∧ Gd (sortT x) = Gd x := Tree.ind (Q := fun x => Vc nodeB x = true → Ac (sortT x) = Ac x ∧ Gd (sortT x) = Gd x) (fun k t ks xs ih hx => by
  obtain ⟨hn, hxs⟩ := Td hx
  have h1 : ∀ ys : List Tree, (∀ y ∈ ys, y ∈ xs) → Xc (He ys) = Xc ys ∧ Zc (He ys) = Zc ys := by
    intro ys
    induction ys with
    | nil => intro _; exact ⟨rfl, rfl⟩
    | cons y ys ihy =>
      intro hm
      obtain ⟨a, b⟩ := ih y (hm y Ga) (hxs y (hm y Ga))
      obtain ⟨c, d⟩ := ihy (fun z hz => hm z (by simp [hz]))
      simp only [He, Xc, Zc, a, b, c, d]
      exact ⟨trivial, trivial⟩
  obtain ⟨a, b⟩ := h1 xs (fun _ h => h)
  rw [Iw]
  split
  · rename_i h6
    subst h6
    obtain ⟨nd, len⟩ := Tl hn
    have hp := Q5 nd len
    simp only [Ac, Gd, R9 hp, H5 hp, a, b]
    exact ⟨trivial, trivial⟩
  · simp only [Ac, Gd, a, b]
    exact ⟨trivial, trivial⟩) x
theorem V4 {x : Tree} (h : Th x = true) : Th (sortT x) = true := by
  obtain ⟨a, b⟩ := Tv x (Gi h)
  have c := CG x (Gi h)
  unfold Th Hn at h ⊢
  rw [a, b, c]
  simp only [Bool.and_eq_true] at h
  simp [h.1]
theorem Fi {x : Tree} (h : Th x = true) : Re x = sortT x := by rw [Re, if_pos h]
end Go.Scarf
