/- A part of the proof. -/
import Derived.Test.YtehmojdjpmliaaaGreatDoorP6
set_option linter.all false
namespace Go.Scarf
def nl (s : Str) : Nat := s.count 10
theorem nl_app (a b : Str) : nl (a ++ b) = nl a + nl b := List.count_append
theorem nl_none {a : Str} (h : ∀ c ∈ a, c ≠ 10) : nl a = 0 := List.count_eq_zero.2 fun hm => h 10 hm rfl
theorem esc_nl (r : Nat) : nl (escS r) = 0 := by
  unfold escS
  split
  · refine nl_none fun c hc => ?_
    rename_i h
    rcases List.mem_cons.1 hc with rfl | hc
    · decide
    · rw [List.mem_singleton.1 hc]
      revert h
      unfold letterZ
      repeat' split
      all_goals first | (intro _; decide) | (intro h; exact absurd rfl h)
  split
  · rename_i h1 h2
    exact nl_none fun c hc => (runeS_bytes h2 h1 c hc).2.2
  · rename_i h1 h2
    rw [nl_app, nl_app]
    have e1 : nl [92, 117] = 0 := by decide
    have e2 : nl (Lib.repeatL [48] (4 - (hexS r).length)) = 0 := nl_none fun c hc => by rw [rep_bytes 48 _ c hc]; decide
    have e3 : nl (hexS r) = 0 := nl_none fun c hc => by
      unfold hexS at hc
      split at hc
      · rw [List.mem_singleton.1 hc]; exact (dg_bytes r (by omega)).2.2
      · rcases List.mem_cons.1 hc with rfl | hc
        · exact (dg_bytes (r / 16) (by omega)).2.2
        · rw [List.mem_singleton.1 hc]; exact (dg_bytes (r % 16) (by omega)).2.2
    omega
theorem escF_nl : ∀ (f : Nat) (s : Str) (p : Nat), nl (escF f s p) = 0
  | 0, s, p => by rw [escF]; rfl
  | f + 1, s, p => by
    rw [escF]
    split
    · rw [nl_app, esc_nl, escF_nl f s _]
    · rfl
theorem qS_nl (t : Str) : nl (qS t) = 0 := by
  unfold qS
  split
  · rw [quoteS, nl_app, nl_app, escAt, escF_nl]; rfl
  · rfl
theorem line_nl (ind d : Nat) : nl (lineS true ind d) = 1 := by
  rw [lineS, if_pos rfl, nl_app, nl_none (a := Lib.repeatL [32] (ind * d)) fun c hc => by rw [rep_bytes 32 _ c hc]; decide]
  rfl
theorem join_nl (ind d : Nat) : ∀ (ps : List Str) (b : Bool), nl (joinS true ind d b ps) = ps.length + (ps.map nl).sum
  | [], b => by rw [joinS]; rfl
  | p :: ps, b => by
    rw [joinS, nl_app, nl_app, nl_app, line_nl, join_nl ind d ps false, List.map_cons, List.sum_cons, List.length_cons]
    have : nl (if b = true then ([] : Str) else [44]) = 0 := by split <;> rfl
    omega
theorem items_nl (ind d : Nat) {o c : UInt8} (ho : o ≠ 10) (hc : c ≠ 10) (ps : List Str) : nl (itemsS true ind d o c ps) = ps.length + (ps.map nl).sum + (if ps = [] then 0 else 1) := by
  rw [itemsS, nl_app, nl_app, nl_app, join_nl]
  have h1 : nl [o] = 0 := nl_none (by simpa using ho)
  have h2 : nl [c] = 0 := nl_none (by simpa using hc)
  have h3 : nl (if ps = [] then [] else lineS true ind d) = if ps = [] then 0 else 1 := by
    split
    · rfl
    · exact line_nl _ _
  omega
theorem val_nl (ind : Nat) (x : Tree) : allT rnodeB x = true → ∀ d, nl (valS true ind x d) + 2 ≤ 2 * sizeT x ∧ (nl (valS true ind x d) = 0 ↔ x.items = []) := Tree.ind (Q := fun x => allT rnodeB x = true → ∀ d, nl (valS true ind x d) + 2 ≤ 2 * sizeT x ∧ (nl (valS true ind x d) = 0 ↔ x.items = [])) (fun k t ks xs ih hx d => by
  obtain ⟨hn, hxs⟩ := allT_node hx
  have key1 : ∀ ys : List Tree, (∀ y ∈ ys, y ∈ xs) → ((valsS true ind ys (d + 1)).map nl).sum + 2 * ys.length ≤ 2 * sizeTs ys := by
    intro ys
    induction ys with
    | nil => intro _; simp [valsS]
    | cons y ys ihy =>
      intro hm
      have h1 := (ih y (hm y (by simp)) (hxs y (hm y (by simp))) (d + 1)).1
      have h2 := ihy fun z hz => hm z (by simp [hz])
      rw [valsS, List.map_cons, List.sum_cons, sizeTs, List.length_cons]
      omega
  have key2 : ∀ (ys : List Tree) (js : List Str), (∀ y ∈ ys, y ∈ xs) → ((memsS true ind ys js (d + 1)).map nl).sum + 2 * ys.length ≤ 2 * sizeTs ys := by
    intro ys
    induction ys with
    | nil => intro _ _; simp [memsS]
    | cons y ys ihy =>
      intro js hm
      have h1 := (ih y (hm y (by simp)) (hxs y (hm y (by simp))) (d + 1)).1
      have h2 := ihy js.tail fun z hz => hm z (by simp [hz])
      have h3 : nl [58] = 0 := by decide
      have h4 : nl (if true = true then ([32] : Str) else []) = 0 := by decide
      rw [memsS, List.map_cons, List.sum_cons, sizeTs, List.length_cons, nl_app, nl_app, nl_app, qS_nl]
      omega
  have fin : ∀ (o c : UInt8) (ps : List Str), o ≠ 10 → c ≠ 10 → ps.length = xs.length → (ps.map nl).sum + 2 * xs.length ≤ 2 * sizeTs xs →
      nl (itemsS true ind d o c ps) + 2 ≤ 2 * (1 + sizeTs xs) ∧ (nl (itemsS true ind d o c ps) = 0 ↔ xs = []) := by
    intro o c ps ho hc hl hs
    rw [items_nl ind d ho hc]
    by_cases hp : ps = []
    · subst hp
      have hx : xs = [] := List.eq_nil_of_length_eq_zero (by simpa using hl.symm)
      subst hx
      simp [sizeTs]
    · rw [if_neg hp]
      have hx : xs ≠ [] := fun e => hp (List.eq_nil_of_length_eq_zero (by rw [hl, e]; rfl))
      have h0 : 0 < xs.length := List.length_pos_iff.2 hx
      exact ⟨by omega, ⟨fun h => by omega, fun h => absurd h hx⟩⟩
  have leaf : ∀ s : Str, nl s = 0 → xs = [] → nl s + 2 ≤ 2 * (1 + sizeTs xs) ∧ (nl s = 0 ↔ xs = []) := fun s h1 h2 => ⟨by omega, by simp [h1, h2]⟩
  have hxe : ¬ k = 5 → ¬ k = 6 → xs = [] := by
    intro h5 h6
    unfold rnodeB at hn
    rw [Bool.and_eq_true] at hn
    have h := hn.2
    simp only [nodeB, if_neg h5, if_neg h6] at h
    split at h
    · cases h
    · rename_i hh
      exact Classical.byContradiction fun hc => hh (.inr hc)
  rw [valS, sizeT]
  show _ ∧ (_ ↔ xs = [])
  split
  · rename_i h1
    exact leaf _ (by decide) (hxe (by omega) (by omega))
  split
  · rename_i h1 h4
    exact leaf _ (qS_nl _) (hxe (by omega) (by omega))
  split
  · exact fin _ _ _ (by decide) (by decide) (by rw [valsS_eq, List.length_map]) (key1 xs fun _ h => h)
  split
  · exact fin _ _ _ (by decide) (by decide) (by rw [memsS_length]) (key2 xs ks fun _ h => h)
  · rename_i h1 h4 h5 h6
    exact leaf _ (nl_none fun c hc => (leaf_plain hn h1 h4 h5 h6 c hc).2.2) (hxe h5 h6)) x
end Go.Scarf
