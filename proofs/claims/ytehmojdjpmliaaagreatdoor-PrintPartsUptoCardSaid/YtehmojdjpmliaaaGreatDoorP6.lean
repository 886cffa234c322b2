/- A part of the proof. -/
import Derived.Test.YtehmojdjpmliaaaGreatDoorP5
set_option linter.all false
namespace Go.Scarf
theorem esc_inq (r : Nat) : Inq (escS r) := by
  unfold escS
  split
  · exact Inq.esc _
  split
  · rename_i h1 h2
    exact Inq.bytes fun c hc => ⟨(runeS_bytes h2 h1 c hc).1, (runeS_bytes h2 h1 c hc).2.1⟩
  · rename_i h1 h2
    refine Inq.app (Inq.app (Inq.esc 117) (Inq.bytes fun c hc => ?_)) (Inq.bytes fun c hc => ?_)
    · rw [rep_bytes 48 _ c hc]; decide
    · unfold hexS at hc
      have k1 := dg_bytes r (by omega)
      have k2 := dg_bytes (r / 16) (by omega)
      have k3 := dg_bytes (r % 16) (by omega)
      split at hc
      · rw [List.mem_singleton.1 hc]; exact ⟨k1.1, k1.2.1⟩
      · rcases List.mem_cons.1 hc with rfl | hc
        · exact ⟨k2.1, k2.2.1⟩
        · rw [List.mem_singleton.1 hc]; exact ⟨k3.1, k3.2.1⟩
theorem escF_inq : ∀ (f : Nat) (s : Str) (p : Nat), Inq (escF f s p)
  | 0, s, p => by rw [escF]; exact Inq.nil
  | f + 1, s, p => by
    rw [escF]
    split
    · exact Inq.app (esc_inq _) (escF_inq f s _)
    · exact Inq.nil
theorem qS_bal (t : Str) : Bal (qS t) (qS t) := by
  unfold qS
  split
  · exact Bal.quote (escF_inq _ _ _)
  · exact Bal.nil
theorem lineS_bal (m : Bool) (ind d : Nat) : Bal (lineS m ind d) [] := by
  unfold lineS
  split
  · refine Bal.app (Bal.blank (.inr rfl)) ?_
    have : ∀ n, Bal (Lib.repeatL [32] n) [] := by
      intro n
      induction n with
      | zero => exact Bal.nil
      | succ n ih =>
        have e : Lib.repeatL [32] (n + 1) = [32] ++ Lib.repeatL [32] n := by simp [Lib.repeatL]
        rw [e]; exact Bal.app (Bal.blank (.inl rfl)) ih
    exact this _
  · exact Bal.nil
inductive BalL : List Str → List Str → Prop where
  | nil : BalL [] []
  | cons {a b : Str} {ps qs : List Str} (h : Bal a b) (k : BalL ps qs) : BalL (a :: ps) (b :: qs)
theorem join_bal (m : Bool) (ind d : Nat) : ∀ {ps qs : List Str}, BalL ps qs → ∀ b d', Bal (joinS m ind d b ps) (joinS false 0 d' b qs)
  | _, _, .nil, b, d' => by rw [joinS, joinS]; exact Bal.nil
  | _, _, .cons h k, b, d' => by
    rw [joinS, joinS]
    refine Bal.app ?_ (Bal.app (a' := []) ?_ (Bal.app h (join_bal m ind d k false d')))
    · cases b
      · exact Bal.byte (by decide) (by decide) (by decide)
      · exact Bal.nil
    · exact lineS_bal _ _ _
theorem items_bal (m : Bool) (ind d d' : Nat) {o c : UInt8} (ho : o ≠ 34 ∧ o ≠ 32 ∧ o ≠ 10) (hc : c ≠ 34 ∧ c ≠ 32 ∧ c ≠ 10) {ps qs : List Str} (h : BalL ps qs) : Bal (itemsS m ind d o c ps) (itemsS false 0 d' o c qs) := by
  unfold itemsS
  refine Bal.app (Bal.byte ho.1 ho.2.1 ho.2.2) (Bal.app (join_bal m ind d h true d') (Bal.app (b' := [c]) (a' := if qs = [] then [] else lineS false 0 d') ?_ (Bal.byte hc.1 hc.2.1 hc.2.2)))
  have e : (if qs = [] then [] else lineS false 0 d') = ([] : Str) := by split <;> rfl
  rw [e]
  split
  · exact Bal.nil
  · exact lineS_bal _ _ _
theorem dec_dig : ∀ u : Nat, ∀ c ∈ Lib.decDigits u, isDig c = true := fun u => by
  induction u using Nat.strongRecOn with
  | ind u ih =>
    intro c hc
    rw [Lib.decDigits] at hc
    split at hc
    · rw [List.mem_singleton.1 hc, isDig]
      simp only [UInt8.toNat_ofNat', Bool.and_eq_true, decide_eq_true_eq]; omega
    · rcases List.mem_append.1 hc with hc | hc
      · exact ih (u / 10) (by omega) c hc
      · rw [List.mem_singleton.1 hc, isDig]
        simp only [UInt8.toNat_ofNat', Bool.and_eq_true, decide_eq_true_eq]; omega
def numC (c : UInt8) : Prop := isDig c = true ∨ c = 45 ∨ c = 101
theorem numC_ne {c : UInt8} (h : numC c) : c ≠ 34 ∧ c ≠ 32 ∧ c ≠ 10 := by
  rcases h with h | rfl | rfl
  · refine ⟨?_, ?_, ?_⟩ <;> (rintro rfl; revert h; decide)
  · decide
  · decide
theorem text_num (x : Num) : ∀ c ∈ textN x, numC c := by
  intro c hc
  unfold textN at hc
  split at hc
  · cases hc
  split at hc
  · rw [List.mem_singleton.1 hc]; exact .inl (by decide)
  rename_i h1 h2
  have hd : ∀ c ∈ x.digits, isDig c = true := by
    have h3 : rightN x = true := by simpa using h1
    unfold rightN at h3
    simp only [Bool.or_eq_true, Bool.and_eq_true, decide_eq_true_eq] at h3
    rcases h3 with h3 | h3
    · subst h3; exact absurd rfl h2
    · have h4 : digs x.digits = true := by simp_all
      unfold digs at h4
      rw [Bool.and_eq_true, List.all_eq_true] at h4
      exact h4.1
  have hi : ∀ c ∈ Lib.itoa x.exp, numC c := by
    intro c hc
    unfold Lib.itoa at hc
    split at hc
    · rcases List.mem_cons.1 hc with rfl | hc
      · exact .inr (.inl rfl)
      · exact .inl (dec_dig _ c hc)
    · exact .inl (dec_dig _ c hc)
  rcases List.mem_append.1 hc with hc | hc
  · split at hc
    · rcases List.mem_cons.1 hc with rfl | hc
      · exact .inr (.inl rfl)
      · exact .inl (hd c hc)
    · exact .inl (hd c hc)
  · split at hc
    · rcases List.mem_cons.1 hc with rfl | hc
      · exact .inr (.inr rfl)
      · exact hi c hc
    · cases hc
theorem decimal_num {t : Str} (h : decimalB t = true) : ∀ c ∈ t, numC c := by
  unfold decimalB at h
  rw [Bool.and_eq_true, decide_eq_true_eq, decide_eq_true_eq] at h
  rw [← h.2]; exact text_num _
theorem leaf_plain {k : Int} {t : Str} {ks : List Str} {xs : List Tree} (h : rnodeB (.node k t ks xs) = true) (h1 : ¬ k = 1) (h4 : ¬ k = 4) (h5 : ¬ k = 5) (h6 : ¬ k = 6) : ∀ c ∈ t, c ≠ 34 ∧ c ≠ 32 ∧ c ≠ 10 := by
  unfold rnodeB at h
  rw [Bool.and_eq_true, decide_eq_true_eq] at h
  obtain ⟨h7, h⟩ := h
  have h7' : k ≠ 7 := h7
  simp only [nodeB, if_neg h5, if_neg h6, if_neg h1, if_neg h4, if_neg h7'] at h
  split at h
  · cases h
  split at h
  · rw [Bool.or_eq_true, decide_eq_true_eq, decide_eq_true_eq] at h
    rcases h with rfl | rfl <;> decide
  split at h
  · exact fun c hc => numC_ne (decimal_num h c hc)
  · cases h
theorem val_bal (m : Bool) (ind : Nat) (x : Tree) : allT rnodeB x = true → ∀ d d', Bal (valS m ind x d) (valS false 0 x d') := Tree.ind (Q := fun x => allT rnodeB x = true → ∀ d d', Bal (valS m ind x d) (valS false 0 x d')) (fun k t ks xs ih hx d d' => by
  obtain ⟨hn, hxs⟩ := allT_node hx
  have key1 : ∀ ys : List Tree, (∀ y ∈ ys, y ∈ xs) → BalL (valsS m ind ys (d + 1)) (valsS false 0 ys (d' + 1)) := by
    intro ys
    induction ys with
    | nil => intro _; rw [valsS, valsS]; exact .nil
    | cons y ys ihy =>
      intro hm
      rw [valsS, valsS]
      exact .cons (ih y (hm y (by simp)) (hxs y (hm y (by simp))) _ _) (ihy fun z hz => hm z (by simp [hz]))
  have key2 : ∀ (ys : List Tree) (js : List Str), (∀ y ∈ ys, y ∈ xs) → BalL (memsS m ind ys js (d + 1)) (memsS false 0 ys js (d' + 1)) := by
    intro ys
    induction ys with
    | nil => intro _ _; rw [memsS, memsS]; exact .nil
    | cons y ys ihy =>
      intro js hm
      rw [memsS, memsS]
      refine .cons (Bal.app (qS_bal _) (Bal.app (Bal.byte (by decide) (by decide) (by decide)) (Bal.app ?_ (ih y (hm y (by simp)) (hxs y (hm y (by simp))) _ _)))) (ihy js.tail fun z hz => hm z (by simp [hz]))
      cases m
      · exact Bal.nil
      · exact Bal.blank (.inl rfl)
  rw [valS, valS]
  split
  · exact Bal.bytes (by decide)
  split
  · exact qS_bal _
  split
  · exact items_bal m ind d d' (by decide) (by decide) (key1 xs fun _ h => h)
  split
  · exact items_bal m ind d d' (by decide) (by decide) (key2 xs ks fun _ h => h)
  · rename_i h1 h4 h5 h6
    exact Bal.bytes (leaf_plain hn h1 h4 h5 h6)) x
theorem bare_val (m : Bool) (ind d : Nat) {x : Tree} (h : rightB x = true) : bareL false (valS m ind x d) = valS false 0 x 0 := by
  unfold rightB at h
  rw [Bool.and_eq_true] at h
  have h1 := val_bal m ind x h.2 d 0 []
  rw [List.append_nil] at h1
  rw [h1, bareL, List.append_nil]
end Go.Scarf
