/- A part of the proof. -/
import Derived.Test.YtehmojdjpmliaaaGreatDoorW19
set_option linter.all false
namespace Go.Scarf
structure LA {α : Type} (f : α → α → Int) (P : α → Prop) (a : α) : Prop where
  rng : ∀ b, f a b = -1 ∨ f a b = 0 ∨ f a b = 1
  anti : ∀ b, P b → f b a = - f a b
  eq : ∀ b, P b → (f a b = 0 ↔ a = b)
  tr : ∀ b c, P b → P c → f a b ≤ 0 → f b c ≤ 0 → f a c ≤ 0
theorem la_int (a : Int) : LA Lib.compareInt (fun _ => True) a := by
  refine ⟨fun b => ?_, fun b _ => ?_, fun b _ => ?_, fun b c _ _ => ?_⟩ <;> unfold Lib.compareInt <;> (repeat' split) <;> omega
theorem la_bytes : ∀ a : Str, LA Lib.compareBytes (fun _ => True) a := by
  have rng : ∀ a b : Str, Lib.compareBytes a b = -1 ∨ Lib.compareBytes a b = 0 ∨ Lib.compareBytes a b = 1 := by
    intro a
    induction a with
    | nil => intro b; cases b <;> simp [Lib.compareBytes]
    | cons x a ih => intro b; cases b with
      | nil => simp [Lib.compareBytes]
      | cons y b => unfold Lib.compareBytes; repeat' split
                    · exact .inl rfl
                    · exact .inr (.inr rfl)
                    · exact ih b
  have lt3 : ∀ x y : UInt8, ¬ x < y → ¬ y < x → x = y := fun x y h1 h2 => by
    apply UInt8.toNat_inj.1; rw [UInt8.lt_iff_toNat_lt] at h1 h2; omega
  have ltn : ∀ x y : UInt8, x < y ↔ x.toNat < y.toNat := fun x y => UInt8.lt_iff_toNat_lt
  intro a
  refine ⟨rng a, fun b _ => ?_, fun b _ => ?_, fun b c _ _ => ?_⟩
  · induction a generalizing b with
    | nil => cases b <;> simp [Lib.compareBytes]
    | cons x a ih => cases b with
      | nil => simp [Lib.compareBytes]
      | cons y b =>
        unfold Lib.compareBytes
        simp only [ltn]
        repeat' split
        all_goals first | omega | exact ih b
  · induction a generalizing b with
    | nil => cases b <;> simp [Lib.compareBytes]
    | cons x a ih => cases b with
      | nil => simp [Lib.compareBytes]
      | cons y b =>
        unfold Lib.compareBytes
        split
        · rename_i h; simp; intro e; subst e; rw [ltn] at h; omega
        · split
          · rename_i h; simp; intro e; subst e; rw [ltn] at h; omega
          · rename_i h1 h2
            have := lt3 x y h1 h2
            subst this
            rw [ih]; simp
  · induction a generalizing b c with
    | nil => cases b <;> cases c <;> simp [Lib.compareBytes]
    | cons x a ih => cases b with
      | nil => intro h; simp [Lib.compareBytes] at h
      | cons y b => cases c with
        | nil => intro _ h; simp [Lib.compareBytes] at h
        | cons z c =>
          unfold Lib.compareBytes
          simp only [ltn]
          intro h1 h2
          repeat' split
          · omega
          · exfalso
            split at h1
            · split at h2
              · omega
              · split at h2
                · omega
                · omega
            · split at h1
              · omega
              · split at h2
                · omega
                · split at h2
                  · omega
                  · omega
          · split at h1
            · split at h2
              · omega
              · split at h2
                · omega
                · omega
            · split at h1
              · omega
              · split at h2
                · omega
                · split at h2
                  · omega
                  · exact ih b c h1 h2
theorem right_digits {x : Num} (h : rightN x = true) (hd : x.digits = []) : x = Num.zero := by
  unfold rightN at h
  simp only [Bool.or_eq_true, Bool.and_eq_true, decide_eq_true_eq] at h
  rcases h with h | h
  · exact h
  · exact absurd hd (digs_ne h.1.1.1.1.1)
theorem cmpN_right {x y : Num} (hx : rightN x = true) (hy : rightN y = true) : cmpN x y = if signN x = signN y then (if signN x = 0 then 0 else signN x * farN x y) else Lib.compareInt (signN x) (signN y) := by
  have e := (la_int (signN x)).eq (signN y) trivial
  unfold cmpN
  rw [hx, hy]
  simp only [Bool.true_eq_false, if_false]
  by_cases h : signN x = signN y
  · rw [if_neg (fun hh => hh (e.2 h)), if_pos h]
  · rw [if_pos (fun hh => h (e.1 hh)), if_neg h]
theorem far_eq (x y : Num) : farN x y = if Lib.compareInt (x.digits.length + x.exp) (y.digits.length + y.exp) ≠ 0 then Lib.compareInt (x.digits.length + x.exp) (y.digits.length + y.exp) else Lib.compareBytes x.digits y.digits := by
  unfold farN orL
  split
  · rfl
  · unfold orL
    split
    · rfl
    · rename_i h; unfold orL; omega
theorem far_anti (x y : Num) : farN y x = - farN x y := by
  rw [far_eq, far_eq]
  have h1 := (la_int (x.digits.length + x.exp)).anti (y.digits.length + y.exp) trivial
  have h2 := (la_bytes x.digits).anti y.digits trivial
  repeat' split
  all_goals omega
theorem lookT_key {ks : List Str} {xs : List Tree} {key : Str} {y : Tree} (h : lookT ks xs key = some y) : key ∈ ks := by
  induction ks generalizing xs with
  | nil => cases xs <;> cases h
  | cons k ks ih =>
    cases xs with
    | nil => cases h
    | cons x xs =>
      rw [lookT] at h
      by_cases e : k = key
      · simp [e]
      · rw [if_neg e] at h; simp [ih h]
theorem sameM_iff' (xs : List Tree) (ks ks' : List Str) (ys : List Tree) (hl : ks.length = xs.length) : sameM xs ks ks' ys = true ↔ ∀ i (h : i < ks.length), ∃ y, lookT ks' ys ks[i] = some y ∧ sameT (xs[i]'(by omega)) y = true := by
  induction xs generalizing ks with
  | nil =>
    have : ks = [] := List.eq_nil_of_length_eq_zero (by simpa using hl)
    subst this
    simp [sameM]
  | cons x xs ih => cases ks with
    | nil => cases hl
    | cons k ks =>
      rw [sameM, Bool.and_eq_true, ih ks (by simpa using hl)]
      constructor
      · rintro ⟨h1, h2⟩ i hi
        cases i with
        | zero =>
          cases hk : lookT ks' ys k with
          | none => rw [hk] at h1; cases h1
          | some y => rw [hk] at h1; exact ⟨y, hk, h1⟩
        | succ i => exact h2 i (by simpa using hi)
      · intro h
        refine ⟨?_, fun i hi => h (i + 1) (by simpa using hi)⟩
        obtain ⟨y, h1, h2⟩ := h 0 (by simp)
        simp only [List.getElem_cons_zero] at h1 h2
        rw [h1]; exact h2
end Go.Scarf
namespace Go.Scarf
end Go.Scarf
