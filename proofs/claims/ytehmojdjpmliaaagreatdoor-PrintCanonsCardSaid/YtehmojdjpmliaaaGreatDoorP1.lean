/- A part of the proof. -/
import Derived.Test.YtehmojdjpmliaaaGreatDoorW19
set_option linter.all false
namespace Go.Scarf
structure LA {α : Type} (f : α → α → Int) (P : α → Prop) (a : α) : Prop where
  rng : ∀ b, f a b = -1 ∨ f a b = 0 ∨ f a b = 1
  anti : ∀ b, P b → f b a = - f a b
  eq : ∀ b, P b → (f a b = 0 ↔ a = b)
  tr : ∀ b c, P b → P c → f a b ≤ 0 → f b c ≤ 0 → f a c ≤ 0
theorem la_int (a : Int) : LA Lib.compareInt (fun _ => True) a := by
  refine ⟨fun b => ?_, fun b _ => ?_, fun b _ => ?_, fun b c _ _ => ?_⟩ <;> unfold Lib.compareInt <;> (repeat' split) <;> omega
theorem la_bytes : ∀ a : Str, LA Lib.compareBytes (fun _ => True) a := by
  have rng : ∀ a b : Str, Lib.compareBytes a b = -1 ∨ Lib.compareBytes a b = 0 ∨ Lib.compareBytes a b = 1 := by
    intro a
    induction a with
    | nil => intro b; cases b <;> simp [Lib.compareBytes]
    | cons x a ih => intro b; cases b with
      | nil => simp [Lib.compareBytes]
      | cons y b => unfold Lib.compareBytes; repeat' split
                    · exact .inl rfl
                    · exact .inr (.inr rfl)
                    · exact ih b
  have lt3 : ∀ x y : UInt8, ¬ x < y → ¬ y < x → x = y := fun x y h1 h2 => by
    apply UInt8.toNat_inj.1; rw [UInt8.lt_iff_toNat_lt] at h1 h2; omega
  have ltn : ∀ x y : UInt8, x < y ↔ x.toNat < y.toNat := fun x y => UInt8.lt_iff_toNat_lt
  intro a
  refine ⟨rng a, fun b _ => ?_, fun b _ => ?_, fun b c _ _ => ?_⟩
  · induction a generalizing b with
    | nil => cases b <;> simp [Lib.compareBytes]
    | cons x a ih => cases b with
      | nil => simp [Lib.compareBytes]
      | cons y b =>
        unfold Lib.compareBytes
        simp only [ltn]
        repeat' split
        all_goals first | omega | exact ih b
  · induction a generalizing b with
    | nil => cases b <;> simp [Lib.compareBytes]
    | cons x a ih => cases b with
      | nil => simp [Lib.compareBytes]
      | cons y b =>
        unfold Lib.compareBytes
        split
        · rename_i h; simp; intro e; subst e; rw [ltn] at h; omega
        · split
          · rename_i h; simp; intro e; subst e; rw [ltn] at h; omega
          · rename_i h1 h2
            have := lt3 x y h1 h2
            subst this
            rw [ih]; simp
  · induction a generalizing b c with
    | nil => cases b <;> cases c <;> simp [Lib.compareBytes]
    | cons x a ih => cases b with
      | nil => intro h; simp [Lib.compareBytes] at h
      | cons y b => cases c with
        | nil => intro _ h; simp [Lib.compareBytes] at h
        | cons z c =>
          unfold Lib.compareBytes
          simp only [ltn]
          intro h1 h2
          repeat' split
          · omega
          · exfalso
            split at h1
            · split at h2
              · omega
              · split at h2
                · omega
                · omega
            · split at h1
              · omega
              · split at h2
                · omega
                · split at h2
                  · omega
                  · omega
          · split at h1
            · split at h2
              · omega
              · split at h2
                · omega
                · omega
            · split at h1
              · omega
              · split at h2
                · omega
                · split at h2
                  · omega
                  · exact ih b c h1 h2
theorem la_list {α : Type} {f : α → α → Int} {P : α → Prop} : ∀ xs : List α, (∀ x ∈ xs, P x ∧ LA f P x) → LA (cmpL f) (fun l => ∀ x ∈ l, P x) xs
  | [], _ => by
    refine ⟨fun b => ?_, fun b _ => ?_, fun b _ => ?_, fun b c _ _ => ?_⟩
    · cases b <;> simp [cmpL]
    · cases b <;> simp [cmpL]
    · cases b <;> simp [cmpL]
    · cases b <;> cases c <;> simp [cmpL]
  | x :: xs, h => by
    have hx := h x (by simp)
    have ih := la_list xs (fun y hy => h y (by simp [hy]))
    refine ⟨fun b => ?_, fun b hb => ?_, fun b hb => ?_, fun b c hb hc => ?_⟩
    · cases b with
      | nil => simp [cmpL]
      | cons y ys =>
        unfold cmpL
        split
        · exact hx.2.rng y
        · exact ih.rng ys
    · cases b with
      | nil => simp [cmpL]
      | cons y ys =>
        have hy := hx.2.anti y (hb y (by simp))
        have hys := ih.anti ys (fun z hz => hb z (by simp [hz]))
        unfold cmpL
        repeat' split
        all_goals omega
    · cases b with
      | nil => simp [cmpL]
      | cons y ys =>
        have hy := hx.2.eq y (hb y (by simp))
        have hys := ih.eq ys (fun z hz => hb z (by simp [hz]))
        unfold cmpL
        split
        · rename_i hne
          constructor
          · intro e; exact absurd e hne
          · intro e; injection e with e1 e2; exact absurd (hy.2 e1) hne
        · rename_i hne
          rw [hys]
          have hxy : x = y := hy.1 (by omega)
          simp [hxy]
    · cases b with
      | nil => intro h1; simp [cmpL] at h1
      | cons y ys => cases c with
        | nil => intro _ h2; simp [cmpL] at h2
        | cons z zs =>
          intro h1 h2
          have py := hb y (by simp)
          have pz := hc z (by simp)
          have a1 : f x y ≤ 0 := by
            unfold cmpL at h1
            split at h1
            · exact h1
            · omega
          have a2 : f y z ≤ 0 := by
            unfold cmpL at h2
            split at h2
            · exact h2
            · omega
          have a3 := hx.2.tr y z py pz a1 a2
          unfold cmpL
          split
          · exact a3
          · rename_i h0
            have exz : x = z := (hx.2.eq z pz).1 (by omega)
            subst exz
            have ha := hx.2.anti y py
            have e0 : f x y = 0 := by omega
            have exy := (hx.2.eq y py).1 e0
            subst exy
            have t1 : cmpL f xs ys ≤ 0 := by
              unfold cmpL at h1
              rw [if_neg (by omega)] at h1
              exact h1
            have t2 : cmpL f ys zs ≤ 0 := by
              unfold cmpL at h2
              rw [if_neg (by omega)] at h2
              exact h2
            exact ih.tr ys zs (fun w hw => hb w (by simp [hw])) (fun w hw => hc w (by simp [hw])) t1 t2
theorem right_digits {x : Num} (h : rightN x = true) (hd : x.digits = []) : x = Num.zero := by
  unfold rightN at h
  simp only [Bool.or_eq_true, Bool.and_eq_true, decide_eq_true_eq] at h
  rcases h with h | h
  · exact h
  · exact absurd hd (digs_ne h.1.1.1.1.1)
theorem cmpN_right {x y : Num} (hx : rightN x = true) (hy : rightN y = true) : cmpN x y = if signN x = signN y then (if signN x = 0 then 0 else signN x * farN x y) else Lib.compareInt (signN x) (signN y) := by
  have e := (la_int (signN x)).eq (signN y) trivial
  unfold cmpN
  rw [hx, hy]
  simp only [Bool.true_eq_false, if_false]
  by_cases h : signN x = signN y
  · rw [if_neg (fun hh => hh (e.2 h)), if_pos h]
  · rw [if_pos (fun hh => h (e.1 hh)), if_neg h]
theorem far_eq (x y : Num) : farN x y = if Lib.compareInt (x.digits.length + x.exp) (y.digits.length + y.exp) ≠ 0 then Lib.compareInt (x.digits.length + x.exp) (y.digits.length + y.exp) else Lib.compareBytes x.digits y.digits := by
  unfold farN orL
  split
  · rfl
  · unfold orL
    split
    · rfl
    · rename_i h; unfold orL; omega
theorem far_rng (x y : Num) : farN x y = -1 ∨ farN x y = 0 ∨ farN x y = 1 := by
  rw [far_eq]; split
  · exact (la_int _).rng _
  · exact (la_bytes _).rng _
theorem far_anti (x y : Num) : farN y x = - farN x y := by
  rw [far_eq, far_eq]
  have h1 := (la_int (x.digits.length + x.exp)).anti (y.digits.length + y.exp) trivial
  have h2 := (la_bytes x.digits).anti y.digits trivial
  repeat' split
  all_goals omega
theorem far_zero (x y : Num) : farN x y = 0 ↔ (x.digits = y.digits ∧ x.exp = y.exp) := by
  rw [far_eq]
  have h1 := (la_int (x.digits.length + x.exp)).eq (y.digits.length + y.exp) trivial
  have h2 := (la_bytes x.digits).eq y.digits trivial
  split
  · rename_i h
    constructor
    · intro e; exact absurd e h
    · rintro ⟨e1, e2⟩; exact absurd (h1.2 (by rw [e1, e2])) h
  · rename_i h
    rw [h2]
    constructor
    · intro e
      have := h1.1 (by omega)
      rw [e] at this
      exact ⟨e, by omega⟩
    · exact fun e => e.1
theorem far_tr (x y z : Num) (h1 : farN x y ≤ 0) (h2 : farN y z ≤ 0) : farN x z ≤ 0 := by
  have a := (la_int (x.digits.length + x.exp)).tr (y.digits.length + y.exp) (z.digits.length + z.exp) trivial trivial
  have e1 := (la_int (x.digits.length + x.exp)).eq (z.digits.length + z.exp) trivial
  have e2 := (la_int (x.digits.length + x.exp)).eq (y.digits.length + y.exp) trivial
  have e3 := (la_int (y.digits.length + y.exp)).eq (z.digits.length + z.exp) trivial
  have an := (la_int (x.digits.length + x.exp)).anti (y.digits.length + y.exp) trivial
  have b := (la_bytes x.digits).tr y.digits z.digits trivial trivial
  rw [far_eq] at h1 h2 ⊢
  have c1 : Lib.compareInt (x.digits.length + x.exp) (y.digits.length + y.exp) ≤ 0 := by split at h1 <;> omega
  have c2 : Lib.compareInt (y.digits.length + y.exp) (z.digits.length + z.exp) ≤ 0 := by split at h2 <;> omega
  split
  · exact a c1 c2
  · rename_i h0
    have exz := e1.1 (by omega)
    rw [exz] at an
    have c3 : Lib.compareInt (x.digits.length + x.exp) (y.digits.length + y.exp) = 0 := by rw [← exz] at an; rw [exz] at an; rw [← exz] at c2; rw [exz] at c2; rw [exz] at c1 ⊢; omega
    have exy := e2.1 c3
    rw [if_neg (by omega)] at h1
    rw [if_neg (fun hh => hh (e3.2 (by omega)))] at h2
    exact b h1 h2
theorem sign_rng (x : Num) : signN x = -1 ∨ signN x = 0 ∨ signN x = 1 := by
  unfold signN
  repeat' split
  all_goals simp
theorem la_num (x : Num) (hx : rightN x = true) : LA cmpN (fun y => rightN y = true) x := by
  refine ⟨fun y => ?_, fun y hy => ?_, fun y hy => ?_, fun y z hy hz h1 h2 => ?_⟩
  · unfold cmpN
    repeat' split
    all_goals first | simp; done | exact (la_int _).rng _ | skip
    rcases sign_rng x with h | h | h <;> rcases far_rng x y with g | g | g <;> rw [h, g] <;> simp
  · rw [cmpN_right hx hy, cmpN_right hy hx]
    have h1 := (la_int (signN x)).anti (signN y) trivial
    have h2 := far_anti x y
    by_cases e : signN x = signN y
    · rw [if_pos e, if_pos e.symm, ← e, h2]
      split
      · rfl
      · rw [Int.mul_neg]
    · rw [if_neg e, if_neg (fun h => e h.symm), h1]
  · rw [cmpN_right hx hy]
    constructor
    · intro h
      split at h
      · rename_i e
        split at h
        · rename_i e0
          have d1 : x.digits = [] := by
            unfold signN at e0; split at e0
            · assumption
            · split at e0 <;> omega
          have d2 : y.digits = [] := by
            rw [e0] at e
            unfold signN at e; split at e
            · assumption
            · split at e <;> omega
          rw [right_digits hx d1, right_digits hy d2]
        · rename_i e0
          have hf : farN x y = 0 := by
            rcases Int.mul_eq_zero.1 h with h | h
            · exact absurd h e0
            · exact h
          obtain ⟨a1, a2⟩ := (far_zero x y).1 hf
          have a3 : x.neg = y.neg := by
            have hd : x.digits ≠ [] := fun hd => e0 (by unfold signN; rw [if_pos hd])
            unfold signN at e
            have hd2 : y.digits ≠ [] := a1 ▸ hd
            rw [if_neg hd, if_neg hd2] at e
            revert e
            cases x.neg <;> cases y.neg <;> simp
          cases x; cases y; simp_all
      · rename_i e
        exact absurd ((la_int _).eq _ trivial |>.1 h) e
    · rintro rfl
      rw [if_pos rfl]
      split
      · rfl
      · rw [(far_zero x x).2 ⟨rfl, rfl⟩, Int.mul_zero]
  · rw [cmpN_right hx hy] at h1
    rw [cmpN_right hy hz] at h2
    rw [cmpN_right hx hz]
    have s1 : signN x ≤ signN y := by
      split at h1
      · omega
      · unfold Lib.compareInt at h1; split at h1
        · omega
        · split at h1 <;> omega
    have s2 : signN y ≤ signN z := by
      split at h2
      · omega
      · unfold Lib.compareInt at h2; split at h2
        · omega
        · split at h2 <;> omega
    split
    · rename_i e
      have exy : signN x = signN y := by omega
      have eyz : signN y = signN z := by omega
      rw [if_pos exy] at h1
      rw [if_pos eyz] at h2
      rw [← exy] at h2
      split
      · omega
      · rename_i e0
        rw [if_neg e0] at h1 h2
        rcases sign_rng x with h | h | h
        · rw [h] at h1 h2 ⊢
          have := far_tr z y x (by rw [far_anti y z]; omega) (by rw [far_anti x y]; omega)
          rw [far_anti x z] at this
          omega
        · exact absurd h e0
        · rw [h] at h1 h2 ⊢
          have := far_tr x y z (by omega) (by omega)
          omega
    · unfold Lib.compareInt
      rw [if_pos (by omega)]; omega
theorem node3 {t : Str} {ks : List Str} {xs : List Tree} (h : nodeB (.node 3 t ks xs) = true) : ks = [] ∧ xs = [] ∧ decimalB t = true := by
  simp only [nodeB] at h
  simp at h
  obtain ⟨h1, h2⟩ := h
  exact ⟨h1.1, h1.2, h2⟩
theorem dec_inj {t t' : Str} (h : decimalB t = true) (h' : decimalB t' = true) (e : (parseN t).1 = (parseN t').1) : t = t' := by
  unfold decimalB at h h'
  simp only [Bool.and_eq_true, decide_eq_true_eq] at h h'
  rw [← h.2, ← h'.2, e]
theorem orderT_eq (k : Int) (t : Str) (ks : List Str) (xs : List Tree) (k' : Int) (t' : Str) (ks' : List Str) (ys : List Tree) : orderT (.node k t ks xs) (.node k' t' ks' ys) =
    if k = k' then (if k = 3 then cmpN (parseN t).1 (parseN t').1 else if Lib.compareBytes t t' ≠ 0 then Lib.compareBytes t t' else if cmpL Lib.compareBytes ks ks' ≠ 0 then cmpL Lib.compareBytes ks ks' else cmpL orderT xs ys) else Lib.compareInt k k' := by
  have e := (la_int k).eq k' trivial
  rw [orderT, ← orderL_eq]
  by_cases h : k = k'
  · subst h
    rw [if_pos rfl]
    by_cases h3 : k = 3
    · rw [if_pos ⟨h3, h3⟩, if_pos h3]
    · rw [if_neg (fun hh => h3 hh.1), if_neg h3]
      have e0 : Lib.compareInt k k = 0 := e.2 rfl
      simp only [orL, e0]
      by_cases h1 : Lib.compareBytes t t' = 0
      · by_cases h2 : cmpL Lib.compareBytes ks ks' = 0
        · simp [h1, h2]
        · simp [h1, h2]
      · simp [h1]
  · rw [if_neg h, if_neg (by omega)]
    have e0 : Lib.compareInt k k' ≠ 0 := fun hh => h (e.1 hh)
    simp only [orL]
    simp [e0]
theorem la_tree (x : Tree) : allT nodeB x = true → LA orderT (fun y => allT nodeB y = true) x := Tree.ind (Q := fun x => allT nodeB x = true → LA orderT (fun y => allT nodeB y = true) x) (fun k t ks xs ih hx => by
  obtain ⟨hn, hxs⟩ := allT_node hx
  have li := la_list xs (fun y hy => ⟨hxs y hy, ih y hy (hxs y hy)⟩)
  have lk := la_list ks (fun y _ => (⟨trivial, la_bytes y⟩ : True ∧ _))
  have lt := la_bytes t
  have lm := la_num (parseN t).1 (parseN_right t)
  have lz := la_int k
  refine ⟨fun y => ?_, fun y hy => ?_, fun y hy => ?_, fun y z hy hz h1 h2 => ?_⟩
  · obtain ⟨k', t', ks', ys⟩ := y
    rw [orderT_eq]
    repeat' split
    · exact lm.rng _
    · exact lt.rng _
    · exact lk.rng _
    · exact li.rng _
    · exact lz.rng _
  · obtain ⟨k', t', ks', ys⟩ := y
    obtain ⟨hn', hys⟩ := allT_node hy
    rw [orderT_eq, orderT_eq]
    have a1 := lm.anti (parseN t').1 (parseN_right t')
    have a2 := lt.anti t' trivial
    have a3 := lk.anti ks' (fun _ _ => trivial)
    have a4 := li.anti ys hys
    have a5 := lz.anti k' trivial
    by_cases h : k = k'
    · subst h
      rw [if_pos rfl, if_pos rfl]
      by_cases h3 : k = 3
      · rw [if_pos h3, if_pos h3, a1]
      · rw [if_neg h3, if_neg h3]
        repeat' split
        all_goals omega
    · rw [if_neg h, if_neg (fun e => h e.symm), a5]
  · obtain ⟨k', t', ks', ys⟩ := y
    obtain ⟨hn', hys⟩ := allT_node hy
    rw [orderT_eq]
    have a1 := lm.eq (parseN t').1 (parseN_right t')
    have a2 := lt.eq t' trivial
    have a3 := lk.eq ks' (fun _ _ => trivial)
    have a4 := li.eq ys hys
    have a5 := lz.eq k' trivial
    by_cases h : k = k'
    · subst h
      rw [if_pos rfl]
      by_cases h3 : k = 3
      · subst h3
        rw [if_pos rfl, a1]
        obtain ⟨rfl, rfl, d1⟩ := node3 hn
        obtain ⟨rfl, rfl, d2⟩ := node3 hn'
        constructor
        · intro e; rw [dec_inj d1 d2 e]
        · intro e; injection e with _ e; rw [e]
      · rw [if_neg h3]
        split
        · rename_i hne
          constructor
          · intro e; exact absurd e hne
          · intro e; injection e with _ e; exact absurd (a2.2 e) hne
        · rename_i ht
          have et := a2.1 (by omega)
          split
          · rename_i hne
            constructor
            · intro e; exact absurd e hne
            · intro e; injection e with _ _ e; exact absurd (a3.2 e) hne
          · rename_i hk
            have ek := a3.1 (by omega)
            rw [a4, et, ek]
            simp
    · rw [if_neg h, a5]
      constructor
      · intro e; exact absurd e h
      · intro e; injection e with e;
  · obtain ⟨k', t', ks', ys⟩ := y
    obtain ⟨k2, t2, ks2, zs⟩ := z
    obtain ⟨hn', hys⟩ := allT_node hy
    obtain ⟨hn2, hzs⟩ := allT_node hz
    rw [orderT_eq] at h1 h2 ⊢
    have s1 : k ≤ k' := by
      split at h1
      · omega
      · unfold Lib.compareInt at h1; split at h1
        · omega
        · split at h1 <;> omega
    have s2 : k' ≤ k2 := by
      split at h2
      · omega
      · unfold Lib.compareInt at h2; split at h2
        · omega
        · split at h2 <;> omega
    split
    · rename_i e
      subst e
      have e1 : k = k' := by omega
      subst e1
      rw [if_pos rfl] at h1 h2
      by_cases h3 : k = 3
      · rw [if_pos h3] at h1 h2 ⊢
        exact lm.tr _ _ (parseN_right t') (parseN_right t2) h1 h2
      · rw [if_neg h3] at h1 h2 ⊢
        have b1 : Lib.compareBytes t t' ≤ 0 := by split at h1 <;> omega
        have b2 : Lib.compareBytes t' t2 ≤ 0 := by split at h2 <;> omega
        split
        · exact lt.tr t' t2 trivial trivial b1 b2
        · rename_i h0
          have et := (lt.eq t2 trivial).1 (by omega)
          subst et
          have an := lt.anti t' trivial
          have c0 : Lib.compareBytes t t' = 0 := by omega
          have et := (lt.eq t' trivial).1 c0
          subst et
          rw [if_neg (by omega)] at h1 h2
          have b3 : cmpL Lib.compareBytes ks ks' ≤ 0 := by split at h1 <;> omega
          have b4 : cmpL Lib.compareBytes ks' ks2 ≤ 0 := by split at h2 <;> omega
          split
          · exact lk.tr ks' ks2 (fun _ _ => trivial) (fun _ _ => trivial) b3 b4
          · rename_i h0
            have ek := (lk.eq ks2 (fun _ _ => trivial)).1 (by omega)
            subst ek
            have an := lk.anti ks' (fun _ _ => trivial)
            have c0 : cmpL Lib.compareBytes ks ks' = 0 := by omega
            have ek := (lk.eq ks' (fun _ _ => trivial)).1 c0
            subst ek
            rw [if_neg (by omega)] at h1 h2
            exact li.tr ys zs hys hzs h1 h2
    · unfold Lib.compareInt
      rw [if_pos (by omega)]; omega) x
theorem lookT_get {ks : List Str} {xs : List Tree} (hn : ks.Nodup) : ∀ {i : Nat} (h : i < ks.length) (h2 : i < xs.length), lookT ks xs ks[i] = some xs[i] := by
  induction ks generalizing xs with
  | nil => intro i h; cases h
  | cons k ks ih =>
    intro i h h2
    cases xs with
    | nil => cases h2
    | cons x xs =>
      cases i with
      | zero => simp [lookT]
      | succ i =>
        have hne : k ≠ ks[i]'(by simpa using h) := fun e => (List.nodup_cons.1 hn).1 (e ▸ List.getElem_mem _)
        simp only [lookT, List.getElem_cons_succ]
        rw [if_neg hne]
        exact ih (List.nodup_cons.1 hn).2 (by simpa using h) (by simpa using h2)
theorem lookT_in {ks : List Str} {xs : List Tree} (hl : ks.length = xs.length) {key : Str} (h : key ∈ ks) : ∃ y, lookT ks xs key = some y := by
  induction ks generalizing xs with
  | nil => cases h
  | cons k ks ih =>
    cases xs with
    | nil => cases hl
    | cons x xs =>
      rw [lookT]
      by_cases e : k = key
      · exact ⟨x, if_pos e⟩
      · rw [if_neg e]
        exact ih (by simpa using hl) (by rcases List.mem_cons.1 h with h | h; exact absurd h.symm e; exact h)
theorem lookT_key {ks : List Str} {xs : List Tree} {key : Str} {y : Tree} (h : lookT ks xs key = some y) : key ∈ ks := by
  induction ks generalizing xs with
  | nil => cases xs <;> cases h
  | cons k ks ih =>
    cases xs with
    | nil => cases h
    | cons x xs =>
      rw [lookT] at h
      by_cases e : k = key
      · simp [e]
      · rw [if_neg e] at h; simp [ih h]
theorem lookT_sortTs {ks : List Str} {xs : List Tree} (key : Str) : lookT ks (sortTs xs) key = (lookT ks xs key).map sortT := by
  cases h : lookT ks xs key with
  | some y => exact lookT_sort h
  | none =>
    induction ks generalizing xs with
    | nil => cases xs <;> rfl
    | cons k ks ih =>
      cases xs with
      | nil => rfl
      | cons x xs =>
        rw [lookT] at h
        rw [sortTs, lookT]
        by_cases e : k = key
        · rw [if_pos e] at h; cases h
        · rw [if_neg e] at h ⊢; exact ih h
theorem perm_of_sub {ks ks' : List Str} (h1 : ks.Nodup) (hl : ks.length = ks'.length) (hs : ∀ k ∈ ks, k ∈ ks') : ks.Perm ks' := by
  induction ks generalizing ks' with
  | nil =>
    have : ks' = [] := List.eq_nil_of_length_eq_zero (by simpa using hl.symm)
    subst this; exact .refl _
  | cons k ks ih =>
    have hk := hs k (by simp)
    have hp := List.perm_cons_erase hk
    refine List.Perm.trans (List.Perm.cons k (ih (List.nodup_cons.1 h1).2 ?_ ?_)) hp.symm
    · rw [List.length_erase_of_mem hk, ← hl]; simp
    · intro x hx
      have hne : x ≠ k := fun e => (List.nodup_cons.1 h1).1 (e ▸ hx)
      exact (List.mem_erase_of_ne hne).2 (hs x (by simp [hx]))
theorem sameL_iff {xs ys : List Tree} (h : ∀ x ∈ xs, ∀ y, allT nodeB y = true → (sameT x y = true ↔ sortT x = sortT y)) (hl : xs.length = ys.length) (hy : ∀ y ∈ ys, allT nodeB y = true) : sameL xs ys = true ↔ sortTs xs = sortTs ys := by
  induction xs generalizing ys with
  | nil => cases ys with
    | nil => simp [sameL]
    | cons y ys => cases hl
  | cons x xs ih => cases ys with
    | nil => cases hl
    | cons y ys =>
      rw [sameL, Bool.and_eq_true, h x (by simp) y (hy y (by simp)), ih (fun x hx => h x (by simp [hx])) (by simpa using hl) (fun y hy' => hy y (by simp [hy'])), sortTs, sortTs, List.cons.injEq]
theorem sameM_iff' (xs : List Tree) (ks ks' : List Str) (ys : List Tree) (hl : ks.length = xs.length) : sameM xs ks ks' ys = true ↔ ∀ i (h : i < ks.length), ∃ y, lookT ks' ys ks[i] = some y ∧ sameT (xs[i]'(by omega)) y = true := by
  induction xs generalizing ks with
  | nil =>
    have : ks = [] := List.eq_nil_of_length_eq_zero (by simpa using hl)
    subst this
    simp [sameM]
  | cons x xs ih => cases ks with
    | nil => cases hl
    | cons k ks =>
      rw [sameM, Bool.and_eq_true, ih ks (by simpa using hl)]
      constructor
      · rintro ⟨h1, h2⟩ i hi
        cases i with
        | zero =>
          cases hk : lookT ks' ys k with
          | none => rw [hk] at h1; cases h1
          | some y => rw [hk] at h1; exact ⟨y, hk, h1⟩
        | succ i => exact h2 i (by simpa using hi)
      · intro h
        refine ⟨?_, fun i hi => h (i + 1) (by simpa using hi)⟩
        obtain ⟨y, h1, h2⟩ := h 0 (by simp)
        simp only [List.getElem_cons_zero] at h1 h2
        rw [h1]; exact h2
theorem same_iff (x : Tree) : allT nodeB x = true → ∀ y, allT nodeB y = true → (sameT x y = true ↔ sortT x = sortT y) := Tree.ind (Q := fun x => allT nodeB x = true → ∀ y, allT nodeB y = true → (sameT x y = true ↔ sortT x = sortT y)) (fun k t ks xs ih hx y hy => by
  obtain ⟨k', t', ks', ys⟩ := y
  obtain ⟨hn, hxs⟩ := allT_node hx
  obtain ⟨hn', hys⟩ := allT_node hy
  have ih' : ∀ x ∈ xs, ∀ y, allT nodeB y = true → (sameT x y = true ↔ sortT x = sortT y) := fun x hx' => ih x hx' (hxs x hx')
  rw [sameT, Bool.and_eq_true, Bool.and_eq_true, Bool.and_eq_true, decide_eq_true_eq, decide_eq_true_eq, decide_eq_true_eq, sortT, sortT]
  by_cases h : k = k'
  · subst h
    by_cases h6 : k = 6
    · subst h6
      obtain ⟨nd, len⟩ := node6 hn
      obtain ⟨nd', len'⟩ := node6 hn'
      rw [if_neg (by simp), if_pos rfl, if_pos rfl, Bool.and_eq_true, decide_eq_true_eq, sameM_iff' xs ks ks' ys len]
      constructor
      · rintro ⟨⟨⟨-, e1⟩, e2⟩, e3, hall⟩
        have hp : ks.Perm ks' := perm_of_sub nd e3 (fun k hk => by
          obtain ⟨i, hi, rfl⟩ := List.getElem_of_mem hk
          obtain ⟨y, h1, -⟩ := hall i hi
          exact lookT_key h1)
        have hs : sortS ks = sortS ks' := by unfold sortS; exact mergeSort_of_perm hp
        rw [e1, ← hs]
        congr 1
        refine List.map_congr_left fun key hkey => ?_
        have hin := sortS_mem.1 hkey
        obtain ⟨i, hi, rfl⟩ := List.getElem_of_mem hin
        obtain ⟨y, h1, h2⟩ := hall i hi
        rw [lookT_sortTs, lookT_sortTs, h1, lookT_get nd hi (by omega)]
        simp only [Option.map_some, Option.getD_some]
        exact (ih' _ (List.getElem_mem _) y (hys y (lookT_mem h1))).1 h2
      · intro e
        injection e with _ e1 e2 e3
        have hl : ks.length = ks'.length := by have := congrArg List.length e2; rwa [sortS_len, sortS_len] at this
        refine ⟨⟨⟨rfl, e1⟩, by omega⟩, hl, fun i hi => ?_⟩
        have hin : ks[i] ∈ sortS ks := sortS_mem.2 (List.getElem_mem _)
        have hin' : ks[i] ∈ ks' := sortS_mem.1 (e2 ▸ hin)
        obtain ⟨y, h1⟩ := lookT_in len' hin'
        refine ⟨y, h1, (ih' _ (List.getElem_mem _) y (hys y (lookT_mem h1))).2 ?_⟩
        rw [← e2] at e3
        have := List.map_inj_left.1 e3 ks[i] hin
        rw [lookT_sortTs, lookT_sortTs, h1, lookT_get nd hi (by omega)] at this
        simpa using this
    · rw [if_pos h6, if_neg h6, if_neg h6]
      constructor
      · rintro ⟨⟨⟨-, e1⟩, e2⟩, e3⟩
        rw [e1, (sameL_iff ih' e2 hys).1 e3]
      · intro e
        injection e with _ e1 _ e3
        have hl : xs.length = ys.length := by have := congrArg List.length e3; rwa [sortTs_eq, sortTs_eq, List.length_map, List.length_map] at this
        exact ⟨⟨⟨rfl, e1⟩, hl⟩, (sameL_iff ih' hl hys).2 e3⟩
  · constructor
    · rintro ⟨⟨⟨e, -⟩, -⟩, -⟩; exact absurd e h
    · intro e
      exfalso
      split at e <;> split at e <;> injection e with e <;> exact h e) x
theorem keyed_perm {ks ks' : List Str} {n : Int} (h : ks.Perm ks') : keyedB ks n = keyedB ks' n := by
  unfold keyedB
  rw [h.length_eq, decide_eq_decide.2 h.nodup_iff]
  congr 2
  rw [Bool.eq_iff_iff, List.all_eq_true, List.all_eq_true]
  exact ⟨fun hh k hk => hh k (h.mem_iff.2 hk), fun hh k hk => hh k (h.mem_iff.1 hk)⟩
theorem allTs_of {q : Tree → Bool} : ∀ {xs : List Tree}, (∀ x ∈ xs, allT q x = true) → allTs q xs = true
  | [], _ => rfl
  | x :: xs, h => by rw [allTs, h x (by simp), allTs_of (fun y hy => h y (by simp [hy]))]; rfl
theorem outs_eq {ks : List Str} {xs : List Tree} (hn : ks.Nodup) (hl : ks.length = xs.length) : (outs ks xs).Perm (sortTs xs) := by
  have h1 : (outs ks xs).Perm (ks.map fun key => (lookT ks (sortTs xs) key).getD (.node 0 [] [] [])) := (sortS_perm ks).map _
  refine h1.trans ?_
  have h2 : (ks.map fun key => (lookT ks (sortTs xs) key).getD (.node 0 [] [] [])) = sortTs xs := by
    apply List.ext_getElem
    · rw [List.length_map, sortTs_eq, List.length_map, hl]
    · intro i h1 h2
      rw [List.getElem_map, lookT_get hn (by simpa using h1) h2]
      rfl
  rw [h2]
theorem sort_node {k : Int} {t : Str} {ks : List Str} {xs : List Tree} : sortT (.node k t ks xs) = if k = 6 then .node k t (sortS ks) (outs ks xs) else .node k t [] (sortTs xs) := by rw [sortT]; rfl
theorem good_sort (x : Tree) : allT nodeB x = true → allT nodeB (sortT x) = true := Tree.ind (Q := fun x => allT nodeB x = true → allT nodeB (sortT x) = true) (fun k t ks xs ih hx => by
  obtain ⟨hn, hxs⟩ := allT_node hx
  have hs : ∀ y ∈ sortTs xs, allT nodeB y = true := by
    intro y hy
    rw [sortTs_eq] at hy
    obtain ⟨z, hz, rfl⟩ := List.mem_map.1 hy
    exact ih z hz (hxs z hz)
  rw [sort_node]
  split
  · rename_i h6
    subst h6
    obtain ⟨nd, len⟩ := node6 hn
    have hp := outs_eq nd len
    rw [allT, Bool.and_eq_true]
    refine ⟨?_, allTs_of fun y hy => hs y (hp.mem_iff.1 hy)⟩
    simp only [nodeB] at hn ⊢
    rw [if_pos trivial] at hn ⊢
    rw [keyed_perm (sortS_perm ks), hp.length_eq, sortTs_eq, List.length_map]
    exact hn
  · rename_i h6
    rw [allT, Bool.and_eq_true]
    refine ⟨?_, allTs_of hs⟩
    simp only [nodeB] at hn ⊢
    by_cases h5 : k = 5
    · rw [if_pos h5] at hn ⊢
      simp at hn ⊢
      exact hn.2
    · rw [if_neg h5, if_neg h6] at hn ⊢
      by_cases hc : ks ≠ [] ∨ xs ≠ []
      · rw [if_pos hc] at hn; cases hn
      · have hk : ks = [] := Classical.byContradiction fun h => hc (.inl h)
        have hx0 : xs = [] := Classical.byContradiction fun h => hc (.inr h)
        subst hk hx0
        simpa [sortTs] using hn) x
theorem open_good {x : Tree} (h : openB x = true) : allT nodeB (sortT x) = true := good_sort x (open_all h)
theorem compareV_rng (x y : Tree) : compareV x y = -1 ∨ compareV x y = 0 ∨ compareV x y = 1 := by
  unfold compareV
  cases hx : openB x <;> cases hy : openB y <;> simp
  exact (la_tree _ (open_good hx)).rng _
theorem compareV_anti (x y : Tree) : compareV y x = - compareV x y := by
  unfold compareV
  cases hx : openB x <;> cases hy : openB y <;> simp
  exact (la_tree _ (open_good hx)).anti _ (open_good hy)
theorem compareV_self (x : Tree) : compareV x x = 0 := by have := compareV_anti x x; omega
theorem compareV_tr (x y z : Tree) (h1 : compareV x y ≤ 0) (h2 : compareV y z ≤ 0) : compareV x z ≤ 0 := by
  unfold compareV at *
  cases hx : openB x <;> cases hy : openB y <;> cases hz : openB z <;> simp [hx, hy, hz] at h1 h2 ⊢
  exact (la_tree _ (open_good hx)).tr _ _ (open_good hy) (open_good hz) h1 h2
theorem sameV_iff {x y : Tree} (hx : openB x = true) (hy : openB y = true) : SameV x y = true ↔ sortT x = sortT y := by
  unfold SameV
  rw [hx, hy]
  exact same_iff x (open_all hx) y (open_all hy)
theorem compareV_same {x y : Tree} (hx : openB x = true) (hy : openB y = true) : decide (compareV x y = 0) = SameV x y := by
  rw [Bool.eq_iff_iff, decide_eq_true_eq, sameV_iff hx hy, compareV, if_pos hx, if_pos hy]
  exact (la_tree _ (open_good hx)).eq _ (open_good hy)
end Go.Scarf
namespace Go.Scarf
theorem sizeTs_sum : ∀ xs : List Tree, sizeTs xs = (xs.map sizeT).sum
  | [] => rfl
  | x :: xs => by rw [sizeTs, sizeTs_sum xs]; rfl
theorem sizeTs_perm {xs ys : List Tree} (h : xs.Perm ys) : sizeTs xs = sizeTs ys := by
  rw [sizeTs_sum, sizeTs_sum]; exact (h.map _).sum_nat
theorem depthTs_perm {xs ys : List Tree} (h : xs.Perm ys) : depthTs xs = depthTs ys := by
  induction h with
  | nil => rfl
  | cons x _ ih => rw [depthTs, depthTs, ih]
  | swap x y l => simp only [depthTs]; omega
  | trans _ _ h1 h2 => rw [h1, h2]
theorem sort_size (x : Tree) : allT nodeB x = true → sizeT (sortT x) = sizeT x ∧ depthT (sortT x) = depthT x := Tree.ind (Q := fun x => allT nodeB x = true → sizeT (sortT x) = sizeT x ∧ depthT (sortT x) = depthT x) (fun k t ks xs ih hx => by
  obtain ⟨hn, hxs⟩ := allT_node hx
  have h1 : ∀ ys : List Tree, (∀ y ∈ ys, y ∈ xs) → sizeTs (sortTs ys) = sizeTs ys ∧ depthTs (sortTs ys) = depthTs ys := by
    intro ys
    induction ys with
    | nil => intro _; exact ⟨rfl, rfl⟩
    | cons y ys ihy =>
      intro hm
      obtain ⟨a, b⟩ := ih y (hm y (by simp)) (hxs y (hm y (by simp)))
      obtain ⟨c, d⟩ := ihy (fun z hz => hm z (by simp [hz]))
      simp only [sortTs, sizeTs, depthTs, a, b, c, d]
      exact ⟨trivial, trivial⟩
  obtain ⟨a, b⟩ := h1 xs (fun _ h => h)
  rw [sort_node]
  split
  · rename_i h6
    subst h6
    obtain ⟨nd, len⟩ := node6 hn
    have hp := outs_eq nd len
    simp only [sizeT, depthT, sizeTs_perm hp, depthTs_perm hp, a, b]
    exact ⟨trivial, trivial⟩
  · simp only [sizeT, depthT, a, b]
    exact ⟨trivial, trivial⟩) x
theorem sortS_idem (ks : List Str) : sortS (sortS ks) = sortS ks := by
  have h : (sortS ks).Perm ks := sortS_perm ks
  show (sortS ks).mergeSort leB = sortS ks
  exact sortS_of_perm h
theorem lookT_map {f : Str → Tree} {key : Str} : ∀ {l : List Str}, key ∈ l → lookT l (l.map f) key = some (f key)
  | [], h => absurd h (by simp)
  | k :: l, h => by
    rw [List.map_cons, lookT]
    by_cases e : k = key
    · rw [if_pos e, e]
    · rw [if_neg e]; exact lookT_map (by rcases List.mem_cons.1 h with h | h; exact absurd h.symm e; exact h)
theorem sort_idem (x : Tree) : allT nodeB x = true → sortT (sortT x) = sortT x := Tree.ind (Q := fun x => allT nodeB x = true → sortT (sortT x) = sortT x) (fun k t ks xs ih hx => by
  obtain ⟨hn, hxs⟩ := allT_node hx
  rw [sort_node]
  split
  · rename_i h6
    subst h6
    obtain ⟨nd, len⟩ := node6 hn
    rw [sort_node, if_pos rfl, sortS_idem]
    congr 1
    unfold outs
    rw [sortS_idem]
    refine List.map_congr_left fun key hkey => ?_
    rw [lookT_sortTs, lookT_map (f := fun key => (lookT ks (sortTs xs) key).getD (.node 0 [] [] [])) hkey]
    simp only [Option.map_some, Option.getD_some]
    obtain ⟨y, hy⟩ := lookT_in len (sortS_mem.1 hkey)
    rw [lookT_sortTs, hy]
    simp only [Option.map_some, Option.getD_some]
    exact ih y (lookT_mem hy) (hxs y (lookT_mem hy))
  · rename_i h6
    rw [sort_node, if_neg h6]
    congr 1
    rw [sortTs_eq, sortTs_eq, List.map_map]
    refine List.map_congr_left fun y hy => ?_
    exact ih y hy (hxs y hy)) x
theorem open_sort {x : Tree} (h : openB x = true) : openB (sortT x) = true := by
  obtain ⟨a, b⟩ := sort_size x (open_all h)
  have c := good_sort x (open_all h)
  unfold openB sizedB at h ⊢
  rw [a, b, c]
  simp only [Bool.and_eq_true] at h
  simp [h.1]
theorem sorted_open {x : Tree} (h : openB x = true) : sortedV x = sortT x := by rw [sortedV, if_pos h]
theorem same_sort {x : Tree} (h : openB x = true) : SameV (sortT x) x = true := (sameV_iff (open_sort h) h).2 (sort_idem x (open_all h))
theorem sorted_sort {x : Tree} (h : openB x = true) : sortedV (sortT x) = sortT x := by rw [sorted_open (open_sort h), sort_idem x (open_all h)]
theorem same_eq {x y : Tree} (hx : openB x = true) (hy : openB y = true) : SameV x y = eqT (sortT x) (sortT y) := by
  rw [Bool.eq_iff_iff, sameV_iff hx hy, eqT_iff]
end Go.Scarf
