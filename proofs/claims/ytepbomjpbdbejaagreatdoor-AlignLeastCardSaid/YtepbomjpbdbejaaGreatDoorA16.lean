/- A part of the proof. -/
import Derived.Test.YtepbomjpbdbejaaGreatDoorA11
import Derived.Test.YtepbomjpbdbejaaGreatDoorP5
import Derived.Test.YtepbomjpbdbejaaGreatDoorP1
import Derived.Test.YtepbomjpbdbejaaGreatDoorTd1
set_option linter.all false
set_option maxHeartbeats 8000000
set_option maxRecDepth 10000
namespace Go.Scarf
theorem Zk {k : Int} {t : Str} (h : rnodeB (.node k t [] []) = true) : Zb (.node k t [] []) = true := by
  simp [Zb, Hn, Ac, Xc, Gd, Zc, Vc, Zm, h]
theorem E2 {s : Str} (h : Lib.validD s = true) : Zb (.node 4 s [] []) = true := by
  simp [Zb, Hn, Ac, Xc, Gd, Zc, Vc, Zm, rnodeB, nodeB, Tree.kind, h]
theorem KN {s s' : Str} (h1 : Lib.validD s = true) (h2 : Lib.validD s' = true) (h : K6 s = K6 s') : s = s' := by
  have h3 := (O4 (E2 h1) (E2 h2)).1 (List.cons.inj h).2
  injection h3
theorem Bt {k : Int} {t : Str} {c : UInt8} (h : Zb (.node k t [] []) = true) (hc : Fm (.node k t [] []) = [c]) : D5 c = k := by
  rw [Fm, if_pos h] at hc
  obtain ⟨c', s, e, hk, -⟩ := Mq (Jk h) 0
  rw [e] at hc
  obtain ⟨rfl, -⟩ := List.cons.inj hc
  exact hk
theorem BE {A A' R R' : List Int} {b : Int} (h : A ++ R = A' ++ R') (hA : A.getLast? = some b) (hA' : A'.getLast? = some b) (hR : ∀ z ∈ R, b < z) (hR' : ∀ z ∈ R', b < z) : A.length = A'.length := by
  have pos : ∀ {L : List Int}, L.getLast? = some b → 0 < L.length := fun {L} hL => by cases L with | nil => cases hL | cons _ _ => exact Nat.succ_pos _
  have one : ∀ {A A' R R' : List Int}, A ++ R = A' ++ R' → A'.getLast? = some b → (∀ z ∈ R, b < z) → ¬ A.length < A'.length := fun {A A' R R'} h hA' hR hl => by
    have e1 : (A' ++ R')[A'.length - 1]? = some b := by rw [List.getElem?_append_left by_Om, ← List.getLast?_eq_getElem?]; exact hA'
    rw [← h, List.getElem?_append_right by_Om] at e1
    have := hR b (List.mem_of_getElem? e1)
    omega
  have := one h hA' hR
  have := one h.symm hA hR'
  omega
theorem Q8 (x : Tree) (b : Nat) : (Oh x b).getLast? = some (b : Int) := by
  obtain ⟨k, t, ks, xs⟩ := x
  rw [Oh]
  split
  · simp
  · split <;> simp
theorem Tn : ∀ (xs : List Tree), (∀ x ∈ xs, ∀ b, ∀ z ∈ Oh x b, (b : Int) ≤ z) → ∀ b, ∀ z ∈ Qg xs b, (b : Int) ≤ z
  | [], _, _, z, hz => by rw [Qg] at hz; cases hz
  | x :: xs, h, b, z, hz => by
    rw [Qg] at hz
    rcases List.mem_append.1 hz with hz | hz
    · exact h x Ga b z hz
    · have := Tn xs (fun y hy => h y (by simp [hy])) _ z hz; omega
theorem Rn : ∀ (xs : List Tree) (ks : List Str), (∀ x ∈ xs, ∀ b, ∀ z ∈ Oh x b, (b : Int) ≤ z) → ∀ b, ∀ z ∈ Qf xs ks b, (b : Int) ≤ z
  | [], _, _, _, z, hz => by rw [Qf] at hz; cases hz
  | x :: xs, ks, h, b, z, hz => by
    rw [Qf] at hz
    rcases List.mem_append.1 hz with hz | hz
    · exact h x Ga b z hz
    · rcases List.mem_cons.1 hz with rfl | hz
      · omega
      · have := Rn xs ks.tail (fun y hy => h y (by simp [hy])) _ z hz; omega
theorem Fr (x : Tree) : ∀ b, ∀ z ∈ Oh x b, (b : Int) ≤ z := Tree.ind (Q := fun x => ∀ b, ∀ z ∈ Oh x b, (b : Int) ≤ z) (fun k t ks xs ih b z hz => by
  rw [Oh] at hz
  split at hz
  · rcases List.mem_append.1 hz with hz | hz
    · exact Tn xs ih b z hz
    · simp at hz; omega
  · split at hz
    · rcases List.mem_append.1 hz with hz | hz
      · exact Rn xs ks ih b z hz
      · simp at hz; omega
    · simp at hz; omega) x
def YM (x : Tree) : Prop := ∀ (y : Tree) (b : Nat), Vc rnodeB x = true → Vc rnodeB y = true → Nf x = Nf y → Oh x b = Oh y b → x = y
theorem Z6 : ∀ (xs ys : List Tree) (b : Nat), (∀ x ∈ xs, YM x) → (∀ x ∈ xs, Vc rnodeB x = true) → (∀ y ∈ ys, Vc rnodeB y = true) → Oe xs = Oe ys → Qg xs b = Qg ys b → xs = ys
  | [], [], _, _, _, _, _, _ => rfl
  | [], y :: ys, _, _, _, _, h, _ => by
    rw [Oe, Oe] at h
    have := congrArg List.length h
    have := Wn y
    simp only [List.length_append, List.length_nil] at *; omega
  | x :: xs, [], _, _, _, _, h, _ => by
    rw [Oe, Oe] at h
    have := congrArg List.length h
    have := Wn x
    simp only [List.length_append, List.length_nil] at *; omega
  | x :: xs, y :: ys, b, hi, hx, hy, h1, h2 => by
    rw [Oe, Oe] at h1
    rw [Qg, Qg] at h2
    have px := Wn x
    have py := Wn y
    have hl := BE h2 (Q8 x b) (Q8 y b) (fun z hz => by have := Tn xs (fun x _ => Fr x) _ z hz; omega) (fun z hz => by have := Tn ys (fun x _ => Fr x) _ z hz; omega)
    obtain ⟨e1, e2⟩ := List.append_inj h2 hl
    rw [Pi, Pi] at hl
    obtain ⟨e3, e4⟩ := List.append_inj h1 hl
    rw [← hl] at e2
    rw [hi x Ga y b (hx x Ga) (hy y Ga) e3 e1, Z6 xs ys _ (fun z hz => hi z (by simp [hz])) (fun z hz => hx z (by simp [hz])) (fun z hz => hy z (by simp [hz])) e4 e2]
theorem P8 : ∀ (xs ys : List Tree) (ks ls : List Str) (b : Nat), ks.length = xs.length → ls.length = ys.length → (∀ s ∈ ks, Lib.validD s = true) → (∀ s ∈ ls, Lib.validD s = true) → (∀ x ∈ xs, YM x) → (∀ x ∈ xs, Vc rnodeB x = true) → (∀ y ∈ ys, Vc rnodeB y = true) →
    Yd xs ks = Yd ys ls → Qf xs ks b = Qf ys ls b → xs = ys ∧ ks = ls
  | [], [], ks, ls, _, h1, h2, _, _, _, _, _, _, _ => ⟨rfl, by rw [List.eq_nil_of_length_eq_zero h1, List.eq_nil_of_length_eq_zero h2]⟩
  | [], y :: ys, ks, ls, _, _, _, _, _, _, _, _, h, _ => by
    rw [Yd, Yd] at h
    have := congrArg List.length h
    simp at this
  | x :: xs, [], ks, ls, _, _, _, _, _, _, _, _, h, _ => by
    rw [Yd, Yd] at h
    have := congrArg List.length h
    simp at this
  | x :: xs, y :: ys, [], ls, _, h, _, _, _, _, _, _, _, _ => by simp at h
  | x :: xs, y :: ys, k :: ks, [], _, _, h, _, _, _, _, _, _, _ => by simp at h
  | x :: xs, y :: ys, k :: ks, l :: ls, b, hk, hl0, vk, vl, hi, hx, hy, h1, h2 => by
    rw [Yd, Yd, List.append_cons, List.append_cons (bs := Yd ys _)] at h1
    rw [Qf, Qf, List.append_cons, List.append_cons (bs := Qf ys _ _)] at h2
    simp only [List.headD_cons, List.tail_cons] at h1 h2
    have px := Wn x
    have py := Wn y
    have hl := BE h2 (List.getLast?_concat ..) (List.getLast?_concat ..) (fun z hz => by have := Rn xs ks (fun x _ => Fr x) _ z hz; omega) (fun z hz => by have := Rn ys ls (fun x _ => Fr x) _ z hz; omega)
    obtain ⟨e1, e2⟩ := List.append_inj h2 hl
    rw [List.length_append, List.length_append, List.length_singleton, Pi, Pi] at hl
    have hl' : (Nf x).length = (Nf y).length := by omega
    obtain ⟨e3, e4⟩ := List.append_inj h1 (by rw [List.length_append, List.length_append, List.length_singleton, List.length_singleton, hl'])
    obtain ⟨e5, -⟩ := List.append_inj e1 (by rw [Pi, Pi, hl'])
    obtain ⟨e6, e7⟩ := List.append_inj e3 hl'
    rw [← hl'] at e2
    have ek := KN (vk k Ga) (vl l Ga) (List.cons.inj e7).1
    obtain ⟨r1, r2⟩ := P8 xs ys ks ls _ (by simpa using hk) (by simpa using hl0) (fun z hz => vk z (by simp [hz])) (fun z hz => vl z (by simp [hz])) (fun z hz => hi z (by simp [hz])) (fun z hz => hx z (by simp [hz])) (fun z hz => hy z (by simp [hz])) e4 e2
    exact ⟨by rw [hi x Ga y b (hx x Ga) (hy y Ga) e6 e5, r1], by rw [ek, r2]⟩
theorem BI {k : Int} {t : Str} {ks : List Str} {xs : List Tree} (h : rnodeB (.node k t ks xs) = true) :
    (k = 5 ∧ t = [] ∧ ks = []) ∨ (k = 6 ∧ t = [] ∧ (∀ x ∈ ks, Lib.validD x = true) ∧ ks.length = xs.length) ∨ (k ≠ 5 ∧ k ≠ 6 ∧ ks = [] ∧ xs = []) := by
  rcases Pn h with h | h | h | h | h | h
  · exact .inr (.inr ⟨by omega, by omega, h.2.2⟩)
  · exact .inr (.inr ⟨by omega, by omega, h.2.2⟩)
  · exact .inr (.inr ⟨by omega, by omega, h.2.2⟩)
  · exact .inr (.inr ⟨by omega, by omega, h.2.2⟩)
  · exact .inl h
  · exact .inr (.inl ⟨h.1, h.2.1, h.2.2.2⟩)
theorem Ml {α : Type} {a b : List α} {x y : α} (h : a ++ [x] = b ++ [y]) : a = b ∧ x = y := by
  obtain ⟨h1, h2⟩ := List.append_inj' h rfl
  exact ⟨h1, (List.cons.inj h2).1⟩
theorem DO (x : Tree) : YM x := Tree.ind (Q := YM) (fun k t ks xs ih y b hx hy h1 h2 => by
  obtain ⟨k', t', ls, ys⟩ := y
  obtain ⟨hn, hxs⟩ := Td hx
  obtain ⟨hn', hys⟩ := Td hy
  unfold Nf at h1
  unfold Oh at h2
  rcases BI hn with ⟨rfl, rfl, rfl⟩ | ⟨rfl, rfl, hv, hl⟩ | ⟨n5, n6, rfl, rfl⟩ <;> rcases BI hn' with ⟨rfl, rfl, rfl⟩ | ⟨rfl, rfl, hv', hl'⟩ | ⟨n5', n6', rfl, rfl⟩
  · rw [if_pos rfl, if_pos rfl] at h1 h2
    rw [Z6 xs ys b ih hxs hys (Ml h1).1 (Ml h2).1]
  · rw [if_pos rfl, if_neg Ra, if_pos rfl] at h1
    have := (Ml h1).2
    exact absurd this Ra
  · rw [if_pos rfl, if_neg n5', if_neg n6'] at h1
    have e := (Ml (b := []) h1).2
    exact absurd (Bt (Zk hn') e.symm).symm n5'
  · rw [if_neg Ra, if_pos rfl, if_pos rfl] at h1
    have := (Ml h1).2
    exact absurd this Ra
  · rw [if_neg Ra, if_pos rfl, if_neg Ra, if_pos rfl] at h1 h2
    obtain ⟨e1, e2⟩ := P8 xs ys ks ls b hl hl' hv hv' ih hxs hys (Ml h1).1 (Ml h2).1
    rw [e1, e2]
  · rw [if_neg Ra, if_pos rfl, if_neg n5', if_neg n6'] at h1
    have e := (Ml (b := []) h1).2
    exact absurd (Bt (Zk hn') e.symm).symm n6'
  · rw [if_neg n5, if_neg n6, if_pos rfl] at h1
    have e := (Ml (a := []) h1).2
    exact absurd (Bt (Zk hn) e).symm n5
  · rw [if_neg n5, if_neg n6, if_neg Ra, if_pos rfl] at h1
    have e := (Ml (a := []) h1).2
    exact absurd (Bt (Zk hn) e).symm n6
  · rw [if_neg n5, if_neg n6, if_neg n5', if_neg n6'] at h1
    exact (O4 (Zk hn) (Zk hn')).1 (List.cons.inj h1).1) x
theorem QA {x y : Tree} (hx : Zb x = true) (hy : Zb y = true) : Fb x = Fb y ↔ Gm x y = true := by
  have ox := Ij hx
  have oy := Ij hy
  have rx : Zb (Re x) = true := by rw [Wu]; exact hx
  have ry : Zb (Re y) = true := by rw [Wu]; exact hy
  rw [NE ox oy, ← Fi ox, ← Fi oy]
  refine ⟨fun h => ?_, fun h => by rw [Fb, Fb, Be, Be, Hf, Hf, h]⟩
  exact DO _ _ 0 (Jk rx) (Jk ry) (congrArg Prod.fst h) (congrArg Prod.snd h)
theorem HM {x y : Tree} (hx : Zb x = true) (hy : Zb y = true) (sx : Ac x ≤ 256) (sy : Ac y ≤ 256) : pN (Fb x) (Fb y) = 0 ↔ Gm x y = true := by
  rw [← QA hx hy]
  exact (KG (Xk hx sx) (Xk hy sy)).trans ⟨fun h => Prod.ext h.1 h.2, fun h => ⟨congrArg Prod.fst h, congrArg Prod.snd h⟩⟩
end Go.Scarf
