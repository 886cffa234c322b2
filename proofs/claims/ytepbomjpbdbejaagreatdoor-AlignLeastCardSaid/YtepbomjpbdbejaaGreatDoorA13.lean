/- A part of the proof. -/
import Derived.Test.YtepbomjpbdbejaaGreatDoorA12
set_option linter.all false
set_option maxHeartbeats 8000000
set_option maxRecDepth 10000
namespace Go.Scarf
open Go.RowKit Go.Proofs
structure Gr (w0 w : World) (N ob : Nat) (hd : Nat → Value) (gp : Nat → List Int) (sg : Nat → List (Nat × Obj)) : Prop where
  top : w.heap[ob]? = some (.cells (Zh N hd) 39)
  row : ∀ g, g < N → ∃ A c, hd g = .slice A (gp g).length c ∧ SlB 3 1 A (gp g).length c (Ru (gp g)) (sg g)
  mem : ∀ g, g < N → ∀ z ∈ sg g, w.heap[z.1]? = some z.2 ∧ w0.heap.size ≤ z.1 ∧ z.1 ≠ ob
  apart : ∀ g g', g < N → g' < N → g ≠ g' → ∀ z ∈ sg g, ∀ y ∈ sg g', z.1 ≠ y.1
  new : w0.heap.size ≤ ob
section
variable {w0 w w' : World} {N ob : Nat} {hd : Nat → Value} {gp : Nat → List Int} {sg : Nat → List (Nat × Obj)}
theorem Gr.ext (h : Gr w0 w N ob hd gp sg) (hs : Same [] w w') : Gr w0 w' N ob hd gp sg :=
  ⟨(hs.block _ (Fa h.top) Ga).trans h.top, h.row, fun g hg z hz => ⟨(hs.block _ (Fa (h.mem g hg z hz).1) Ga).trans (h.mem g hg z hz).1, (h.mem g hg z hz).2⟩, h.apart, h.new⟩
theorem Gr.put {w1 : World} (h : Gr w0 w N ob hd gp sg) {g : Nat} (hg : g < N) {l : List Int} {A' : Option Addr} {c' : Nat} {sg' : List (Nat × Obj)} (hs1 : Same ((sg g).map (·.1)) w w1) (hs2 : Same [ob] w1 w') (h1 : w'.heap[ob]? = some (.cells (Zh N (Ro hd g (.slice A' l.length c'))) 39))
    (h4 : SlB 3 1 A' l.length c' (Ru l) sg') (h5 : ∀ z ∈ sg', w'.heap[z.1]? = some z.2 ∧ z.1 ≠ ob ∧ (z.1 ∈ (sg g).map (·.1) ∨ w.heap.size ≤ z.1)) (hw : w0.heap.size ≤ w.heap.size) : Gr w0 w' N ob (Ro hd g (.slice A' l.length c')) (D8 gp g l) (D8 sg g sg') := by
  have hnew : ∀ z ∈ sg', w0.heap.size ≤ z.1 := fun z hz => (h5 z hz).2.2.elim (fun hm => by obtain ⟨y, hy, e⟩ := List.mem_map.1 hm; rw [← e]; exact (h.mem g hg y hy).2.1) (fun hl => Nat.le_trans hw hl)
  have hoff : ∀ g', g' < N → g' ≠ g → ∀ y ∈ sg g', ∀ z ∈ sg', y.1 ≠ z.1 := fun g' hg' hne y hy z hz e => (h5 z hz).2.2.elim (fun hm => by obtain ⟨x, hx, e2⟩ := List.mem_map.1 hm; exact h.apart g' g hg' hg hne y hy x hx (e.trans e2.symm)) (fun hl => by have := Fa (h.mem g' hg' y hy).1; omega)
  refine ⟨h1, fun g' hg' => ?_, fun g' hg' z hz => ?_, fun a b ha hb hab z hz y hy => ?_, h.new⟩
  · by_cases e : g' = g
    · subst e; rw [S5, Si, Si]; exact ⟨A', c', rfl, h4⟩
    · rw [SD e, Ih e, Ih e]; exact h.row g' hg'
  · by_cases e : g' = g
    · subst e; rw [Si] at hz; exact ⟨(h5 z hz).1, hnew z hz, (h5 z hz).2.1⟩
    · rw [Ih e] at hz
      have hm := h.mem g' hg' z hz
      have k1 : w1.heap[z.1]? = w.heap[z.1]? := hs1.block _ (Fa hm.1) fun hx => by obtain ⟨y, hy, e2⟩ := List.mem_map.1 hx; exact h.apart g' g hg' hg e z hz y hy e2.symm
      have k2 : w'.heap[z.1]? = w1.heap[z.1]? := hs2.block _ (Fa (k1.trans hm.1)) (by simpa using hm.2.2)
      exact ⟨k2.trans (k1.trans hm.1), hm.2⟩
  · by_cases ea : a = g
    · subst ea
      rw [Si] at hz
      rw [Ih (fun q => hab q.symm)] at hy
      exact fun e => hoff b hb (fun q => hab q.symm) y hy z hz e.symm
    · rw [Ih ea] at hz
      by_cases eb : b = g
      · subst eb; rw [Si] at hy; exact hoff a ha ea z hz y hy
      · rw [Ih eb] at hy; exact h.apart a b ha hb hab z hz y hy
theorem Gr.rep (h : Gr w0 w N ob hd gp sg) (hN : N ≤ 1000) (hb : ∀ g, g < N → ∀ z ∈ gp g, -9223372036854775808 ≤ z ∧ z ≤ 9223372036854775807) : Rep (Btw w0 w) w (E0 N gp) [.slice (some ⟨ob, 0, none⟩) N N] := by
  refine Rep.slice_mk Ga (Nat.le_refl _) by_Om fun _ => ⟨_, rfl, (List.range N).map hd, fun i hi => ⟨?_, h.new, Fa h.top, _, _, h.top⟩, Is N _ _ fun g hg => ?_⟩
  · have hi' : i < N := by simpa using hi
    rw [Li, Nat.zero_add, Ob h.top, Wv hi']
    simp
  · obtain ⟨A, c, e, hS⟩ := h.row g hg
    rw [e]
    refine hS.repOf (fun z hz => ?_) (Ok (hb g hg)) Ga
    have hm := h.mem g hg z hz
    obtain ⟨cur, he⟩ := hS.typ.2 z hz
    exact ⟨hm.1, hm.2.1, Fa hm.1, cur, 3, by rw [hm.1, he]⟩
end
section
variable {P : Program} {R : Exit → Act → World → Prop} {n : Nat} {k : Kt} {s : Nat → Value} {w : World} {ops rest : List Oper}
variable {ty : TypeId} {pos : String} {aft : Array Edge} {g : Option (Nat × Bool)} {w0 : World} {Ds : List Nat} {bs : List (Nat × Obj)}
end
theorem RiseN.above {n size : Nat} : ∀ {m : List (Nat × Nat)} {k j : Nat}, RiseN n size k j m → ∀ z ∈ m, j ≤ z.2
  | [], _, _, _, z, hz => by cases hz
  | y :: m, _, _, h, z, hz => by
    rcases List.mem_cons.1 hz with rfl | hz
    · exact h.2.2.1
    · have := RiseN.above h.2.2.2.2 z hz; have := h.2.2.1; omega
theorem DC {n size : Int} : ∀ (m : List (Int × Int)) (q : Int × Int), (Mj n q m && (match m.getLast? with | none => true | some z => !decide (size ≤ z.2))) = Dl n size q m := by
  intro m
  induction m with
  | nil => intro q; rfl
  | cons z m ih =>
    intro q
    rw [Mj, Dl, ← ih z]
    cases m with
    | nil =>
      simp only [List.getLast?_singleton, Mj, List.getLast?_nil, Bool.and_true]
      by_cases h1 : q.1 < z.1 <;> by_cases h2 : q.2 < z.2 <;> by_cases h3 : z.1 < n <;> by_cases h4 : z.2 < size <;> simp [h1, h2, h3, h4, show (z.1 ≤ q.1) = ¬ (q.1 < z.1) by simp, show (z.2 ≤ q.2) = ¬ (q.2 < z.2) by simp, show (n ≤ z.1) = ¬ (z.1 < n) by simp, show (size ≤ z.2) = ¬ (z.2 < size) by simp]
    | cons u m =>
      rw [List.getLast?_cons_cons]
      by_cases hb : Mj n z (u :: m) = true ∧ (match (u :: m).getLast? with | none => true | some z => !decide (size ≤ z.2)) = true
      · have hz : z.2 < size := Ws (u :: m) z hb.1 fun w hw => by
          rw [List.getLast?_cons_cons] at hw
          have := hb.2
          rw [hw] at this
          simpa using this
        rw [hb.1, hb.2]
        by_cases h1 : q.1 < z.1 <;> by_cases h2 : q.2 < z.2 <;> by_cases h3 : z.1 < n <;> simp [h1, h2, h3, hz, show (z.1 ≤ q.1) = ¬ (q.1 < z.1) by simp, show (z.2 ≤ q.2) = ¬ (q.2 < z.2) by simp, show (n ≤ z.1) = ¬ (z.1 < n) by simp]
      · have : (Mj n z (u :: m) && (match (u :: m).getLast? with | none => true | some z => !decide (size ≤ z.2))) = false := by
          rw [Bool.eq_false_iff]; intro e; exact hb (by simpa using e)
        rw [this, Bool.and_false, Bool.and_assoc, this, Bool.and_false]
theorem W5 (n : Int) (m : List (Int × Int)) (size : Int) : O0 n m size = (Wg n m size && (!decide (size < 0) && !decide (64 < size))) := by
  unfold O0 Wg Io
  rw [← DC]
  cases hg : m.getLast? with
  | none => cases Mj n (-1, -1) m <;> by_cases h1 : (0 : Int) ≤ n <;> by_cases h2 : n ≤ 64 <;> by_cases h3 : size < 0 <;> by_cases h4 : 64 < size <;> simp [h1, h2, h3, h4]
  | some z => cases Mj n (-1, -1) m <;> by_cases h1 : (0 : Int) ≤ n <;> by_cases h2 : n ≤ 64 <;> by_cases h3 : size < 0 <;> by_cases h4 : 64 < size <;> by_cases h5 : size ≤ z.2 <;> simp [h1, h2, h3, h4, h5]
end Go.Scarf
