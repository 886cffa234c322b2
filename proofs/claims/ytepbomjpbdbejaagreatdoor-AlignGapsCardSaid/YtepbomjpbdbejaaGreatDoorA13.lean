/- A part of the proof. -/
import Derived.Test.YtepbomjpbdbejaaGreatDoorA12
set_option linter.all false
set_option maxHeartbeats 8000000
set_option maxRecDepth 10000
namespace Go.Scarf
open Go.RowKit Go.Proofs
structure Gr (w0 w : World) (N ob : Nat) (hd : Nat → Value) (gp : Nat → List Int) (sg : Nat → List (Nat × Obj)) : Prop where
  top : w.heap[ob]? = some (.cells (Tf N hd) 39)
  row : ∀ g, g < N → ∃ A c, hd g = .slice A (gp g).length c ∧ SlB 3 1 A (gp g).length c (Fr (gp g)) (sg g)
  mem : ∀ g, g < N → ∀ z ∈ sg g, w.heap[z.1]? = some z.2 ∧ w0.heap.size ≤ z.1 ∧ z.1 ≠ ob
  apart : ∀ g g', g < N → g' < N → g ≠ g' → ∀ z ∈ sg g, ∀ y ∈ sg g', z.1 ≠ y.1
  new : w0.heap.size ≤ ob
section
variable {w0 w w' : World} {N ob : Nat} {hd : Nat → Value} {gp : Nat → List Int} {sg : Nat → List (Nat × Obj)}
theorem Gr.ext (h : Gr w0 w N ob hd gp sg) (hs : Same [] w w') : Gr w0 w' N ob hd gp sg :=
  ⟨(hs.block _ (Da h.top) Ga).trans h.top, h.row, fun g hg z hz => ⟨(hs.block _ (Da (h.mem g hg z hz).1) Ga).trans (h.mem g hg z hz).1, (h.mem g hg z hz).2⟩, h.apart, h.new⟩
theorem Gr.put {w1 : World} (h : Gr w0 w N ob hd gp sg) {g : Nat} (hg : g < N) {l : List Int} {A' : Option Addr} {c' : Nat} {sg' : List (Nat × Obj)} (hs1 : Same ((sg g).map (·.1)) w w1) (hs2 : Same [ob] w1 w') (h1 : w'.heap[ob]? = some (.cells (Tf N (Ul hd g (.slice A' l.length c'))) 39))
    (h4 : SlB 3 1 A' l.length c' (Fr l) sg') (h5 : ∀ z ∈ sg', w'.heap[z.1]? = some z.2 ∧ z.1 ≠ ob ∧ (z.1 ∈ (sg g).map (·.1) ∨ w.heap.size ≤ z.1)) (hw : w0.heap.size ≤ w.heap.size) : Gr w0 w' N ob (Ul hd g (.slice A' l.length c')) (Sq gp g l) (Sq sg g sg') := by
  have hnew : ∀ z ∈ sg', w0.heap.size ≤ z.1 := fun z hz => (h5 z hz).2.2.elim (fun hm => by obtain ⟨y, hy, e⟩ := List.mem_map.1 hm; rw [← e]; exact (h.mem g hg y hy).2.1) (fun hl => Nat.le_trans hw hl)
  have hoff : ∀ g', g' < N → g' ≠ g → ∀ y ∈ sg g', ∀ z ∈ sg', y.1 ≠ z.1 := fun g' hg' hne y hy z hz e => (h5 z hz).2.2.elim (fun hm => by obtain ⟨x, hx, e2⟩ := List.mem_map.1 hm; exact h.apart g' g hg' hg hne y hy x hx (e.trans e2.symm)) (fun hl => by have := Da (h.mem g' hg' y hy).1; omega)
  refine ⟨h1, fun g' hg' => ?_, fun g' hg' z hz => ?_, fun a b ha hb hab z hz y hy => ?_, h.new⟩
  · by_cases e : g' = g
    · subst e; rw [F1, Gh, Gh]; exact ⟨A', c', rfl, h4⟩
    · rw [C9 e, Vg e, Vg e]; exact h.row g' hg'
  · by_cases e : g' = g
    · subst e; rw [Gh] at hz; exact ⟨(h5 z hz).1, hnew z hz, (h5 z hz).2.1⟩
    · rw [Vg e] at hz
      have hm := h.mem g' hg' z hz
      have k1 : w1.heap[z.1]? = w.heap[z.1]? := hs1.block _ (Da hm.1) fun hx => by obtain ⟨y, hy, e2⟩ := List.mem_map.1 hx; exact h.apart g' g hg' hg e z hz y hy e2.symm
      have k2 : w'.heap[z.1]? = w1.heap[z.1]? := hs2.block _ (Da (k1.trans hm.1)) (by simpa using hm.2.2)
      exact ⟨k2.trans (k1.trans hm.1), hm.2⟩
  · by_cases ea : a = g
    · subst ea
      rw [Gh] at hz
      rw [Vg (fun q => hab q.symm)] at hy
      exact fun e => hoff b hb (fun q => hab q.symm) y hy z hz e.symm
    · rw [Vg ea] at hz
      by_cases eb : b = g
      · subst eb; rw [Gh] at hy; exact hoff a ha ea z hz y hy
      · rw [Vg eb] at hy; exact h.apart a b ha hb hab z hz y hy
theorem Gr.rep (h : Gr w0 w N ob hd gp sg) (hN : N ≤ 1000) (hb : ∀ g, g < N → ∀ z ∈ gp g, -9223372036854775808 ≤ z ∧ z ≤ 9223372036854775807) : Rep (Btw w0 w) w (Io N gp) [.slice (some ⟨ob, 0, none⟩) N N] := by
  refine Rep.slice_mk Ga (Nat.le_refl _) by_Om fun _ => ⟨_, rfl, (List.range N).map hd, fun i hi => ⟨?_, h.new, Da h.top, _, _, h.top⟩, Ir N _ _ fun g hg => ?_⟩
  · have hi' : i < N := by simpa using hi
    rw [Nh, Nat.zero_add, Ib h.top, Tp hi']
    simp
  · obtain ⟨A, c, e, hS⟩ := h.row g hg
    rw [e]
    refine hS.repOf (fun z hz => ?_) (Pj (hb g hg)) Ga
    have hm := h.mem g hg z hz
    obtain ⟨cur, he⟩ := hS.typ.2 z hz
    exact ⟨hm.1, hm.2.1, Da hm.1, cur, 3, by rw [hm.1, he]⟩
end
theorem O7 {N k : Nat} {f : Nat → Value} (v : Value) : Ei (Tf N f) k [v] = Tf N (Ul f k v) := by
  have h := Lz (N := N) (k := k) (f := f) (f k) v
  rwa [Zz rfl] at h
section
variable {P : Program} {R : Exit → Act → World → Prop} {n : Nat} {k : Kt} {s : Nat → Value} {w : World} {ops rest : List Oper}
variable {ty : TypeId} {pos : String} {aft : Array Edge} {g : Option (Nat × Bool)} {w0 : World} {Ds : List Nat} {bs : List (Nat × Obj)}
end
def Co (n : Nat) (j : Nat) : List (Nat × Nat) → Nat
  | [] => n
  | z :: m => if j < z.2 then z.1 else Co n j m
def Sw (j : Nat) (m : List (Nat × Nat)) : Bool := m.any fun z => z.2 == j
def Wh (n : Nat) (m : List (Nat × Nat)) (gp : Nat → List Int) (j : Nat) : Nat → List Int := if Sw j m then gp else Sq gp (Co n j m) (gp (Co n j m) ++ [(j : Int)])
def Ws (n : Nat) (m : List (Nat × Nat)) (a k : Nat) (gp : Nat → List Int) : Nat → List Int := (List.range' a k).foldl (Wh n m) gp
theorem Sm (n : Nat) (m : List (Nat × Nat)) (a k : Nat) (gp : Nat → List Int) : Ws n m a (k + 1) gp = Wh n m (Ws n m a k gp) (a + k) := by
  unfold Ws; rw [List.range'_1_concat, List.foldl_append]; rfl
theorem S5 (n : Nat) (m : List (Nat × Nat)) (a k l : Nat) (gp : Nat → List Int) : Ws n m a (k + l) gp = Ws n m (a + k) l (Ws n m a k gp) := by
  unfold Ws; rw [← List.range'_append_1, List.foldl_append]
theorem G5 {n j : Nat} : ∀ {m : List (Nat × Nat)}, (∀ z ∈ m, z.1 < n) → Co n j m ≤ n
  | [], _ => Nat.le_refl _
  | z :: m, h => by
    rw [Co]
    split
    · exact Nat.le_of_lt (h z Ga)
    · exact G5 fun y hy => h y (by simp [hy])
theorem RiseN.above {n size : Nat} : ∀ {m : List (Nat × Nat)} {k j : Nat}, RiseN n size k j m → ∀ z ∈ m, j ≤ z.2
  | [], _, _, _, z, hz => by cases hz
  | y :: m, _, _, h, z, hz => by
    rcases List.mem_cons.1 hz with rfl | hz
    · exact h.2.2.1
    · have := RiseN.above h.2.2.2.2 z hz; have := h.2.2.1; omega
theorem J3 {n : Nat} {m : List (Nat × Nat)} {a k g : Nat} {gp : Nat → List Int} (h : ∀ j, a ≤ j → j < a + k → Sw j m = false ∧ Co n j m = g) : Ws n m a k gp = Sq gp g (gp g ++ rng a (a + k)) := by
  induction k with
  | zero => funext x; unfold Ws Sq; simp only [List.range'_zero, List.foldl_nil, Nat.add_zero, T4, List.append_nil]; split <;> simp_all
  | succ k ih =>
    obtain ⟨h1, h2⟩ := h (a + k) by_Om by_Om
    rw [Sm, ih fun j h1 h2 => h j h1 by_Om, Wh, h1, h2, if_neg Ga, Gh, show a + (k + 1) = a + k + 1 by omega, H4 (show a ≤ a + k by omega), List.append_assoc]
    funext x
    unfold Sq
    split <;> rfl
theorem IB {n : Nat} {m : List (Nat × Nat)} {z : Nat × Nat} {a k : Nat} {gp : Nat → List Int} (hz : z.2 < a) : Ws n (z :: m) a k gp = Ws n m a k gp := by
  induction k with
  | zero => rfl
  | succ k ih =>
    rw [Sm, Sm, ih]
    unfold Wh
    have e1 : Sw (a + k) (z :: m) = Sw (a + k) m := by simp only [Sw, List.any_cons]; rw [show (z.2 == a + k) = false by rw [beq_eq_false_iff_ne]; omega, Bool.false_or]
    rw [e1, show Co n (a + k) (z :: m) = Co n (a + k) m by rw [Co, if_neg by_Om]]
theorem Hz {n size : Nat} : ∀ (m : List (Nat × Nat)) (k j : Nat) (gp : Nat → List Int), RiseN n size k j m → Ws n m j (size - j) gp = Fe n size m j gp
  | [], k, j, gp, h => by
    have h : j ≤ size := h
    rw [J3 (g := n) fun i _ _ => ⟨rfl, rfl⟩, Fe, show j + (size - j) = size by omega]
  | z :: m, k, j, gp, h => by
    obtain ⟨h1, h2, h3, h4, h5⟩ := h
    have hab := RiseN.above h5
    rw [Fe, ← Hz m _ _ _ h5, show size - j = (z.2 - j) + (1 + (size - (z.2 + 1))) by omega, S5, S5, J3 (g := z.1) (a := j) (k := z.2 - j) fun i hi1 hi2 => ⟨?_, ?_⟩, show j + (z.2 - j) = z.2 by omega]
    · rw [IB (show z.2 < z.2 + 1 by omega)]
      congr 1
      unfold Ws
      rw [List.range'_one, List.foldl_cons, List.foldl_nil, Wh, if_pos (by simp [Sw])]
    · rw [Sw, List.any_eq_false]
      intro y hy
      rcases List.mem_cons.1 hy with rfl | hy
      · simp only [beq_iff_eq]; omega
      · have := hab y hy; simp only [beq_iff_eq]; omega
    · rw [Co, if_pos by_Om]
theorem Uz : ∀ (m : List (Nat × Nat)) (f : Nat → Int) (i : Nat), Im m f i = m.foldl (fun v z => if z.1 = i then (z.2 : Int) else v) (f i)
  | [], _, _ => rfl
  | z :: m, f, i => by
    rw [Im, Uz m, List.foldl_cons]
    unfold Ee
    by_cases e : z.1 = i
    · rw [if_pos e.symm, if_pos e]
    · rw [if_neg (fun q => e q.symm), if_neg e]
def EA (n j : Nat) (m : List (Nat × Nat)) (k : Nat) : Nat := Co n j (m.drop k)
theorem Sz {n j k : Nat} {m : List (Nat × Nat)} (h : k < m.length) : EA n j m k = if j < m[k].2 then m[k].1 else EA n j m (k + 1) := by
  unfold EA; rw [List.drop_eq_getElem_cons h, Co]
theorem Wy {j k : Nat} {m : List (Nat × Nat)} (h : k < m.length) : Sw j (m.drop k) = (decide (m[k].2 = j) || Sw j (m.drop (k + 1))) := by
  unfold Sw; rw [List.drop_eq_getElem_cons h, List.any_cons]; rfl
theorem Sv {n size : Int} : ∀ (m : List (Int × Int)) (q : Int × Int), (Zh n q m && (match m.getLast? with | none => true | some z => !decide (size ≤ z.2))) = Sl n size q m := by
  intro m
  induction m with
  | nil => intro q; rfl
  | cons z m ih =>
    intro q
    rw [Zh, Sl, ← ih z]
    cases m with
    | nil =>
      simp only [List.getLast?_singleton, Zh, List.getLast?_nil, Bool.and_true]
      by_cases h1 : q.1 < z.1 <;> by_cases h2 : q.2 < z.2 <;> by_cases h3 : z.1 < n <;> by_cases h4 : z.2 < size <;> simp [h1, h2, h3, h4, show (z.1 ≤ q.1) = ¬ (q.1 < z.1) by simp, show (z.2 ≤ q.2) = ¬ (q.2 < z.2) by simp, show (n ≤ z.1) = ¬ (z.1 < n) by simp, show (size ≤ z.2) = ¬ (z.2 < size) by simp]
    | cons u m =>
      rw [List.getLast?_cons_cons]
      by_cases hb : Zh n z (u :: m) = true ∧ (match (u :: m).getLast? with | none => true | some z => !decide (size ≤ z.2)) = true
      · have hz : z.2 < size := Tq (u :: m) z hb.1 fun w hw => by
          rw [List.getLast?_cons_cons] at hw
          have := hb.2
          rw [hw] at this
          simpa using this
        rw [hb.1, hb.2]
        by_cases h1 : q.1 < z.1 <;> by_cases h2 : q.2 < z.2 <;> by_cases h3 : z.1 < n <;> simp [h1, h2, h3, hz, show (z.1 ≤ q.1) = ¬ (q.1 < z.1) by simp, show (z.2 ≤ q.2) = ¬ (q.2 < z.2) by simp, show (n ≤ z.1) = ¬ (z.1 < n) by simp]
      · have : (Zh n z (u :: m) && (match (u :: m).getLast? with | none => true | some z => !decide (size ≤ z.2))) = false := by
          rw [Bool.eq_false_iff]; intro e; exact hb (by simpa using e)
        rw [this, Bool.and_false, Bool.and_assoc, this, Bool.and_false]
theorem Qk (n : Int) (m : List (Int × Int)) (size : Int) : Oi n m size = (Mf n m size && (!decide (size < 0) && !decide (64 < size))) := by
  unfold Oi Mf Hh
  rw [← Sv]
  cases hg : m.getLast? with
  | none => cases Zh n (-1, -1) m <;> by_cases h1 : (0 : Int) ≤ n <;> by_cases h2 : n ≤ 64 <;> by_cases h3 : size < 0 <;> by_cases h4 : 64 < size <;> simp [h1, h2, h3, h4]
  | some z => cases Zh n (-1, -1) m <;> by_cases h1 : (0 : Int) ≤ n <;> by_cases h2 : n ≤ 64 <;> by_cases h3 : size < 0 <;> by_cases h4 : 64 < size <;> by_cases h5 : size ≤ z.2 <;> simp [h1, h2, h3, h4, h5]
end Go.Scarf
