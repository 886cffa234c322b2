/- A part of the proof. -/
import Derived.Laws.AppendOwn
import Derived.Test.YtehmojdjpmliaaaGreatDoorOp2
import Derived.Test.YtehmojdjpmliaaaGreatDoorTree
set_option linter.all false
namespace Go.Scarf
open Go.RowKit
def SlB (e m : Nat) (A : Option Addr) (n c : Nat) (xs : List Value) (sb : List (Nat × Obj)) : Prop :=
  xs.length = n * m ∧ ((n = 0 ∧ c = 0 ∧ sb = []) ∨
    ∃ g cur, A = some ⟨g, 0, none⟩ ∧ sb = [(g, .cells cur e)] ∧ n ≤ c ∧ c ≤ maxLen ∧ cur.size = c * m ∧ cur.toList.take (n * m) = xs)
theorem SlB.nil (e m : Nat) : SlB e m none 0 0 [] [] := ⟨by simp, .inl ⟨rfl, rfl, rfl⟩⟩
theorem SlB.zero (e m : Nat) (A : Option Addr) : SlB e m A 0 0 [] [] := ⟨by simp, .inl ⟨rfl, rfl, rfl⟩⟩
theorem SlB.len {e m n c : Nat} {A : Option Addr} {xs : List Value} {sb : List (Nat × Obj)} (h : SlB e m A n c xs sb) : xs.length = n * m := h.1
theorem SlB.cap {e m n c : Nat} {A : Option Addr} {xs : List Value} {sb : List (Nat × Obj)} (h : SlB e m A n c xs sb) : n ≤ c ∧ c ≤ maxLen := by
  rcases h.2 with ⟨rfl, rfl, -⟩ | ⟨g, cur, -, -, h1, h2, -⟩
  · exact ⟨Nat.le_refl _, Nat.zero_le _⟩
  · exact ⟨h1, h2⟩
section
variable {P : Program} {w0 w : World} {Ds : List Nat} {pre post sb bs : List (Nat × Obj)}
theorem FR.memHeap (h : FR w0 Ds bs w) {p : Nat × Obj} (hp : p ∈ bs) : w.heap[p.1]? = some p.2 := (h.own p hp).1
theorem SlB.cells {e m n c : Nat} {A : Option Addr} {xs : List Value} (h : SlB e m A n c xs sb) (hF : FR w0 Ds (pre ++ (sb ++ post)) w) :
    ∀ ad, A = some ad → ∀ j u, xs[j]? = some u → w.cell? (ad.add j) = some u := by
  rintro ad rfl j u hu
  rcases h.2 with ⟨hn, -⟩ | ⟨g, cur, hA, rfl, -, -, -, htake⟩
  · have := h.1; subst hn; rw [Nat.zero_mul] at this; rw [List.eq_nil_of_length_eq_zero this] at hu; cases hu
  · injection hA with hA; subst hA
    have hg := hF.memHeap (p := (g, .cells cur e)) (by simp)
    rw [addr_add, Nat.zero_add, cell_of_row w g j cur e (0, 0) hg]
    rw [← htake, List.getElem?_take] at hu
    split at hu
    · simpa using hu
    · cases hu
theorem FR.insert {w' : World} {o : Obj} (h : FR w0 Ds (pre ++ (sb ++ post)) w) (hs : Same [] w w') (hb : w'.heap[w.heap.size]? = some o) : FR w0 Ds (pre ++ ([(w.heap.size, o)] ++ post)) w' := by
  have hlt : ∀ p ∈ pre ++ (sb ++ post), p.1 < w.heap.size := fun p hp => lt_of_some (h.memHeap hp)
  refine ⟨h.same.trans (hs.mono (by simp)), fun p hp => ?_, ?_⟩
  · simp only [List.mem_append, List.mem_singleton] at hp
    rcases hp with hp | rfl | hp
    · have h1 := h.own p (by simp [hp])
      exact ⟨(hs.block p.1 (lt_of_some h1.1) (by simp)).trans h1.1, h1.2⟩
    · exact ⟨hb, .inl h.same.size⟩
    · have h1 := h.own p (by simp [hp])
      exact ⟨(hs.block p.1 (lt_of_some h1.1) (by simp)).trans h1.1, h1.2⟩
  · have hd := h.desc
    rw [List.pairwise_append] at hd ⊢
    obtain ⟨h1, h2, h3⟩ := hd
    refine ⟨h1, ?_, ?_⟩
    · rw [List.pairwise_append] at h2 ⊢
      refine ⟨by simp, h2.2.1, ?_⟩
      intro p hp q hq
      simp only [List.mem_singleton] at hp
      subst hp
      have := hlt q (by simp [hq])
      show q.1 ≠ w.heap.size
      omega
    · intro p hp q hq
      simp only [List.mem_append, List.mem_singleton] at hq
      rcases hq with rfl | hq
      · have := hlt p (by simp [hp])
        show w.heap.size ≠ p.1
        omega
      · exact h3 p hp q (by simp [hq])
theorem FR.changeMid {w' : World} {g : Nat} {o o' : Obj} (h : FR w0 Ds (pre ++ ([(g, o)] ++ post)) w) (hs : Same [g] w w') (hn : w'.heap[g]? = some o') : FR w0 Ds (pre ++ ([(g, o')] ++ post)) w' := by
  have hi : (pre ++ ([(g, o)] ++ post))[pre.length]? = some (g, o) := by simp
  have := h.change pre.length hi hs hn
  simpa [List.set_append] using this
theorem append_own {t ty e m bytes : Nat} {i : TypeInfo} {z : Value} {A A2 : Option Addr} {n c k c2 : Nat} {xs news : List Value}
    (ht : P.underlying t = some (.slice e)) (hi : P.info? e = some i) (hz : i.zero = some z) (hsize : i.size = m) (hby : i.bytes = bytes) (hzs : z.cells.size = m)
    (hF : FR w0 Ds (pre ++ (sb ++ post)) w) (hS : SlB e m A n c xs sb)
    (hl : news.length = k * m) (hnews : k ≠ 0 → ∃ a, A2 = some a ∧ ∀ j u, news[j]? = some u → w.cell? (a.add j) = some u) (h1 : ∀ u ∈ news, u.oneCell' = true)
    (h63 : n + k ≤ maxLen) (hbytes : (n + k) * bytes ≤ 140737488355328) :
    ∃ A' c' sb' w', (Builtin.append_ #[t, t] ty #[.slice A n c, .slice A2 k c2]).run P w = .ok (.slice A' (n + k) c') w' ∧ SlB e m A' (n + k) c' (xs ++ news) sb' ∧ FR w0 Ds (pre ++ (sb' ++ post)) w' ∧
      Same (sb.map (·.1)) w w' ∧ (∀ p ∈ sb', p.1 ∈ sb.map (·.1) ∨ w.heap.size ≤ p.1) := by
  subst hsize
  subst hby
  by_cases hk : k = 0
  · subst hk
    have hn : news = [] := List.eq_nil_of_length_eq_zero (by simpa using hl)
    subst hn
    refine ⟨A, c, sb, w, ?_, by simpa using hS, hF, Same.refl _ _, fun p hp => .inl (List.mem_map_of_mem hp)⟩
    have hnc := hS.cap.1
    have hf : (Builtin.firstCells i.size 0 (.slice A2 0 c2)).run P w = .ok #[] w := by
      cases A2 <;> simp [Builtin.firstCells, loadCells, loadCellsFrom]
    cases A <;> simp [Builtin.append_, run_underlying ht, sizeOf, typeInfo, hi, Builtin.lenOf, hnc, hf, storeCells]
  obtain ⟨a, rfl, hnw⟩ := hnews hk
  clear hnews
  have hlen : (xs ++ news).length = (n + k) * i.size := by rw [List.length_append, hS.1, hl, Nat.add_mul]
  simp only [maxLen] at h63
  have grown : ∀ (old : Nat), old < n + k →
      SlB e i.size (some ⟨w.heap.size, 0, none⟩) (n + k) (grownCap w (n + k) old e) (xs ++ news) [(w.heap.size, .cells (xs.toArray ++ news.toArray ++ Builtin.zeroCells z.cells (grownCap w (n + k) old e - (n + k))) e)] ∧
      FR w0 Ds (pre ++ ([(w.heap.size, .cells (xs.toArray ++ news.toArray ++ Builtin.zeroCells z.cells (grownCap w (n + k) old e - (n + k))) e)] ++ post)) (w.drew.alloc (.cells (xs.toArray ++ news.toArray ++ Builtin.zeroCells z.cells (grownCap w (n + k) old e - (n + k))) e)) ∧
      Same (sb.map (·.1)) w (w.drew.alloc (.cells (xs.toArray ++ news.toArray ++ Builtin.zeroCells z.cells (grownCap w (n + k) old e - (n + k))) e)) := by
    intro old ho
    have hge := grownCap_ge w (n + k) old e
    have hcm : grownCap w (n + k) old e ≤ maxLen := grownCap_le_maxLen w (n + k) old e (by simp only [maxLen]; omega)
    have hsm : Same [] w (w.drew.alloc (.cells (xs.toArray ++ news.toArray ++ Builtin.zeroCells z.cells (grownCap w (n + k) old e - (n + k))) e)) := (Same.drew w).trans (Same.alloc w.drew _)
    refine ⟨⟨hlen, .inr ⟨w.heap.size, _, rfl, rfl, hge, hcm, ?_, ?_⟩⟩, hF.insert hsm (heap_alloc_new w.drew _), hsm.mono (by simp)⟩
    · simp only [Array.size_append, List.size_toArray, size_zeroCells, hzs, hS.1, hl, ← Nat.add_mul]
      congr 1
      omega
    · simp only [Array.toList_append, List.append_assoc]
      rw [← List.append_assoc, ← hlen]
      exact List.take_left
  rcases hS.2 with ⟨rfl, rfl, rfl⟩ | ⟨g, cur, rfl, rfl, hnc, hcm, hcs, htake⟩
  · have hx : xs = [] := List.eq_nil_of_length_eq_zero (by simpa using hS.1)
    subst hx
    have hgr := grown 0 (by omega)
    cases A with
    | none =>
      have hr := run_append_nil (P := P) w t ty e i z ht hi hz a k c2 news hl hnw (by omega) (by omega) (by have hb := hbytes; simp only [Nat.zero_add] at hb; omega)
      simp only [Nat.zero_add, List.nil_append, Array.empty_append] at hgr ⊢
      exact ⟨_, _, _, _, hr, hgr.1, hgr.2.1, hgr.2.2, fun p hp => .inr (by simp only [List.mem_singleton] at hp; subst hp; exact Nat.le_refl _)⟩
    | some a0 =>
      have hr := run_append_grow (P := P) w t ty e i z ht hi hz a0 0 0 [] (by simp) (fun j u hu => by cases hu) a k c2 news hl hnw (by omega) (by omega) (growslice_fits (by omega) hbytes)
      exact ⟨_, _, _, _, hr, hgr.1, hgr.2.1, hgr.2.2, fun p hp => .inr (by simp only [List.mem_singleton] at hp; subst hp; exact Nat.le_refl _)⟩
  · have hg : w.heap[g]? = some (.cells cur e) := hF.memHeap (p := (g, .cells cur e)) (by simp)
    by_cases hroom : n + k ≤ c
    · have hfit : n * i.size + news.length ≤ cur.size := by rw [hl, hcs, ← Nat.add_mul]; exact Nat.mul_le_mul_right _ hroom
      have hr := run_append_room (P := P) w t ty e i ht hi g n c cur hg a k c2 news hl hnw h1 hroom hfit
      have hsm : Same [g] w (w.setRow g (cur.toList.take (n * i.size) ++ news ++ cur.toList.drop (n * i.size + news.length)).toArray) :=
        ⟨rfl, rfl, rfl, by simp [World.setRow], fun b _ hb => setRow_other w g b _ (by simpa using hb)⟩
      refine ⟨_, _, [(g, .cells (cur.toList.take (n * i.size) ++ news ++ cur.toList.drop (n * i.size + news.length)).toArray e)], _, hr, ⟨hlen, .inr ⟨g, _, rfl, rfl, hroom, hcm, ?_, ?_⟩⟩, hF.changeMid hsm (setRow_heap w g cur _ e _ hg), by simpa using hsm, fun p hp => .inl (by simp at hp ⊢; exact congrArg Prod.fst hp)⟩
      · simp only [List.size_toArray, List.length_append, List.length_take, List.length_drop, Array.length_toList]
        omega
      · rw [htake, ← hlen]
        exact List.take_left
    · have holds : ∀ j u, xs[j]? = some u → w.cell? ((⟨g, 0, none⟩ : Addr).add j) = some u := hS.cells hF _ rfl
      have hr := run_append_grow (P := P) w t ty e i z ht hi hz ⟨g, 0, none⟩ n c xs hS.1 holds a k c2 news hl hnw (by omega) (by omega) (growslice_fits (by omega) hbytes)
      have hgr := grown c (by omega)
      exact ⟨_, _, _, _, hr, hgr.1, hgr.2.1, hgr.2.2, fun p hp => .inr (by simp only [List.mem_singleton] at hp; subst hp; exact Nat.le_refl _)⟩
end
end Go.Scarf
