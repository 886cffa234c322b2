/- A part of the proof. -/
import Derived.Laws.IdiomRangeMap
import Derived.Test.YtepbomjpbdbejaaGreatDoorMore
import Derived.Test.YtepbomjpbdbejaaGreatDoorTd1
import Derived.Test.YtepbomjpbdbejaaGreatDoorP1
set_option linter.all false
set_option maxHeartbeats 8000000
set_option maxRecDepth 10000
namespace Go.Scarf
open Go.RowKit
abbrev MapI := List (Int × Value)
def Yu (x : (Int × Value) × Nat) : MapEntry := ⟨.int .i64 x.1.1, x.1.2, x.2⟩
def Wc (l : MapI) (n : Nat) : List MapEntry := (l.zipIdx n).map Yu
def Cj (l : MapI) : Obj := .map (Wc l 0).toArray l.length
def ZD (l : MapI) (k : Int) : Option Value := (l.find? (fun x => decide (x.1 = k))).map (·.2)
theorem Tw (k : Int) : ∀ (l : MapI) (n i : Nat), Instr.findNow (.int .i64) (.int .i64 k) (Wc l n) i = some ((l.findIdx? (fun x => decide (x.1 = k))).bind fun j => (l[j]?).map fun x => (i + j, x.2))
  | [], n, i => by simp [Wc, Instr.findNow]
  | x :: l, n, i => by
    have ih := Tw k l (n + 1) (i + 1)
    unfold Wc at ih ⊢
    rw [List.zipIdx_cons, List.map_cons, Instr.findNow, List.findIdx?_cons]
    have hs : Instr.sameNow (.int .i64) (.int .i64 k) (Yu (x, n)).key = some (decide (x.1 = k)) := by
      simp only [Yu, Instr.sameNow, if_true]
      congr 1
      by_cases h : k = x.1
      · simp [h]
      · simp [h, show ¬ x.1 = k from fun e => h e.symm]
    rw [hs]
    by_cases h : x.1 = k
    · simp [h, Yu]
    · simp only [h, decide_false, Bool.false_eq_true, if_false]
      rw [ih]
      cases hf : List.findIdx? (fun x => decide (x.1 = k)) l with
      | none => simp
      | some j => simp; congr 1; funext y; congr 1; omega
theorem FF (l : MapI) (k : Int) : ((l.findIdx? (fun x => decide (x.1 = k))).bind fun j => l[j]?) = l.find? (fun x => decide (x.1 = k)) := by
  induction l with
  | nil => rfl
  | cons x l ih =>
    rw [List.findIdx?_cons, List.find?_cons]
    by_cases h : x.1 = k
    · simp [h]
    · simp only [h, decide_false, Bool.false_eq_true, if_false]
      rw [← ih]
      cases List.findIdx? (fun x => decide (x.1 = k)) l <;> simp
section
variable {P : Program} {R : Exit → Act → World → Prop} {n : Nat} {k : Kt} {s : Nat → Value} {w : World} {ops rest : List Oper}
variable {d : Nat} {ty : TypeId} {pos : String} {aft : Array Edge} {g : Option (Nat × Bool)}
variable {w0 : World} {Ds : List Nat} {bs_ : List (Nat × Obj)} {ρ : Operand → Value} {dst : Option Nat}
theorem Rw {b : Nat} {l : MapI} (h : w.heap[b]? = some (Cj l)) : (getObj b).run P w = .ok (.map (Wc l 0).toArray l.length) w := by
  simp [getObj, Sem.run, h, Cj]
theorem Qz (m : Nat) {kt : TypeId} {e : Bool} {x : Int} (hk : P.underlying kt = some (.int .i64)) : (Instr.checkKey e (m + 1) kt (.int .i64 x)).run P w = .ok () w := by
  simp [Instr.checkKey, run_underlying hk]
theorem Pr {kt : TypeId} {e : Bool} {x : Int} (hk : P.underlying kt = some (.int .i64)) : (Instr.checkKey e 10000 kt (.int .i64 x)).run P w = .ok () w := Qz 9999 hk
theorem Su {kt : TypeId} {l : MapI} {x : Int} (hk : P.underlying kt = some (.int .i64)) :
    (Instr.findKey kt (.int .i64 x) (Wc l 0)).run P w = .ok ((l.findIdx? (fun y => decide (y.1 = x))).bind fun j => (l[j]?).map fun y => (j, y.2)) w := by
  simp only [Instr.findKey, Sem.run_bind, run_underlying hk, Result.andThen_ok, Tw, Nat.zero_add]
  rfl
theorem Rz (l : MapI) (x : Int) : ((l.findIdx? (fun y => decide (y.1 = x))).bind fun j => (l[j]?).map fun y => (j, y.2)).map (·.2) = ZD l x := by
  unfold ZD
  rw [← FF]
  cases List.findIdx? (fun y => decide (y.1 = x)) l with
  | none => rfl
  | some j => simp only [Option.bind_some, Option.map_map]; rfl
theorem R1 (l : MapI) (x : Int × Value) (n : Nat) : Wc (l ++ [x]) n = Wc l n ++ [⟨.int .i64 x.1, x.2, n + l.length⟩] := by
  simp [Wc, List.zipIdx_append, Yu]
theorem Yw {b : Nat} {l : MapI} {o : Obj} (h : w.heap[b]? = some (Cj l)) (ho : ∃ es c, o = .map es c) : (setObj b o).run P w = .ok () { w with heap := w.heap.setIfInBounds b o } := by
  obtain ⟨es, c, rfl⟩ := ho
  simp [setObj, Sem.run, h, Cj]
theorem U5 {t kt e b : Nat} {x y z : Operand} {l : MapI} {key : Int} {v : Value} (ht : P.underlying t = some (.map kt e)) (hk : P.underlying kt = some (.int .i64))
    (hx : ρ x = .map (some b)) (hy : ρ y = .int .i64 key) (hv : ρ z = v) (hb : w.heap[b]? = some (Cj l)) (hn : ZD l key = none) :
    (execOp ρ ⟨dst, .mapUpdate t x y z, ty, pos, aft, g⟩).run P w = .ok .skip { w with heap := w.heap.setIfInBounds b (Cj (l ++ [(key, v)])) } := by
  have h := Rz l key
  rw [hn] at h
  have hf : ((l.findIdx? (fun y => decide (y.1 = key))).bind fun j => (l[j]?).map fun y => (j, y.2)) = none := by
    cases hf : ((l.findIdx? (fun y => decide (y.1 = key))).bind fun j => (l[j]?).map fun y => (j, y.2)) with
    | none => rfl
    | some q => rw [hf] at h; cases h
  have ho : Cj (l ++ [(key, v)]) = .map (Wc l 0 ++ [(⟨.int .i64 key, v, l.length⟩ : MapEntry)]).toArray (l.length + 1) := by
    simp [Cj, R1]
  have hs := Yw (P := P) (o := Cj (l ++ [(key, v)])) hb ⟨_, _, rfl⟩
  rw [ho] at hs ⊢
  simp [execOp, Instr.mapUpdate, hx, hy, hv, run_underlying ht, Rw hb, Pr hk, Su hk, hf, hs]
theorem HJ {t kt e b : Nat} {x : Operand} {l : MapI} (ht : P.underlying t = some (.map kt e)) (hx : ρ x = .map (some b)) (hb : w.heap[b]? = some (Cj l)) :
    (execOp ρ ⟨dst, .range t x, ty, pos, aft, g⟩).run P w = .ok (.value (.pointer (some ⟨w.heap.size, 0, none⟩))) (w.alloc (.mapIter (some b) l.length #[] l.length)) := by
  have hr := run_range_map (P := P) w t kt e b (Wc l 0).toArray l.length ht hb
  simp [execOp, hx, hr]
theorem Qr (l : MapI) (n : Nat) : (Wc l n).map (·.born) = List.range' n l.length := by
  induction l generalizing n with
  | nil => rfl
  | cons x l ih =>
    have := ih (n + 1)
    unfold Wc at this ⊢
    rw [List.zipIdx_cons, List.map_cons, List.map_cons, this, List.length_cons, List.range'_succ]
    rfl
theorem Ph (l : MapI) (n : Nat) : (Wc l n).length = l.length := by simp [Wc]
theorem Ti (l : MapI) (n i : Nat) (h : i < l.length) : (Wc l n)[i]'(by rw [Ph]; exact h) = ⟨.int .i64 l[i].1, l[i].2, n + i⟩ := by
  simp [Wc, Yu]
theorem Zw (l : MapI) : ∀ x ∈ (Wc l 0).toArray.toList, x.born < l.length := by
  intro x hx
  have : x.born ∈ (Wc l 0).map (·.born) := List.mem_map_of_mem (by simpa using hx)
  rw [Qr] at this
  simpa using this
theorem IG {ty : TypeId} {it b : Nat} {l : MapI} {seen : Array Nat} (hi : w.heap[it]? = some (.mapIter (some b) l.length seen l.length)) (hb : w.heap[b]? = some (Cj l)) :
    ((∀ i, i < l.length → seen.contains i = true) ∧ (Instr.next (.pointer (some ⟨it, 0, none⟩)) false ty).run P w = .ok (.tuple #[.bool false]) w) ∨
    ∃ (i : Nat) (h : i < l.length) (w' : World), seen.contains i = false ∧ (Instr.next (.pointer (some ⟨it, 0, none⟩)) false ty).run P w = .ok (.tuple #[.bool true, .int .i64 l[i].1, l[i].2]) w' ∧
      Same [it] w w' ∧ w'.heap[it]? = some (.mapIter (some b) l.length (seen.push i) l.length) := by
  have hb' : w.heap[b]? = some (.map (Wc l 0).toArray l.length) := hb
  simp only [Instr.next, getObj, Sem.run_bind, Sem.run, hi, hb', Result.andThen, next_test_false seen _ _ _ (Zw l) (Nat.le_refl _), Bool.false_eq_true, if_false]
  have hmem : ∀ x ∈ (Array.filter (fun e => !seen.contains e.born) (Wc l 0).toArray).toList, x.born < l.length := fun x hx => Zw l x (by simp at hx ⊢; exact hx.1)
  generalize hL : Array.filter (fun e => !seen.contains e.born) (Wc l 0).toArray = L at hmem ⊢
  have e1 : L.filter (fun x => decide (x.born < l.length)) = L := Array.filter_eq_self.2 (fun x hx => by simpa using hmem x (by simpa using hx))
  have e2 : L.filter (fun x => decide (x.born ≥ l.length)) = #[] := by
    rw [Array.filter_eq_empty_iff]
    intro x hx
    have := hmem x (by simpa using hx)
    simp
    omega
  simp only [e1, e2, Array.append_empty]
  by_cases h0 : L.size = 0
  · left
    have : L = #[] := Array.eq_empty_of_size_eq_zero h0
    subst this
    refine ⟨fun i hi' => ?_, by simp [choose, Sem.run, Question.forced]⟩
    rw [Array.filter_eq_empty_iff] at hL
    have := hL (⟨.int .i64 l[i].1, l[i].2, 0 + i⟩) (by
      rw [← Ti l 0 i hi']
      simp)
    simpa using this
  · right
    have hne : L.isEmpty = false := by simp [Array.isEmpty, h0]
    simp only [hne, Bool.false_eq_true, if_false, Array.empty_append, Array.size_map]
    have hch : ∃ (j : Nat) (w1 : World), j < L.size ∧ Same [] w w1 ∧ w1.heap = w.heap ∧ (choose (Question.mapNext L.size)).run P w = .ok j w1 := by
      by_cases hf : L.size ≤ 1
      · exact ⟨0, w, by omega, Same.refl _ _, rfl, by simp [choose, Sem.run, Question.forced, hf]⟩
      · exact ⟨_, w.drew, Nat.mod_lt _ by_Om, Same.drew w, rfl, by
          simp only [choose, Sem.run, Question.forced, decide_eq_true_eq, hf, if_false, Question.cut]
          rfl⟩
    obtain ⟨j, w1, hj, hs, hh, hrun⟩ := hch
    have hjm : L[j] ∈ Array.filter (fun e => !seen.contains e.born) (Wc l 0).toArray := by rw [hL]; simp
    have hjm' := Array.mem_filter.1 hjm
    have hje : L[j] ∈ Wc l 0 := by simpa using hjm'.1
    obtain ⟨i, hi', he⟩ := List.getElem_of_mem hje
    rw [Ph] at hi'
    rw [Ti l 0 i hi', Nat.zero_add] at he
    have hns : seen.contains i = false := by
      have := hjm'.2
      rw [← he] at this
      simpa using this
    have hset : (setObj it (.mapIter (some b) l.length (seen.push i) l.length)).run P w1 = .ok () { w1 with heap := w1.heap.setIfInBounds it (.mapIter (some b) l.length (seen.push i) l.length) } := by
      simp [setObj, Sem.run, hh, hi]
    refine ⟨i, hi', { w1 with heap := w1.heap.setIfInBounds it (.mapIter (some b) l.length (seen.push i) l.length) }, hns, ?_, (hs.mono Ga).trans (Cn w1 it _), ?_⟩
    · simp only [hrun, Array.getElem?_map, Array.getElem?_eq_getElem hj, Option.map_some, Sem.run_bind, ← he, hset, Result.andThen]
      rfl
    · have hlt := Fa hi
      simp [hh, hlt]
theorem VB {it b i : Nat} {l : MapI} {seen : Array Nat} (h : i < l.length) (hi : w.heap[it]? = some (.mapIter (some b) l.length (seen.push i) l.length)) (hb : w.heap[b]? = some (Cj l)) :
    (Instr.entry (.pointer (some ⟨it, 0, none⟩))).run P w = .ok (.tuple #[.int .i64 l[i].1, l[i].2]) w := by
  have hb' : w.heap[b]? = some (.map (Wc l 0).toArray l.length) := hb
  have hn : ((Wc l 0).map (·.born)).Nodup := by rw [Qr]; exact List.nodup_range'
  have hm : (⟨.int .i64 l[i].1, l[i].2, 0 + i⟩ : MapEntry) ∈ Wc l 0 := by rw [← Ti l 0 i h]; simp
  have hf : (Wc l 0).toArray.find? (·.born == i) = some ⟨.int .i64 l[i].1, l[i].2, 0 + i⟩ := by
    have := find_born _ _ hn hm
    rw [Nat.zero_add] at this ⊢
    rw [← Array.find?_toList]
    exact this
  simp only [Instr.entry, getObj, Sem.run_bind, Sem.run, hi, hb', Result.andThen, Array.back?_push, bne_self_eq_false, Bool.false_eq_true, if_false, hf]
  rfl
theorem UN (i : Nat) {x : Operand} {it b : Nat} {l : MapI} {seen : Array Nat} (hF : FR w0 Ds bs_ w) (hx : ev n s x = .pointer (some ⟨it, 0, none⟩)) (hi : bs_[i]? = some (it, .mapIter (some b) l.length seen l.length)) (hb : w.heap[b]? = some (Cj l))
    (hend : (∀ i, i < l.length → seen.contains i = true) → Og P R n ops k rest (Tg s d (.tuple #[.bool false])) w)
    (hnext : ∀ j w' (h : j < l.length), seen.contains j = false → FR w0 Ds (bs_.set i (it, .mapIter (some b) l.length (seen.push j) l.length)) w' → Same [it] w w' → w'.heap[b]? = some (Cj l) →
      Og P R n ops k rest (Tg s d (.tuple #[.bool true, .int .i64 l[j].1, l[j].2])) w')
    (hw : Vb ops n s ⟨some d, .next x false, ty, pos, aft, g⟩ = true := by rfl) : Og P R n ops k (⟨some d, .next x false, ty, pos, aft, g⟩ :: rest) s w := by
  have hit := hF.heap hi
  have hbit : b ≠ it := by
    rintro rfl
    rw [hb] at hit
    injection hit with hit
    cases hit
  rcases IG (P := P) (ty := ty) hit hb with ⟨hall, hr⟩ | ⟨j, hj, w', hn, hr, hs, hh⟩
  · refine Ja (v := .tuple #[.bool false]) (w' := w) ?_ (hend hall) hw
    simp [execOp, hx, hr]
  · refine Ja (v := .tuple #[.bool true, .int .i64 l[j].1, l[j].2]) (w' := w') ?_ (hnext j w' hj hn (hF.change i hi hs hh) hs ((hs.block b (Fa hb) (by simpa using hbit)).trans hb)) hw
    simp [execOp, hx, hr]
theorem WH {x : Operand} {it b j : Nat} {l : MapI} {seen : Array Nat} {v : Value} (hx : ρ x = .pointer (some ⟨it, 0, none⟩)) (h : j < l.length) (hi : w.heap[it]? = some (.mapIter (some b) l.length (seen.push j) l.length)) (hb : w.heap[b]? = some (Cj l)) (hv : l[j].2 = v) :
    (execOp ρ ⟨dst, .entry x, ty, pos, aft, g⟩).run P w = .ok (.value (.tuple #[.int .i64 l[j].1, v])) w := by
  subst hv
  simp [execOp, hx, VB h hi hb]
end
end Go.Scarf
namespace Go.Scarf
abbrev LN := List (Int × Nat)
def P6 (l : LN) (k : Int) (v : Nat) : LN := match l.findIdx? (fun x => decide (x.1 = k)) with
  | some i => l.set i (k, v)
  | none => l ++ [(k, v)]
def Mk (l : LN) : MapI := l.map fun x => (x.1, Value.int .i64 (x.2 : Int))
theorem Dp (l : LN) : (Mk l).length = l.length := by simp [Mk]
def LastOk (fs : List Int) (j : Nat) (l : LN) : Prop := (l.map (·.1)).Nodup ∧ ∀ k v, (k, v) ∈ l ↔ v < j ∧ fs.getD v 0 = k ∧ ∀ i, v < i → i < j → fs.getD i 0 ≠ k
theorem LastOk.nil (fs : List Int) : LastOk fs 0 [] := ⟨by simp, fun k v => by simp⟩
theorem TF {l : LN} {k : Int} (h : l.findIdx? (fun x => decide (x.1 = k)) = none) : ∀ v, (k, v) ∉ l := fun v hv => by
  rw [List.findIdx?_eq_none_iff] at h
  have := h _ hv
  simp at this
theorem N3 {l : LN} {k : Int} {i : Nat} (h : l.findIdx? (fun x => decide (x.1 = k)) = some i) : ∃ hi : i < l.length, l[i].1 = k := by
  rw [List.findIdx?_eq_some_iff_getElem] at h
  obtain ⟨hi, h1, -⟩ := h
  exact ⟨hi, by simpa using h1⟩
theorem E_ {l : LN} (hn : (l.map (·.1)).Nodup) {i j : Nat} (hi : i < l.length) (hj : j < l.length) (h : l[i].1 = l[j].1) : i = j := by
  have hp := List.pairwise_iff_getElem.1 hn
  refine Classical.byContradiction fun hne => ?_
  rcases Nat.lt_or_gt_of_ne hne with h1 | h1
  · exact hp i j (by simpa using hi) (by simpa using hj) h1 (by simpa using h)
  · exact hp j i (by simpa using hj) (by simpa using hi) h1 (by simpa using h.symm)
theorem LastOk.step {fs : List Int} {j : Nat} {l : LN} (h : LastOk fs j l) : LastOk fs (j + 1) (P6 l (fs.getD j 0) j) := by
  obtain ⟨hn, hm⟩ := h
  unfold P6
  cases hf : l.findIdx? (fun x => decide (x.1 = fs.getD j 0)) with
  | none =>
    have hno := TF hf
    refine ⟨?_, fun k v => ?_⟩
    · rw [List.map_append, List.nodup_append]
      refine ⟨hn, by simp, fun a ha b hb => ?_⟩
      simp only [List.map_cons, List.map_nil, List.mem_singleton] at hb
      subst hb
      rintro rfl
      obtain ⟨x, hx, hxe⟩ := List.mem_map.1 ha
      exact hno x.2 (by rw [← hxe]; exact hx)
    · rw [List.mem_append, List.mem_singleton]
      constructor
      · rintro (h1 | h1)
        · obtain ⟨h2, h3, h4⟩ := (hm k v).1 h1
          refine ⟨by omega, h3, fun i hi1 hi2 => ?_⟩
          by_cases e : i = j
          · subst e; intro e2; subst e2; exact hno v h1
          · exact h4 i hi1 by_Om
        · obtain ⟨rfl, rfl⟩ := Prod.mk.inj h1
          exact ⟨by omega, rfl, fun i hi1 hi2 => by omega⟩
      · rintro ⟨h1, h2, h3⟩
        by_cases e : v = j
        · subst e; exact .inr (by rw [h2])
        · exact .inl ((hm k v).2 ⟨by omega, h2, fun i hi1 hi2 => h3 i hi1 by_Om⟩)
  | some i =>
    obtain ⟨hi, hik⟩ := N3 hf
    have hmem : ∀ k v, (k, v) ∈ l.set i (fs.getD j 0, j) ↔ (k = fs.getD j 0 ∧ v = j) ∨ ((k, v) ∈ l ∧ k ≠ fs.getD j 0) := fun k v => by
      rw [List.mem_iff_getElem]
      constructor
      · rintro ⟨q, hq, he⟩
        rw [List.length_set] at hq
        by_cases e : i = q
        · subst e
          rw [List.getElem_set_self] at he
          obtain ⟨rfl, rfl⟩ := Prod.mk.inj he
          exact .inl ⟨rfl, rfl⟩
        · rw [List.getElem_set_ne e] at he
          refine .inr ⟨by rw [← he]; exact List.getElem_mem _, fun e2 => e ?_⟩
          refine E_ hn hi hq ?_
          rw [hik, he]; exact e2.symm
      · rintro (⟨rfl, rfl⟩ | ⟨h1, h2⟩)
        · exact ⟨i, by rw [List.length_set]; exact hi, List.getElem_set_self _⟩
        · obtain ⟨q, hq, he⟩ := List.mem_iff_getElem.1 h1
          have e : i ≠ q := fun e => by subst e; rw [he] at hik; exact h2 hik
          exact ⟨q, by rw [List.length_set]; exact hq, by rw [List.getElem_set_ne e]; exact he⟩
    refine ⟨?_, fun k v => ?_⟩
    · have e : (l.set i (fs.getD j 0, j)).map (·.1) = l.map (·.1) := by
        rw [List.map_set]
        show (l.map (·.1)).set i (fs.getD j 0) = _
        rw [← hik]
        have : (l.map (·.1))[i]'(by simpa using hi) = l[i].1 := by simp
        rw [← this]
        exact List.set_getElem_self _
      rw [e]; exact hn
    · rw [hmem]
      constructor
      · rintro (⟨rfl, rfl⟩ | ⟨h1, h2⟩)
        · exact ⟨by omega, rfl, fun q hq1 hq2 => by omega⟩
        · obtain ⟨h3, h4, h5⟩ := (hm k v).1 h1
          refine ⟨by omega, h4, fun q hq1 hq2 => ?_⟩
          by_cases e : q = j
          · subst e; exact fun e2 => h2 e2.symm
          · exact h5 q hq1 by_Om
      · rintro ⟨h1, h2, h3⟩
        by_cases e : v = j
        · subst e; exact .inl ⟨h2.symm, rfl⟩
        · exact .inr ⟨(hm k v).2 ⟨by omega, h2, fun q hq1 hq2 => h3 q hq1 by_Om⟩, fun e2 => h3 j by_Om by_Om e2.symm⟩
theorem Gq {α : Type} [DecidableEq α] {a b : List α} (ha : a.Nodup) (hb : b.Nodup) (h : ∀ x, x ∈ a ↔ x ∈ b) : a.Perm b := by
  rw [List.perm_iff_count]
  intro x
  by_cases hx : x ∈ a
  · rw [List.Nodup.count ha, List.Nodup.count hb, if_pos hx, if_pos ((h x).1 hx)]
  · rw [List.count_eq_zero.2 hx, List.count_eq_zero.2 (fun hq => hx ((h x).2 hq))]
theorem LastOk.perm {fs : List Int} {l : LN} (h : LastOk fs fs.length l) : (l.map (·.2)).Perm (Hc fs) := by
  obtain ⟨hn, hm⟩ := h
  refine Gq ?_ ((Yq fs).imp fun h => by omega) fun v => ?_
  · refine List.pairwise_iff_getElem.2 fun i j hi hj hij e => ?_
    simp only [List.getElem_map] at e
    simp only [List.length_map] at hi hj
    have h1 := (hm l[i].1 l[i].2).1 (List.getElem_mem hi)
    have h2 := (hm l[j].1 l[j].2).1 (List.getElem_mem hj)
    have : l[i].1 = l[j].1 := by rw [← h1.2.1, ← h2.2.1, e]
    have := E_ hn hi hj this
    omega
  · rw [Ng]
    constructor
    · intro hv
      obtain ⟨x, hx, rfl⟩ := List.mem_map.1 hv
      obtain ⟨h1, h2, h3⟩ := (hm x.1 x.2).1 hx
      exact ⟨h1, fun q hq1 hq2 => by rw [h2]; exact h3 q hq2 hq1⟩
    · rintro ⟨h1, h2⟩
      exact List.mem_map.2 ⟨(fs.getD v 0, v), (hm _ _).2 ⟨h1, rfl, fun q hq1 hq2 => h2 q hq2 hq1⟩, rfl⟩
theorem C8 {fs : List Int} {vs : List Nat} (h : vs.Perm (Hc fs)) : (vs.map fun i : Nat => (i : Int)).mergeSort (fun x y => decide (x ≤ y)) = (Hc fs).map fun i : Nat => (i : Int) := by
  have hp : ((vs.map fun i : Nat => (i : Int)).mergeSort (fun x y => decide (x ≤ y))).Perm ((Hc fs).map fun i : Nat => (i : Int)) := (List.mergeSort_perm _ _).trans (h.map _)
  refine hp.eq_of_pairwise (le := fun x y => x ≤ y) (fun a b _ _ h1 h2 => by omega) ?_ ?_
  · have := List.pairwise_mergeSort (le := fun (x y : Int) => decide (x ≤ y)) (fun a b c h1 h2 => by simp only [decide_eq_true_eq] at *; omega) (fun a b => by simp only [Bool.or_eq_true, decide_eq_true_eq]; omega) (vs.map fun i : Nat => (i : Int))
    exact this.imp fun h => by simpa using h
  · exact List.pairwise_map.2 ((Yq fs).imp fun h => by omega)
theorem VG {l : LN} {seen : List Nat} (hn : seen.Nodup) (hl : ∀ i ∈ seen, i < l.length) (ha : ∀ i, i < l.length → i ∈ seen) : (seen.map fun i => (l.getD i (0, 0)).2).Perm (l.map (·.2)) := by
  have hp : seen.Perm (List.range l.length) := Gq hn List.nodup_range fun x => ⟨fun h => List.mem_range.2 (hl x h), fun h => ha x (List.mem_range.1 h)⟩
  refine (hp.map _).trans ?_
  have e : (List.range l.length).map (fun i => (l.getD i (0, 0)).2) = l.map (·.2) := by
    apply List.ext_getElem Ga
    intro i h1 h2
    simp only [List.length_map, List.length_range] at h1
    simp [List.getD, h1]
  rw [e]
end Go.Scarf
namespace Go.Scarf
open Go.RowKit
section
variable {P : Program} {R : Exit → Act → World → Prop} {n : Nat} {k : Kt} {s : Nat → Value} {w : World} {ops rest : List Oper}
variable {d : Nat} {ty : TypeId} {pos : String} {aft : Array Edge} {g : Option (Nat × Bool)}
variable {w0 : World} {Ds : List Nat} {bs_ : List (Nat × Obj)} {ρ : Operand → Value} {dst : Option Nat}
theorem S9 {t kt e : Nat} (ht : P.underlying t = some (.map kt e)) :
    (execOp ρ ⟨dst, .makeMap t none, ty, pos, aft, g⟩).run P w = .ok (.value (.map (some w.heap.size))) (w.alloc (Cj [])) := by
  simp [execOp, Instr.makeMap, run_underlying ht, newObj, Sem.run, Cj, Wc]
theorem P5 (l : LN) {i v : Nat} {key : Int} (hi : i < l.length) :
    ((Wc (Mk l) 0).toArray.modify i fun e => { e with key := .int .i64 key, val := .int .i64 (v : Int) }) = (Wc (Mk (l.set i (key, v))) 0).toArray := by
  apply Array.ext
  · simp [Ph, Mk]
  · intro q h1 h2
    have hq : q < l.length := by simpa [Ph, Mk] using h1
    have hq1 : q < (Mk l).length := by rw [Dp]; exact hq
    have hq2 : q < (Mk (l.set i (key, v))).length := by rw [Dp, List.length_set]; exact hq
    have e1 := Ti (Mk l) 0 q hq1
    have e2 := Ti (Mk (l.set i (key, v))) 0 q hq2
    rw [Array.getElem_modify]
    simp only [List.getElem_toArray, e1, e2]
    by_cases e : i = q
    · subst e
      rw [if_pos rfl]
      simp [Mk]
    · rw [if_neg e]
      simp [Mk, List.getElem_set_ne e]
theorem K7 (l : LN) (key : Int) : (Mk l).findIdx? (fun y => decide (y.1 = key)) = l.findIdx? (fun x => decide (x.1 = key)) := by
  unfold Mk
  rw [List.findIdx?_map]
  rfl
theorem VI {t kt e b : Nat} {x y z : Operand} {l : LN} {key : Int} {v : Nat} (ht : P.underlying t = some (.map kt e)) (hk : P.underlying kt = some (.int .i64))
    (hx : ρ x = .map (some b)) (hy : ρ y = .int .i64 key) (hv : ρ z = .int .i64 (v : Int)) (hb : w.heap[b]? = some (Cj (Mk l))) :
    (execOp ρ ⟨dst, .mapUpdate t x y z, ty, pos, aft, g⟩).run P w = .ok .skip { w with heap := w.heap.setIfInBounds b (Cj (Mk (P6 l key v))) } := by
  unfold P6
  cases hf : l.findIdx? (fun x => decide (x.1 = key)) with
  | none =>
    have hn : ZD (Mk l) key = none := by
      rw [← Rz, K7, hf]; rfl
    have := U5 (dst := dst) (ty := ty) (pos := pos) (aft := aft) (g := g) ht hk hx hy hv hb hn
    rw [this]
    simp [Mk]
  | some i =>
    obtain ⟨hi, hik⟩ := N3 hf
    have hfk : ((Mk l).findIdx? (fun y => decide (y.1 = key))).bind (fun j => ((Mk l)[j]?).map fun y => (j, y.2)) = some (i, .int .i64 (l[i].2 : Int)) := by
      rw [K7, hf]
      simp [Mk, hi]
    have hs := Yw (P := P) (o := Cj (Mk (l.set i (key, v)))) hb ⟨_, _, rfl⟩
    have ho : Cj (Mk (l.set i (key, v))) = .map ((Wc (Mk l) 0).toArray.modify i fun e => { e with key := .int .i64 key, val := .int .i64 (v : Int) }) (Mk l).length := by
      rw [P5 l hi, Cj]
      simp [Mk]
    rw [ho] at hs ⊢
    have hes : (((Wc (Mk l) 0).toArray[i]?).map (·.key)).getD (.int .i64 key) = .int .i64 key := by
      have e1 := Ti (Mk l) 0 i (by rw [Dp]; exact hi)
      rw [List.getElem?_toArray, List.getElem?_eq_getElem (by rw [Ph, Dp]; exact hi), e1]
      simp [Mk, hik]
    have hkt : (Instr.keyThatStays (.int .i64 key) (.int .i64 key)).run P w = .ok (.int .i64 key) w := by
      simp [Instr.keyThatStays, Instr.sameBits]
    simp only [execOp, Instr.mapUpdate, hx, hy, hv, Sem.run_bind, run_underlying ht, Rw hb, Pr hk, Su hk, Result.andThen, hfk, hes, hkt, hs]
    rfl
theorem PH (i : Nat) {t kt e b : Nat} {x y z : Operand} {l : LN} {key : Int} {v : Nat} (hF : FR w0 Ds bs_ w) (ht : P.underlying t = some (.map kt e)) (hk : P.underlying kt = some (.int .i64))
    (hx : ev n s x = .map (some b)) (hy : ev n s y = .int .i64 key) (hv : ev n s z = .int .i64 (v : Int)) (hi : bs_[i]? = some (b, Cj (Mk l)))
    (h : ∀ w', FR w0 Ds (bs_.set i (b, Cj (Mk (P6 l key v)))) w' → Same [b] w w' → Og P R n ops k rest s w')
    (hw : Vb ops n s ⟨none, .mapUpdate t x y z, ty, pos, aft, g⟩ = true := by rfl) : Og P R n ops k (⟨none, .mapUpdate t x y z, ty, pos, aft, g⟩ :: rest) s w :=
  Ry (VI ht hk hx hy hv (hF.heap hi)) (h _ (hF.setObj i hi) (Cn w b _)) hw
end
end Go.Scarf
