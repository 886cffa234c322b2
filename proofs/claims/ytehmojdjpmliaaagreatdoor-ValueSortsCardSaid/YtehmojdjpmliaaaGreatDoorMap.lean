/- A part of the proof. -/
import Derived.Laws.IdiomRangeMap
import Derived.Test.YtehmojdjpmliaaaGreatDoorSl
set_option linter.all false
namespace Go.Scarf
open Go.RowKit
abbrev MapL := List (Str × Value)
def entryOf (x : (Str × Value) × Nat) : MapEntry := ⟨.string (bs x.1.1), x.1.2, x.2⟩
def entriesFrom (l : MapL) (n : Nat) : List MapEntry := (l.zipIdx n).map entryOf
def mapO (l : MapL) : Obj := .map (entriesFrom l 0).toArray l.length
def lookM (l : MapL) (k : Str) : Option Value := (l.find? (fun x => decide (x.1 = k))).map (·.2)
theorem bs_beq' (a b : Str) : (bs a == bs b) = decide (a = b) := by
  show (a.toArray == b.toArray) = _
  by_cases h : a = b
  · subst h; simp
  · simp [h]
theorem findNow_eq (k : Str) : ∀ (l : MapL) (n i : Nat), Instr.findNow .string (.string (bs k)) (entriesFrom l n) i = some ((l.findIdx? (fun x => decide (x.1 = k))).bind fun j => (l[j]?).map fun x => (i + j, x.2))
  | [], n, i => by simp [entriesFrom, Instr.findNow]
  | x :: l, n, i => by
    have ih := findNow_eq k l (n + 1) (i + 1)
    unfold entriesFrom at ih ⊢
    rw [List.zipIdx_cons, List.map_cons, Instr.findNow, List.findIdx?_cons]
    have hs : Instr.sameNow .string (.string (bs k)) (entryOf (x, n)).key = some (decide (x.1 = k)) := by
      simp only [entryOf, Instr.sameNow, bs_beq']
      congr 1
      by_cases h : k = x.1
      · simp [h]
      · simp [h, show ¬ x.1 = k from fun e => h e.symm]
    rw [hs]
    by_cases h : x.1 = k
    · simp [h, entryOf]
    · simp only [h, decide_false, Bool.false_eq_true, if_false]
      rw [ih]
      cases hf : List.findIdx? (fun x => decide (x.1 = k)) l with
      | none => simp
      | some j => simp; congr 1; funext y; congr 1; omega
theorem find_idx (l : MapL) (k : Str) : ((l.findIdx? (fun x => decide (x.1 = k))).bind fun j => l[j]?) = l.find? (fun x => decide (x.1 = k)) := by
  induction l with
  | nil => rfl
  | cons x l ih =>
    rw [List.findIdx?_cons, List.find?_cons]
    by_cases h : x.1 = k
    · simp [h]
    · simp only [h, decide_false, Bool.false_eq_true, if_false]
      rw [← ih]
      cases List.findIdx? (fun x => decide (x.1 = k)) l <;> simp
section
variable {P : Program} {R : Exit → Act → World → Prop} {n : Nat} {k : Kt} {s : Nat → Value} {w : World} {ops rest : List Oper}
variable {d : Nat} {ty : TypeId} {pos : String} {aft : Array Edge} {g : Option (Nat × Bool)}
variable {w0 : World} {Ds : List Nat} {bs_ : List (Nat × Obj)} {ρ : Operand → Value} {dst : Option Nat}
theorem run_getMap {b : Nat} {l : MapL} (h : w.heap[b]? = some (mapO l)) : (getObj b).run P w = .ok (.map (entriesFrom l 0).toArray l.length) w := by
  simp [getObj, Sem.run, h, mapO]
theorem run_checkKey' (m : Nat) {kt : TypeId} {e : Bool} {x : Str} (hk : P.underlying kt = some .string) : (Instr.checkKey e (m + 1) kt (.string (bs x))).run P w = .ok () w := by
  simp [Instr.checkKey, run_underlying hk]
theorem run_checkKey {kt : TypeId} {e : Bool} {x : Str} (hk : P.underlying kt = some .string) : (Instr.checkKey e 10000 kt (.string (bs x))).run P w = .ok () w := run_checkKey' 9999 hk
theorem run_findKey {kt : TypeId} {l : MapL} {x : Str} (hk : P.underlying kt = some .string) :
    (Instr.findKey kt (.string (bs x)) (entriesFrom l 0)).run P w = .ok ((l.findIdx? (fun y => decide (y.1 = x))).bind fun j => (l[j]?).map fun y => (j, y.2)) w := by
  simp only [Instr.findKey, Sem.run_bind, run_underlying hk, Result.andThen_ok, findNow_eq, Nat.zero_add]
  rfl
theorem find_pair (l : MapL) (x : Str) : ((l.findIdx? (fun y => decide (y.1 = x))).bind fun j => (l[j]?).map fun y => (j, y.2)).map (·.2) = lookM l x := by
  unfold lookM
  rw [← find_idx]
  cases List.findIdx? (fun y => decide (y.1 = x)) l with
  | none => rfl
  | some j => simp only [Option.bind_some, Option.map_map]; rfl
theorem x_lookup {t kt e b : Nat} {x y : Operand} {l : MapL} {key : Str} {z : Value} (ht : P.underlying t = some (.map kt e)) (hk : P.underlying kt = some .string) (hz : ∀ w, (zeroValue e).run P w = .ok z w)
    (hx : ρ x = .map (some b)) (hy : ρ y = .string (bs key)) (hb : w.heap[b]? = some (mapO l)) :
    (execOp ρ ⟨dst, .lookup t x y false, ty, pos, aft, g⟩).run P w = .ok (.value ((lookM l key).getD z)) w := by
  have h := find_pair l key
  cases hf : ((l.findIdx? (fun y => decide (y.1 = key))).bind fun j => (l[j]?).map fun y => (j, y.2)) with
  | none => rw [hf] at h; simp only [Option.map_none] at h; rw [← h]; simp [execOp, Instr.lookup, hx, hy, run_underlying ht, run_getMap hb, run_checkKey hk, run_findKey hk, hf, hz]
  | some q => rw [hf] at h; simp only [Option.map_some] at h; rw [← h]; simp [execOp, Instr.lookup, hx, hy, run_underlying ht, run_getMap hb, run_checkKey hk, run_findKey hk, hf]
theorem x_lookup2 {t kt e b : Nat} {x y : Operand} {l : MapL} {key : Str} {z : Value} (ht : P.underlying t = some (.map kt e)) (hk : P.underlying kt = some .string) (hz : ∀ w, (zeroValue e).run P w = .ok z w)
    (hx : ρ x = .map (some b)) (hy : ρ y = .string (bs key)) (hb : w.heap[b]? = some (mapO l)) :
    (execOp ρ ⟨dst, .lookup t x y true, ty, pos, aft, g⟩).run P w = .ok (.value (.tuple #[(lookM l key).getD z, .bool (lookM l key).isSome])) w := by
  have h := find_pair l key
  cases hf : ((l.findIdx? (fun y => decide (y.1 = key))).bind fun j => (l[j]?).map fun y => (j, y.2)) with
  | none => rw [hf] at h; simp only [Option.map_none] at h; rw [← h]; simp [execOp, Instr.lookup, hx, hy, run_underlying ht, run_getMap hb, run_checkKey hk, run_findKey hk, hf, hz]
  | some q => rw [hf] at h; simp only [Option.map_some] at h; rw [← h]; simp [execOp, Instr.lookup, hx, hy, run_underlying ht, run_getMap hb, run_checkKey hk, run_findKey hk, hf]
theorem x_makeMap {t kt e : Nat} {x : Operand} {k : IntKind} {i : Int} (ht : P.underlying t = some (.map kt e)) (hx : ρ x = .int k i) :
    (execOp ρ ⟨dst, .makeMap t (some x), ty, pos, aft, g⟩).run P w = .ok (.value (.map (some w.heap.size))) (w.alloc (mapO [])) := by
  simp [execOp, Instr.makeMap, hx, run_underlying ht, asInt, asIntOf, newObj, Sem.run, mapO, entriesFrom]
theorem entriesFrom_snoc (l : MapL) (x : Str × Value) (n : Nat) : entriesFrom (l ++ [x]) n = entriesFrom l n ++ [⟨.string (bs x.1), x.2, n + l.length⟩] := by
  simp [entriesFrom, List.zipIdx_append, entryOf]
theorem run_setMap {b : Nat} {l : MapL} {o : Obj} (h : w.heap[b]? = some (mapO l)) (ho : ∃ es c, o = .map es c) : (setObj b o).run P w = .ok () { w with heap := w.heap.setIfInBounds b o } := by
  obtain ⟨es, c, rfl⟩ := ho
  simp [setObj, Sem.run, h, mapO]
theorem x_mapUpdate {t kt e b : Nat} {x y z : Operand} {l : MapL} {key : Str} {v : Value} (ht : P.underlying t = some (.map kt e)) (hk : P.underlying kt = some .string)
    (hx : ρ x = .map (some b)) (hy : ρ y = .string (bs key)) (hv : ρ z = v) (hb : w.heap[b]? = some (mapO l)) (hn : lookM l key = none) :
    (execOp ρ ⟨dst, .mapUpdate t x y z, ty, pos, aft, g⟩).run P w = .ok .skip { w with heap := w.heap.setIfInBounds b (mapO (l ++ [(key, v)])) } := by
  have h := find_pair l key
  rw [hn] at h
  have hf : ((l.findIdx? (fun y => decide (y.1 = key))).bind fun j => (l[j]?).map fun y => (j, y.2)) = none := by
    cases hf : ((l.findIdx? (fun y => decide (y.1 = key))).bind fun j => (l[j]?).map fun y => (j, y.2)) with
    | none => rfl
    | some q => rw [hf] at h; cases h
  have ho : mapO (l ++ [(key, v)]) = .map (entriesFrom l 0 ++ [(⟨.string (bs key), v, l.length⟩ : MapEntry)]).toArray (l.length + 1) := by
    simp [mapO, entriesFrom_snoc]
  have hs := run_setMap (P := P) (o := mapO (l ++ [(key, v)])) hb ⟨_, _, rfl⟩
  rw [ho] at hs ⊢
  simp [execOp, Instr.mapUpdate, hx, hy, hv, run_underlying ht, run_getMap hb, run_checkKey hk, run_findKey hk, hf, hs]
theorem x_rangeM {t kt e b : Nat} {x : Operand} {l : MapL} (ht : P.underlying t = some (.map kt e)) (hx : ρ x = .map (some b)) (hb : w.heap[b]? = some (mapO l)) :
    (execOp ρ ⟨dst, .range t x, ty, pos, aft, g⟩).run P w = .ok (.value (.pointer (some ⟨w.heap.size, 0, none⟩))) (w.alloc (.mapIter (some b) l.length #[] l.length)) := by
  have hr := run_range_map (P := P) w t kt e b (entriesFrom l 0).toArray l.length ht hb
  simp [execOp, hx, hr]
theorem entries_born (l : MapL) (n : Nat) : (entriesFrom l n).map (·.born) = List.range' n l.length := by
  induction l generalizing n with
  | nil => rfl
  | cons x l ih =>
    have := ih (n + 1)
    unfold entriesFrom at this ⊢
    rw [List.zipIdx_cons, List.map_cons, List.map_cons, this, List.length_cons, List.range'_succ]
    rfl
theorem entries_length (l : MapL) (n : Nat) : (entriesFrom l n).length = l.length := by simp [entriesFrom]
theorem entries_get (l : MapL) (n i : Nat) (h : i < l.length) : (entriesFrom l n)[i]'(by rw [entries_length]; exact h) = ⟨.string (bs l[i].1), l[i].2, n + i⟩ := by
  simp [entriesFrom, entryOf]
theorem entries_lt (l : MapL) : ∀ x ∈ (entriesFrom l 0).toArray.toList, x.born < l.length := by
  intro x hx
  have : x.born ∈ (entriesFrom l 0).map (·.born) := List.mem_map_of_mem (by simpa using hx)
  rw [entries_born] at this
  simpa using this
theorem run_nextM {ty : TypeId} {it b : Nat} {l : MapL} {seen : Array Nat} (hi : w.heap[it]? = some (.mapIter (some b) l.length seen l.length)) (hb : w.heap[b]? = some (mapO l)) :
    ((∀ i, i < l.length → seen.contains i = true) ∧ (Instr.next (.pointer (some ⟨it, 0, none⟩)) false ty).run P w = .ok (.tuple #[.bool false]) w) ∨
    ∃ (i : Nat) (h : i < l.length) (w' : World), seen.contains i = false ∧ (Instr.next (.pointer (some ⟨it, 0, none⟩)) false ty).run P w = .ok (.tuple #[.bool true, .string (bs l[i].1), l[i].2]) w' ∧
      Same [it] w w' ∧ w'.heap[it]? = some (.mapIter (some b) l.length (seen.push i) l.length) := by
  have hb' : w.heap[b]? = some (.map (entriesFrom l 0).toArray l.length) := hb
  simp only [Instr.next, getObj, Sem.run_bind, Sem.run, hi, hb', Result.andThen, next_test_false seen _ _ _ (entries_lt l) (Nat.le_refl _), Bool.false_eq_true, if_false]
  have hmem : ∀ x ∈ (Array.filter (fun e => !seen.contains e.born) (entriesFrom l 0).toArray).toList, x.born < l.length := fun x hx => entries_lt l x (by simp at hx ⊢; exact hx.1)
  generalize hL : Array.filter (fun e => !seen.contains e.born) (entriesFrom l 0).toArray = L at hmem ⊢
  have e1 : L.filter (fun x => decide (x.born < l.length)) = L := Array.filter_eq_self.2 (fun x hx => by simpa using hmem x (by simpa using hx))
  have e2 : L.filter (fun x => decide (x.born ≥ l.length)) = #[] := by
    rw [Array.filter_eq_empty_iff]
    intro x hx
    have := hmem x (by simpa using hx)
    simp
    omega
  simp only [e1, e2, Array.append_empty]
  by_cases h0 : L.size = 0
  · left
    have : L = #[] := Array.eq_empty_of_size_eq_zero h0
    subst this
    refine ⟨fun i hi' => ?_, by simp [choose, Sem.run, Question.forced]⟩
    rw [Array.filter_eq_empty_iff] at hL
    have := hL (⟨.string (bs l[i].1), l[i].2, 0 + i⟩) (by
      rw [← entries_get l 0 i hi']
      simp)
    simpa using this
  · right
    have hne : L.isEmpty = false := by simp [Array.isEmpty, h0]
    simp only [hne, Bool.false_eq_true, if_false, Array.empty_append, Array.size_map]
    have hch : ∃ (j : Nat) (w1 : World), j < L.size ∧ Same [] w w1 ∧ w1.heap = w.heap ∧ (choose (Question.mapNext L.size)).run P w = .ok j w1 := by
      by_cases hf : L.size ≤ 1
      · exact ⟨0, w, by omega, Same.refl _ _, rfl, by simp [choose, Sem.run, Question.forced, hf]⟩
      · exact ⟨_, w.drew, Nat.mod_lt _ (by omega), Same.drew w, rfl, by
          simp only [choose, Sem.run, Question.forced, decide_eq_true_eq, hf, if_false, Question.cut]
          rfl⟩
    obtain ⟨j, w1, hj, hs, hh, hrun⟩ := hch
    have hjm : L[j] ∈ Array.filter (fun e => !seen.contains e.born) (entriesFrom l 0).toArray := by rw [hL]; simp
    have hjm' := Array.mem_filter.1 hjm
    have hje : L[j] ∈ entriesFrom l 0 := by simpa using hjm'.1
    obtain ⟨i, hi', he⟩ := List.getElem_of_mem hje
    rw [entries_length] at hi'
    rw [entries_get l 0 i hi', Nat.zero_add] at he
    have hns : seen.contains i = false := by
      have := hjm'.2
      rw [← he] at this
      simpa using this
    have hset : (setObj it (.mapIter (some b) l.length (seen.push i) l.length)).run P w1 = .ok () { w1 with heap := w1.heap.setIfInBounds it (.mapIter (some b) l.length (seen.push i) l.length) } := by
      simp [setObj, Sem.run, hh, hi]
    refine ⟨i, hi', { w1 with heap := w1.heap.setIfInBounds it (.mapIter (some b) l.length (seen.push i) l.length) }, hns, ?_, (hs.mono (by simp)).trans (set_same w1 it _), ?_⟩
    · simp only [hrun, Array.getElem?_map, Array.getElem?_eq_getElem hj, Option.map_some, Sem.run_bind, ← he, hset, Result.andThen]
      rfl
    · have hlt := lt_of_some hi
      simp [hh, hlt]
theorem run_entryM {it b i : Nat} {l : MapL} {seen : Array Nat} (h : i < l.length) (hi : w.heap[it]? = some (.mapIter (some b) l.length (seen.push i) l.length)) (hb : w.heap[b]? = some (mapO l)) :
    (Instr.entry (.pointer (some ⟨it, 0, none⟩))).run P w = .ok (.tuple #[.string (bs l[i].1), l[i].2]) w := by
  have hb' : w.heap[b]? = some (.map (entriesFrom l 0).toArray l.length) := hb
  have hn : ((entriesFrom l 0).map (·.born)).Nodup := by rw [entries_born]; exact List.nodup_range'
  have hm : (⟨.string (bs l[i].1), l[i].2, 0 + i⟩ : MapEntry) ∈ entriesFrom l 0 := by rw [← entries_get l 0 i h]; simp
  have hf : (entriesFrom l 0).toArray.find? (·.born == i) = some ⟨.string (bs l[i].1), l[i].2, 0 + i⟩ := by
    have := find_born _ _ hn hm
    rw [Nat.zero_add] at this ⊢
    rw [← Array.find?_toList]
    exact this
  simp only [Instr.entry, getObj, Sem.run_bind, Sem.run, hi, hb', Result.andThen, Array.back?_push, bne_self_eq_false, Bool.false_eq_true, if_false, hf]
  rfl
theorem x_lookupE {t kt e b : Nat} {x y : Operand} {l : MapL} {key : Str} {z v : Value} (ht : P.underlying t = some (.map kt e)) (hk : P.underlying kt = some .string) (hz : ∀ w, (zeroValue e).run P w = .ok z w)
    (hx : ρ x = .map (some b)) (hy : ρ y = .string (bs key)) (hb : w.heap[b]? = some (mapO l)) (hv : (lookM l key).getD z = v) :
    (execOp ρ ⟨dst, .lookup t x y false, ty, pos, aft, g⟩).run P w = .ok (.value v) w := hv ▸ x_lookup ht hk hz hx hy hb
theorem x_lookup2E {t kt e b : Nat} {x y : Operand} {l : MapL} {key : Str} {z v : Value} {o : Bool} (ht : P.underlying t = some (.map kt e)) (hk : P.underlying kt = some .string) (hz : ∀ w, (zeroValue e).run P w = .ok z w)
    (hx : ρ x = .map (some b)) (hy : ρ y = .string (bs key)) (hb : w.heap[b]? = some (mapO l)) (hv : (lookM l key).getD z = v) (ho : (lookM l key).isSome = o) :
    (execOp ρ ⟨dst, .lookup t x y true, ty, pos, aft, g⟩).run P w = .ok (.value (.tuple #[v, .bool o])) w := hv ▸ ho ▸ x_lookup2 ht hk hz hx hy hb
theorem FR.setObj {o o' : Obj} {b : Nat} (hF : FR w0 Ds bs_ w) (i : Nat) (hi : bs_[i]? = some (b, o)) : FR w0 Ds (bs_.set i (b, o')) { w with heap := w.heap.setIfInBounds b o' } :=
  hF.change i hi (set_same w b o') (by have := hF.lt hi; simp [this])
theorem o_mapUpdate (i : Nat) {t kt e b : Nat} {x y z : Operand} {l : MapL} {key : Str} {v : Value} (hF : FR w0 Ds bs_ w) (ht : P.underlying t = some (.map kt e)) (hk : P.underlying kt = some .string)
    (hx : ev n s x = .map (some b)) (hy : ev n s y = .string (bs key)) (hv : ev n s z = v) (hi : bs_[i]? = some (b, mapO l)) (hn : lookM l key = none)
    (h : ∀ w', FR w0 Ds (bs_.set i (b, mapO (l ++ [(key, v)]))) w' → Same [b] w w' → Og P R n ops k rest s w')
    (hw : wantedB ops n s ⟨none, .mapUpdate t x y z, ty, pos, aft, g⟩ = true := by rfl) : Og P R n ops k (⟨none, .mapUpdate t x y z, ty, pos, aft, g⟩ :: rest) s w :=
  o_unit (x_mapUpdate ht hk hx hy hv (hF.heap hi) hn) (h _ (hF.setObj i hi) (set_same w b _)) hw
theorem lookM_append (l l' : MapL) (k : Str) : lookM (l ++ l') k = (lookM l k).or (lookM l' k) := by
  unfold lookM; rw [List.find?_append]; cases List.find? (fun x => decide (x.1 = k)) l <;> simp
def unseen (N : Nat) (seen : Array Nat) : Nat := ((List.range N).filter fun i => !seen.contains i).length
theorem unseen_push {N j : Nat} {seen : Array Nat} (hj : j < N) (hn : seen.contains j = false) : unseen N (seen.push j) < unseen N seen := by
  unfold unseen
  refine filter_lt (fun i => !seen.contains i) (fun i => !(seen.push j).contains i) (fun x hx => ?_) j (by rw [hn]; rfl) ?_ _ (List.mem_range.2 hj)
  · rw [contains_push] at hx
    simp only [Bool.not_or, Bool.and_eq_true] at hx
    exact hx.1
  · rw [contains_push]; simp
theorem o_nextM (i : Nat) {x : Operand} {it b : Nat} {l : MapL} {seen : Array Nat} (hF : FR w0 Ds bs_ w) (hx : ev n s x = .pointer (some ⟨it, 0, none⟩)) (hi : bs_[i]? = some (it, .mapIter (some b) l.length seen l.length)) (hb : w.heap[b]? = some (mapO l))
    (hend : (∀ i, i < l.length → seen.contains i = true) → Og P R n ops k rest (upd s d (.tuple #[.bool false])) w)
    (hnext : ∀ j w' (h : j < l.length), seen.contains j = false → FR w0 Ds (bs_.set i (it, .mapIter (some b) l.length (seen.push j) l.length)) w' → Same [it] w w' → w'.heap[b]? = some (mapO l) →
      Og P R n ops k rest (upd s d (.tuple #[.bool true, .string (bs l[j].1), l[j].2])) w')
    (hw : wantedB ops n s ⟨some d, .next x false, ty, pos, aft, g⟩ = true := by rfl) : Og P R n ops k (⟨some d, .next x false, ty, pos, aft, g⟩ :: rest) s w := by
  have hit := hF.heap hi
  have hbit : b ≠ it := by
    rintro rfl
    rw [hb] at hit
    injection hit with hit
    cases hit
  rcases run_nextM (P := P) (ty := ty) hit hb with ⟨hall, hr⟩ | ⟨j, hj, w', hn, hr, hs, hh⟩
  · refine o_val (v := .tuple #[.bool false]) (w' := w) ?_ (hend hall) hw
    simp [execOp, hx, hr]
  · refine o_val (v := .tuple #[.bool true, .string (bs l[j].1), l[j].2]) (w' := w') ?_ (hnext j w' hj hn (hF.change i hi hs hh) hs ((hs.block b (lt_of_some hb) (by simpa using hbit)).trans hb)) hw
    simp [execOp, hx, hr]
theorem x_entryM {x : Operand} {it b j : Nat} {l : MapL} {seen : Array Nat} {v : Value} (hx : ρ x = .pointer (some ⟨it, 0, none⟩)) (h : j < l.length) (hi : w.heap[it]? = some (.mapIter (some b) l.length (seen.push j) l.length)) (hb : w.heap[b]? = some (mapO l)) (hv : l[j].2 = v) :
    (execOp ρ ⟨dst, .entry x, ty, pos, aft, g⟩).run P w = .ok (.value (.tuple #[.string (bs l[j].1), v])) w := by
  subst hv
  simp [execOp, hx, run_entryM h hi hb]
theorem x_len_map {t kt e b : Nat} {x : Operand} {l : MapL} (ht : P.underlying t = some (.map kt e)) (hx : ρ x = .map (some b)) (hb : w.heap[b]? = some (mapO l)) :
    (execOp ρ ⟨dst, .call ⟨.builtin .len, #[x], #[t]⟩, ty, pos, aft, g⟩).run P w = .ok (.value (.int .i64 (l.length : Int))) w := by
  have hu : ∀ w, (underlying t).run P w = .ok (.map kt e) w := run_underlying ht
  simp [execOp, resolve, invoke, builtin, Builtin.len_, hx, hu, goInt, run_getMap hb, entries_length]
theorem FR.heap0 {b : Nat} {o : Obj} (hF : FR w0 [] bs_ w) (h : w0.heap[b]? = some o) : w.heap[b]? = some o := (hF.same.block b (lt_of_some h) (by simp)).trans h
end
end Go.Scarf
