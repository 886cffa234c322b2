/- A part of the proof. -/
import Derived.Sort.KeysCollected
import Derived.Test.YtehmojdjpmliaaaGreatDoorMap
import Derived.Test.YtehmojdjpmliaaaGreatDoorNew
set_option linter.all false
namespace Go.Scarf
open Go.RowKit Go.Maps Go.WideShapes
open Go.Proofs (encStr)
theorem rd_text {P : Program} {k : TypeId} (hk : P.underlying k = some .string) (x : (Str × Value) × Nat) (h : x.1.1.length ≤ maxLen) :
    WideElems.rd P k (fun _ => some ((.nil : DataW Unit), ([] : List MemPlace))) (entryOf x) = some (.string x.1.1, .nil) := by
  have h1 : (bs x.1.1).size ≤ maxLen := h
  simp [WideElems.rd, entryOf, keyOf, hk, mapKey, h1]
theorem rg_entries {P : Program} {k : TypeId} (hk : P.underlying k = some .string) : ∀ (l : MapL) (n : Nat), (∀ x ∈ l, x.1.length ≤ maxLen) →
    (entriesFrom l n).map (WideElems.rg P k (fun _ => some ((.nil : DataW Unit), ([] : List MemPlace)))) = l.map (fun x => (Lit.string x.1, DataW.nil))
  | [], n, _ => rfl
  | x :: l, n, h => by
    have ih := rg_entries hk l (n + 1) (fun y hy => h y (by simp [hy]))
    unfold entriesFrom at ih ⊢
    rw [List.zipIdx_cons, List.map_cons, List.map_cons, List.map_cons, ih]
    congr 1
    unfold WideElems.rg
    rw [rd_text hk _ (h x (by simp))]
    rfl
theorem ownsMap_of {P : Program} {k : TypeId} {w : World} {b : Nat} {l : MapL} (hk : P.underlying k = some .string) (hb : w.heap[b]? = some (mapO l)) (hn : (l.map (·.1)).Nodup) (hx : ∀ x ∈ l, x.1.length ≤ maxLen) (hl : l.length ≤ maxLen) :
    ∃ D0 : DataW Unit, w.ownsMap P k (fun _ => some (.nil, [])) b l.length D0 ∧ (strKeys D0).Perm (l.map (·.1)) ∧ Maps.size D0 = l.length := by
  have hrg := rg_entries hk l 0 hx
  refine ⟨_, ⟨(entriesFrom l 0).toArray, l.length, hb, ⟨by simpa [entries_length] using hl, ⟨fun x hx => entries_lt l x hx, ?_, ?_⟩, ?_⟩, by simp [entries_length], rfl⟩, ?_, ?_⟩
  · rw [List.toList_toArray, entries_born]; exact List.nodup_range'
  · rw [List.toList_toArray]
    have : ∀ (l : MapL) (n : Nat), (entriesFrom l n).map (·.key) = l.map (fun x => Value.string (bs x.1)) := by
      intro l
      induction l with
      | nil => intro n; rfl
      | cons x l ih =>
        intro n
        have := ih (n + 1)
        unfold entriesFrom at this ⊢
        rw [List.zipIdx_cons, List.map_cons, List.map_cons, this]
        rfl
    rw [this]
    have e : l.map (fun x => Value.string (bs x.1)) = (l.map (·.1)).map (fun s => Value.string (bs s)) := by simp [List.map_map]
    rw [e]
    refine List.pairwise_map.2 (hn.imp fun {a b} hne he => hne ?_)
    injection he with he
    exact bs_inj.1 he
  · intro x hx'
    rw [List.toList_toArray] at hx'
    obtain ⟨⟨y, i⟩, hy, rfl⟩ := List.mem_map.1 hx'
    have hm : y ∈ l := by
      have := List.mem_zipIdx hy
      rw [this.2.2]; exact List.getElem_mem _
    exact ⟨_, rd_text hk (y, i) (hx y hm)⟩
  · rw [List.toList_toArray, hrg]
    have hp := sorted_perm (l.map (fun x => (Lit.string x.1, (DataW.nil : DataW Unit))))
    refine (hp.map fun p => strOf p.1).trans ?_
    rw [List.map_map]
    exact List.Perm.refl _
  · rw [List.toList_toArray, hrg]
    have hp := sorted_perm (l.map (fun x => (Lit.string x.1, (DataW.nil : DataW Unit))))
    show List.length _ = _
    rw [hp.length_eq, List.length_map]
def sortS (ks : List Str) : List Str := ks.mergeSort leB
theorem sortS_perm (ks : List Str) : (sortS ks).Perm ks := List.mergeSort_perm ks leB
theorem sortS_mem {ks : List Str} {k : Str} : k ∈ sortS ks ↔ k ∈ ks := (sortS_perm ks).mem_iff
theorem sortS_len (ks : List Str) : (sortS ks).length = ks.length := (sortS_perm ks).length_eq
theorem sortS_of_perm {ks ss : List Str} (h : ss.Perm ks) : ss.mergeSort leB = sortS ks := mergeSort_of_perm h
theorem row_strs {w : World} {base : Nat} {v : Value} {ss : List Str} {S : Nat → Prop} (e : TypeId) (h : w.ownsRow base e 1 v ss.length (ss.map encStr)) (hS : ∀ g, base ≤ g → g < w.heap.size → Soft w g → S g) (hs : ∀ s ∈ ss, s.length ≤ 9223372036854775807) :
    ∃ A c, v = .slice A ss.length c ∧ Rep S w (strsD ss) [.slice A ss.length c] := by
  have hr : ∀ (l : List Str), (∀ s ∈ l, s.length ≤ 9223372036854775807) → RepL S w (l.map strD) (l.map encStr) := by
    intro l
    induction l with
    | nil => intro _; exact RepL.nil_mk
    | cons s l ih =>
      intro hl
      have := RepL.cons_mk (Rep.lit_mk (S := S) (w := w) (v := .string (bs s)) (hl s (by simp))) (ih (fun x hx => hl x (by simp [hx])))
      exact this
  rcases h.2 with ⟨rfl, h0⟩ | ⟨g, cap, cur, rfl, h1, h2, h3, h4, h5, h6⟩
  · have : ss = [] := List.eq_nil_of_length_eq_zero h0
    subst this
    exact ⟨none, 0, rfl, Rep.nil_slice 0 (by omega) none⟩
  · refine ⟨_, cap, rfl, Rep.slice_mk (by simp) h3 h4 fun _ => ⟨_, rfl, _, fun i hi => ⟨?_, ?_⟩, hr ss hs⟩⟩
    · rw [addr_add, Nat.zero_add, cell_of_row w g i cur e (0, 0) h2]
      have hx : (ss.map encStr)[i]? = some (ss.map encStr)[i] := List.getElem?_eq_getElem hi
      rw [← hx]
      conv => rhs; rw [← h6]
      rw [List.getElem?_take, if_pos (by simp at hi ⊢; omega)]
      simp
    · exact hS g h1 (lt_of_some h2) ⟨cur, e, h2⟩
end Go.Scarf
