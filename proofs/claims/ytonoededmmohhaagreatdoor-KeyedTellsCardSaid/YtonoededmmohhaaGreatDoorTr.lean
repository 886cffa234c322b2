/- A part of the proof. -/
import Derived.Test.YtonoededmmohhaaGreatDoorMem
set_option linter.all false
namespace Go.Scarf
open Go.RowKit
section
variable {S : Nat → Prop} {w : World}
theorem Rep.slice_is {ds : List D} {v : Value} (h : Rep S w (.slice ds) [v]) : ∃ A c, v = .slice A ds.length c := by
  rw [Rep] at h
  obtain ⟨A, c, he, -⟩ := h
  exact ⟨A, c, (List.cons.inj he).1⟩
theorem Rep.elem1 {ds : List D} {A : Option Addr} {len c : Nat} (h : Rep S w (.slice ds) [.slice A len c]) (hs : ∀ d ∈ ds, sizeOfD d = 1) {i : Nat} (hi : i < ds.length) :
    ∃ ad v, A = some ad ∧ w.cell? (ad.add (i * 1)) = some v ∧ Rep S w ds[i] [v] := by
  obtain ⟨ad, cs, hA, hl, hc, hr⟩ := Rep.elem (sz := 1) h hs hi
  match cs, hl with
  | [v], _ =>
    have := hc 0 (by simp)
    simp only [add_zero_, List.getElem_cons_zero] at this
    exact ⟨ad, v, hA, this, hr⟩
theorem Rep.row_elem {rows : List (List Str)} {A : Option Addr} {len c : Nat} (h : Rep S w (.slice (rows.map strsD)) [.slice A len c]) {i : Nat} (hi : i < rows.length) :
    ∃ ad B e, A = some ad ∧ w.cell? (ad.add (i * 1)) = some (.slice B rows[i].length e) ∧ Rep S w (strsD rows[i]) [.slice B rows[i].length e] := by
  obtain ⟨ad, v, hA, hc, hr⟩ := Rep.elem1 h (fun d hd => by obtain ⟨k, _, rfl⟩ := List.mem_map.1 hd; rfl) (i := i) (by simpa using hi)
  rw [List.getElem_map] at hr
  obtain ⟨B, e, he⟩ := Rep.slice_is hr
  rw [List.length_map] at he
  subst he
  exact ⟨ad, B, e, hA, hc, hr⟩
end
end Go.Scarf
