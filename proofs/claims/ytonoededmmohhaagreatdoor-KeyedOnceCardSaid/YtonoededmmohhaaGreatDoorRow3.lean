/- A part of the proof. -/
import Derived.Test.YtonoededmmohhaaGreatDoorRow
import Derived.Test.YtonoededmmohhaaGreatDoorTr
import Derived.Carry
set_option linter.all false
namespace Go.Scarf
open Go.RowKit Go.Proofs
set_option maxRecDepth 100000
section
variable {H : Type} {enc : TypeId × Value → H} {W : World} {base : Nat} {sp : Nat → Bool} {held : Bool}
open Go.ChangeShapes Go.WideShapes Go.ChangeAt Go.Lib Go.Shelf
theorem open_sl {t e : TypeId} {m : Nat} {α : Type} [Inhabited α] {g : α → D} {r : Reach} {b0 : Nat} {v : Value} {d : DataW H} {q : List MemPlace} (ht : Tryz.prog.underlying t = some (.slice e)) (hC : Tryz.prog.cellsOf e = m)
    (hel : ∀ n cs x, DataW.trod enc Tryz.prog W base sp held n e cs = some x → ∃ a : α, Rep (fun _ => True) W (g a) cs) (hv : Value.okWide Tryz.prog W r b0 t v) (h : DataW.Trod enc Tryz.prog W base sp held t v d q) :
    ∃ (l : List α) (A : Option Addr) (c : Nat), v = .slice A l.length c ∧ Rep (fun _ => True) W (.slice (l.map g)) [.slice A l.length c] := by
  obtain ⟨A, n, c, rfl⟩ := okWide_slice ht hv
  obtain ⟨fuel, hf⟩ := h
  obtain ⟨l, hl⟩ := slice_of ht hC (fun n _ cs x h => hel n cs x h) hf
  have hl2 : Rep (fun _ => True) W (.slice (l.map g)) [.slice A n c] := hl
  obtain ⟨A2, c2, he⟩ := Rep.slice_is hl2
  rw [List.length_map] at he
  obtain ⟨rfl, rfl, rfl⟩ := Value.slice.inj he
  exact ⟨l, A, c, rfl, hl2⟩
theorem open_strs {r : Reach} {b0 : Nat} {v : Value} {d : DataW H} {q : List MemPlace} (hv : Value.okWide Tryz.prog W r b0 22 v) (h : DataW.Trod enc Tryz.prog W base sp held 22 v d q) :
    ∃ (l : List Str) (A : Option Addr) (c : Nat), v = .slice A l.length c ∧ Rep (fun _ => True) W (strsD l) [.slice A l.length c] :=
  open_sl (g := strD) Tryz.underlying22 cs9 (fun n cs x h => text_of h) hv h
theorem rec22 : Tryz.prog.readableRec 22 = true := by kernel_rfl
theorem row22 : 22 < Tryz.prog.types.size := of_decide_eq_true (by kernel_rfl)
end
end Go.Scarf
