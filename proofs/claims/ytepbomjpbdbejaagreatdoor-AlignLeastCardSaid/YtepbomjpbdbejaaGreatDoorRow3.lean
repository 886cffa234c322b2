/- A part of the proof. -/
import Derived.Test.YtepbomjpbdbejaaGreatDoorRow
import Derived.Test.YtepbomjpbdbejaaGreatDoorTr
import Derived.Carry
import Derived.Test.YtepbomjpbdbejaaGreatDoorAp
set_option linter.all false
set_option maxHeartbeats 8000000
set_option maxRecDepth 10000
namespace Go.Scarf
open Go.RowKit Go.Proofs Go.Proofs.Tryz
set_option maxRecDepth 100000
section
variable {H : Type} {enc : TypeId × Value → H} {W : World} {base : Nat} {sp : Nat → Bool} {held : Bool}
open Go.ChangeShapes Go.WideShapes Go.ChangeAt Go.Lib Go.Shelf
theorem XC {t e : TypeId} {m : Nat} {α : Type} [Inhabited α] {g : α → D} {r : Reach} {b0 : Nat} {v : Value} {d : DataW H} {q : List MemPlace} (ht : prog.underlying t = some (.slice e)) (hC : prog.cellsOf e = m)
    (hel : ∀ n cs x, DataW.trod enc prog W base sp held n e cs = some x → ∃ a : α, Rep (fun _ => True) W (g a) cs) (hv : Value.okWide prog W r b0 t v) (h : DataW.Trod enc prog W base sp held t v d q) :
    ∃ (l : List α) (A : Option Addr) (c : Nat), v = .slice A l.length c ∧ Rep (fun _ => True) W (.slice (l.map g)) [.slice A l.length c] := by
  obtain ⟨A, n, c, rfl⟩ := okWide_slice ht hv
  obtain ⟨fuel, hf⟩ := h
  obtain ⟨l, hl⟩ := Ny ht hC (fun n _ cs x h => hel n cs x h) hf
  have hl2 : Rep (fun _ => True) W (.slice (l.map g)) [.slice A n c] := hl
  obtain ⟨A2, c2, he⟩ := Rep.slice_is hl2
  rw [List.length_map] at he
  obtain ⟨rfl, rfl, rfl⟩ := Value.slice.inj he
  exact ⟨l, A, c, rfl, hl2⟩
theorem S3 {r : Reach} {b0 : Nat} {v : Value} {d : DataW H} {q : List MemPlace} (hv : Value.okWide prog W r b0 22 v) (h : DataW.Trod enc prog W base sp held 22 v d q) :
    ∃ (l : List Tree) (A : Option Addr) (c : Nat), v = .slice A l.length c ∧ Rep (fun _ => True) W (.slice (Dd l)) [.slice A l.length c] := by
  obtain ⟨l, A, c, h1, h2⟩ := XC (g := Sc) underlying22 NR (fun n cs x h => QN n cs x h) hv h
  exact ⟨l, A, c, h1, by rw [Vh]; exact h2⟩
theorem KP : prog.readableRec 22 = true := by kernel_rfl
theorem GP : 22 < prog.types.size := of_decide_eq_true Ib
end
set_option maxRecDepth 100000
section
variable {H : Type} {enc : TypeId × Value → H} {W : World} {base : Nat} {sp : Nat → Bool} {held : Bool}
open Go.ChangeShapes Go.WideShapes Go.ChangeAt Go.Lib Go.Shelf
end
section
variable {H : Type} {enc : TypeId × Value → H} {W : World} {base : Nat} {sp : Nat → Bool} {held : Bool}
open Go.ChangeShapes Go.WideShapes Go.ChangeAt Go.Lib Go.Shelf
theorem US : prog.cellsOf 49 = 2 := by kernel_rfl
theorem EN {fuel : Nat} {cs : List Value} {x : DataW H × List MemPlace} (h : DataW.trod enc prog W base sp held fuel 49 cs = some x) : ∃ q : Int × Int, Rep (fun _ => True) W (Hu q) cs := by
  obtain ⟨xs, n, rfl, -, hcl, hxl, hf⟩ := DataW.trod_struct underlying49 h
  have hcl' : cs.length = 2 := hcl.trans US
  have get : ∀ (i : Nat) (hi : i < 2), xs[i]? = some (xs[i]'(by rw [hxl]; exact hi)) := fun i hi => List.getElem?_eq_getElem _
  have h0 := (hf 0 _ rfl).trans (get 0 by_Om)
  have h1 := (hf 1 _ rfl).trans (get 1 by_Om)
  obtain ⟨a, ha⟩ := X5 h0
  obtain ⟨b, hb⟩ := X5 h1
  have ha2 : Rep (fun _ => True) W (Ze a) ((cs.drop 0).take (prog.cellsOf 3)) := ha
  have hb2 : Rep (fun _ => True) W (Ze b) ((cs.drop 1).take (prog.cellsOf 3)) := hb
  rw [show prog.cellsOf 3 = 1 by kernel_rfl] at ha2 hb2
  obtain ⟨u, v, rfl⟩ : ∃ u v, cs = [u, v] := by
    match cs, hcl' with
    | [u, v], _ => exact ⟨u, v, rfl⟩
  have ha' : Rep (fun _ => True) W (Ze a) [u] := ha2
  have hb' : Rep (fun _ => True) W (Ze b) [v] := hb2
  refine ⟨(a, b), ?_⟩
  rw [Hu, Rep, RepL]
  refine ⟨[u], [v], rfl, ha', ?_⟩
  rw [RepL]
  exact ⟨[v], [], rfl, hb', by rw [RepL]⟩
theorem FB {r : Reach} {b0 : Nat} {v : Value} {d : DataW H} {q : List MemPlace} (hv : Value.okWide prog W r b0 29 v) (h : DataW.Trod enc prog W base sp held 29 v d q) :
    ∃ (l : List (Int × Int)) (A : Option Addr) (c : Nat), v = .slice A l.length c ∧ Rep (fun _ => True) W (Kh l) [.slice A l.length c] :=
  XC (g := Hu) underlying29 US (fun n cs x h => EN h) hv h
theorem BU : prog.readableRec 29 = true := by kernel_rfl
theorem LT : 29 < prog.types.size := of_decide_eq_true Ib
end
end Go.Scarf
