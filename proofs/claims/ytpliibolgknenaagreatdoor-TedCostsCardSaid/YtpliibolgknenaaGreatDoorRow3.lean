/- A part of the proof. -/
import Derived.Test.YtpliibolgknenaaGreatDoorRow
import Derived.Test.YtpliibolgknenaaGreatDoorTr
import Derived.Carry
set_option linter.all false
namespace Go.Scarf
open Go.RowKit Go.Proofs
set_option maxRecDepth 100000
section
variable {H : Type} {enc : TypeId × Value → H} {W : World} {base : Nat} {sp : Nat → Bool} {held : Bool}
open Go.ChangeShapes Go.WideShapes Go.ChangeAt Go.Lib Go.Shelf
end
set_option maxRecDepth 100000
section
variable {H : Type} {enc : TypeId × Value → H} {W : World} {base : Nat} {sp : Nat → Bool} {held : Bool}
open Go.ChangeShapes Go.WideShapes Go.ChangeAt Go.Lib Go.Shelf
theorem cs28 : Tryz.prog.cellsOf 28 = 1 := by kernel_rfl
theorem cs30 : Tryz.prog.cellsOf 30 = 2 := by kernel_rfl
theorem open_nodes {r : Reach} {b0 : Nat} {v : Value} {d : DataW H} {q : List MemPlace} (hv : Value.okWide Tryz.prog W r b0 30 v) (h : DataW.Trod enc Tryz.prog W base sp held 30 v d q) :
    ∃ (ls : List Str) (fs : List Int) (Al : Option Addr) (cl : Nat) (Af : Option Addr) (cf : Nat), v = .agg #[.slice Al ls.length cl, .slice Af fs.length cf] ∧ Rep (fun _ => True) W (strsD ls) [.slice Al ls.length cl] ∧ Rep (fun _ => True) W (.slice (fs.map intD)) [.slice Af fs.length cf] := by
  obtain ⟨cs, rfl, -⟩ := okWide_struct Tryz.underlying30 hv
  obtain ⟨fuel, hf⟩ := h
  obtain ⟨xs, n, rfl, -, hcl, hxl, hf⟩ := DataW.trod_struct Tryz.underlying30 hf
  have hcl' : cs.toList.length = 2 := hcl.trans cs30
  have get : ∀ (i : Nat) (hi : i < 2), xs[i]? = some (xs[i]'(by rw [hxl]; exact hi)) := fun i hi => List.getElem?_eq_getElem _
  have h0 := (hf 0 _ rfl).trans (get 0 (by omega))
  have h1 := (hf 1 _ rfl).trans (get 1 (by omega))
  obtain ⟨ls, hls⟩ := slice_of (g := strD) Tryz.underlying22 cs9 (fun n _ cs x h => text_of h) h0
  obtain ⟨fs, hfs⟩ := slice_of (g := intD) Tryz.underlying28 cs3 (fun n _ cs x h => num_of_ h) h1
  have hls2 : Rep (fun _ => True) W (.slice (ls.map strD)) ((cs.toList.drop 0).take (Tryz.prog.cellsOf 22)) := hls
  have hfs2 : Rep (fun _ => True) W (.slice (fs.map intD)) ((cs.toList.drop 1).take (Tryz.prog.cellsOf 28)) := hfs
  rw [show Tryz.prog.cellsOf 22 = 1 by kernel_rfl] at hls2
  rw [cs28] at hfs2
  obtain ⟨l⟩ := cs
  match l, hcl' with
  | [a, b], _ =>
    have hls' : Rep (fun _ => True) W (.slice (ls.map strD)) [a] := hls2
    have hfs' : Rep (fun _ => True) W (.slice (fs.map intD)) [b] := hfs2
    obtain ⟨A1, c1, e1⟩ := Rep.slice_is hls'
    obtain ⟨A2, c2, e2⟩ := Rep.slice_is hfs'
    rw [List.length_map] at e1 e2
    subst e1 e2
    exact ⟨ls, fs, A1, c1, A2, c2, rfl, hls', hfs'⟩
theorem rec30 : Tryz.prog.readableRec 30 = true := by kernel_rfl
theorem row30 : 30 < Tryz.prog.types.size := of_decide_eq_true (by kernel_rfl)
end
end Go.Scarf
