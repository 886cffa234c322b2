/- A part of the proof. -/
import Derived.Test.YtpliibolgknenaaGreatDoorRow
import Derived.Test.YtpliibolgknenaaGreatDoorTr
import Derived.Carry
set_option linter.all false
namespace Go.Scarf
open Go.RowKit Go.Proofs
set_option maxRecDepth 100000
section
variable {H : Type} {enc : TypeId × Value → H} {W : World} {base : Nat} {sp : Nat → Bool} {held : Bool}
open Go.ChangeShapes Go.WideShapes Go.ChangeAt Go.Lib Go.Shelf
end
set_option maxRecDepth 100000
section
variable {H : Type} {enc : TypeId × Value → H} {W : World} {base : Nat} {sp : Nat → Bool} {held : Bool}
open Go.ChangeShapes Go.WideShapes Go.ChangeAt Go.Lib Go.Shelf
theorem cs28 : Tryz.prog.cellsOf 28 = 1 := by kernel_rfl
theorem cs30 : Tryz.prog.cellsOf 30 = 2 := by kernel_rfl
theorem open_nodes {r : Reach} {b0 : Nat} {v : Value} {d : DataW H} {q : List MemPlace} (hv : Value.okWide Tryz.prog W r b0 30 v) (h : DataW.Trod enc Tryz.prog W base sp held 30 v d q) :
    ∃ (ls : List Str) (fs : List Int) (Al : Option Addr) (cl : Nat) (Af : Option Addr) (cf : Nat), v = .agg #[.slice Al ls.length cl, .slice Af fs.length cf] ∧ Rep (fun _ => True) W (strsD ls) [.slice Al ls.length cl] ∧ Rep (fun _ => True) W (.slice (fs.map intD)) [.slice Af fs.length cf] := by
  obtain ⟨cs, rfl, -⟩ := okWide_struct Tryz.underlying30 hv
  obtain ⟨fuel, hf⟩ := h
  obtain ⟨xs, n, rfl, -, hcl, hxl, hf⟩ := DataW.trod_struct Tryz.underlying30 hf
  have hcl' : cs.toList.length = 2 := hcl.trans cs30
  have get : ∀ (i : Nat) (hi : i < 2), xs[i]? = some (xs[i]'(by rw [hxl]; exact hi)) := fun i hi => List.getElem?_eq_getElem _
  have h0 := (hf 0 _ rfl).trans (get 0 (by omega))
  have h1 := (hf 1 _ rfl).trans (get 1 (by omega))
  obtain ⟨ls, hls⟩ := slice_of (g := strD) Tryz.underlying22 cs9 (fun n _ cs x h => text_of h) h0
  obtain ⟨fs, hfs⟩ := slice_of (g := intD) Tryz.underlying28 cs3 (fun n _ cs x h => num_of_ h) h1
  have hls2 : Rep (fun _ => True) W (.slice (ls.map strD)) ((cs.toList.drop 0).take (Tryz.prog.cellsOf 22)) := hls
  have hfs2 : Rep (fun _ => True) W (.slice (fs.map intD)) ((cs.toList.drop 1).take (Tryz.prog.cellsOf 28)) := hfs
  rw [show Tryz.prog.cellsOf 22 = 1 by kernel_rfl] at hls2
  rw [cs28] at hfs2
  obtain ⟨l⟩ := cs
  match l, hcl' with
  | [a, b], _ =>
    have hls' : Rep (fun _ => True) W (.slice (ls.map strD)) [a] := hls2
    have hfs' : Rep (fun _ => True) W (.slice (fs.map intD)) [b] := hfs2
    obtain ⟨A1, c1, e1⟩ := Rep.slice_is hls'
    obtain ⟨A2, c2, e2⟩ := Rep.slice_is hfs'
    rw [List.length_map] at e1 e2
    subst e1 e2
    exact ⟨ls, fs, A1, c1, A2, c2, rfl, hls', hfs'⟩
theorem rec30 : Tryz.prog.readableRec 30 = true := by kernel_rfl
theorem row30 : 30 < Tryz.prog.types.size := of_decide_eq_true (by kernel_rfl)
theorem trodAll_five {P : Program} {w : World} {spare : Nat → Bool} {t t1 t2 t3 t4 : TypeId} {args : Array Value} {ds : List (DataW H)} {ps : List MemPlace} (h : DataW.TrodAll enc P w base spare held [t, t1, t2, t3, t4] args.toList ds ps) :
    ∃ v v1 v2 v3 v4 d d1 d2 d3 d4 p p1 p2 p3 p4, args = #[v, v1, v2, v3, v4] ∧ ds = [d, d1, d2, d3, d4] ∧ ps = p ++ (p1 ++ (p2 ++ (p3 ++ p4))) ∧ DataW.Trod enc P w base spare held t v d p ∧ DataW.Trod enc P w base spare held t1 v1 d1 p1 ∧ DataW.Trod enc P w base spare held t2 v2 d2 p2 ∧ DataW.Trod enc P w base spare held t3 v3 d3 p3 ∧ DataW.Trod enc P w base spare held t4 v4 d4 p4 := by
  obtain ⟨v, vs, d, ds', p, q, hargs, rfl, rfl, hd, hrest⟩ := trodAll_cons h
  obtain ⟨v1, vs1, d1, ds1, p1, q1, rfl, rfl, rfl, hd1, hrest1⟩ := trodAll_cons hrest
  obtain ⟨v2, vs2, d2, ds2, p2, q2, rfl, rfl, rfl, hd2, hrest2⟩ := trodAll_cons hrest1
  obtain ⟨v3, vs3, d3, ds3, p3, q3, rfl, rfl, rfl, hd3, hrest3⟩ := trodAll_cons hrest2
  obtain ⟨v4, vs4, d4, ds4, p4, q4, rfl, rfl, rfl, hd4, hrest4⟩ := trodAll_cons hrest3
  obtain ⟨rfl, rfl, rfl⟩ := trodAll_nil hrest4
  exact ⟨v, v1, v2, v3, v4, d, d1, d2, d3, d4, p, p1, p2, p3, p4, by cases args; simp_all, rfl, by simp, hd, hd1, hd2, hd3, hd4⟩
theorem trodAll_mk5 {P : Program} {w : World} {spare : Nat → Bool} {t t1 t2 t3 t4 : TypeId} {v v1 v2 v3 v4 : Value} {d d1 d2 d3 d4 : DataW H} {p p1 p2 p3 p4 : List MemPlace} (h : DataW.Trod enc P w base spare held t v d p) (h1 : DataW.Trod enc P w base spare held t1 v1 d1 p1) (h2 : DataW.Trod enc P w base spare held t2 v2 d2 p2) (h3 : DataW.Trod enc P w base spare held t3 v3 d3 p3) (h4 : DataW.Trod enc P w base spare held t4 v4 d4 p4) :
    DataW.TrodAll enc P w base spare held [t, t1, t2, t3, t4] [v, v1, v2, v3, v4] [d, d1, d2, d3, d4] (p ++ (p1 ++ (p2 ++ (p3 ++ p4)))) := by
  exact ⟨p, p1 ++ (p2 ++ (p3 ++ p4)), h, trodAll_mk4 h1 h2 h3 h4, rfl⟩
end
end Go.Scarf
