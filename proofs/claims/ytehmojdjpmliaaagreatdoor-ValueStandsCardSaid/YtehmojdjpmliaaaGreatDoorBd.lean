/- A part of the proof. -/
import Derived.Test.YtehmojdjpmliaaaGreatDoorFacts
import Derived.Test.YtehmojdjpmliaaaGreatDoorNum
import Derived.Lib.AppendStr
import Derived.Lib.Builder
import Derived.Lib.UnsafeStr
import Derived.LaidEqlPtr
import Derived.Test.YtehmojdjpmliaaaGreatDoorShelf
import Derived.Lib.RuneBytes
import Derived.Test.YtehmojdjpmliaaaGreatDoorW20
import Derived.Laws.BytesString
import Derived.Test.YtehmojdjpmliaaaGreatDoorW2
import Derived.Lib.TrimU
set_option linter.all false
namespace Go.Scarf
open Go.RowKit Go.Proofs
section
variable {P : Program} {w w' w0 : World} {Ds E : List Nat} {bs_ : List (Nat × Obj)}
def rowO : Obj → Bool
  | .cells _ e _ => e == 5
  | _ => false
def rowAt (w : World) (b : Nat) : Bool := match w.heap[b]? with | some o => rowO o | none => false
def Wk (w : World) (B pb : Nat) : List Nat := pb :: (List.range w.heap.size).filter fun b => decide (B ≤ b) && rowAt w b
theorem mem_Wk {B pb x : Nat} : x ∈ Wk w B pb ↔ x = pb ∨ (x < w.heap.size ∧ B ≤ x ∧ rowAt w x = true) := by simp [Wk]
theorem rowAt_of {b : Nat} {o : Obj} (h : w.heap[b]? = some o) : rowAt w b = rowO o := by simp [rowAt, h]
def Shp (T : Nat) (rest : List Value) : Prop := (T = 52 ∧ rest = []) ∨ (T = 54 ∧ ∃ m i, rest = [.bool m, .int .i64 i])
structure Bd (w : World) (B pb T : Nat) (rest : List Value) (s : Str) : Prop where
  shp : Shp T rest
  le : B ≤ pb
  ex : ∃ ap v, w.heap[pb]? = some (.cells (ap :: v :: rest).toArray T) ∧ w.ownsRow B 5 1 v s.length (Lib.byteCells s) ∧ (ap = .pointer none ∨ ap = .pointer (some ⟨pb, 0, none⟩))
theorem Bd.lt {B pb T : Nat} {rest : List Value} {s : Str} (h : Bd w B pb T rest s) : pb < w.heap.size := by
  obtain ⟨ap, v, hh, -⟩ := h.ex; exact lt_of_some hh
theorem Bd.base {B pb T : Nat} {rest : List Value} {s : Str} (h : Bd w B pb T rest s) : B ≤ w.heap.size := Nat.le_trans h.le (Nat.le_of_lt h.lt)
theorem own_row {B n g : Nat} {v : Value} {xs : List Value} (h : w.ownsRow B 5 1 v n xs) (hg : v.ownBlock = some g) : g < w.heap.size ∧ B ≤ g ∧ rowAt w g = true := by
  rcases h.2 with ⟨rfl, -⟩ | ⟨g', cap, cur, rfl, h1, h2, -⟩
  · cases hg
  · cases hg
    exact ⟨lt_of_some h2, h1, by rw [rowAt_of h2]; rfl⟩
theorem own_same {B n : Nat} {v : Value} {xs : List Value} (h : w.ownsRow B 5 1 v n xs) (hs : Same E w w') (he : ∀ g, v.ownBlock = some g → g ∉ E) : w'.ownsRow B 5 1 v n xs := by
  refine ⟨h.1, ?_⟩
  rcases h.2 with h2 | ⟨g, cap, cur, rfl, h1, h2, h3⟩
  · exact .inl h2
  · exact .inr ⟨g, cap, cur, rfl, h1, (hs.block g (lt_of_some h2) (he g rfl)).trans h2, h3⟩
theorem Wk.step {B pb x : Nat} (hs : Same (Wk w B pb) w w') (hx : x ∈ Wk w' B pb) : x ∈ Wk w B pb ∨ w.heap.size ≤ x := by
  by_cases h : x < w.heap.size
  · by_cases hm : x ∈ Wk w B pb
    · exact .inl hm
    · rcases mem_Wk.1 hx with rfl | ⟨h1, h2, h3⟩
      · exact .inl (mem_Wk.2 (.inl rfl))
      · refine absurd (mem_Wk.2 (.inr ⟨h, h2, ?_⟩)) hm
        rw [rowAt, ← hs.block x h hm]; exact h3
  · exact .inr (by omega)
theorem FR.grown {g : Option Nat} (h : FR w0 Ds bs_ w) (hg : w.grownBy w' g) (hr : ∀ b, g = some b → (b < w0.heap.size → b ∈ Ds) ∧ ∀ p ∈ bs_, p.1 ≠ b) : FR w0 Ds bs_ w' := by
  have hs : Same g.toList w w' := ⟨hg.os, hg.tape, hg.output, hg.size, fun b hb hn => hg.block b hb (fun e => hn (by simp [← e]))⟩
  exact h.touch hs (fun b hb => hr b (by simpa using hb))
end
section
variable {P : Program} {w : World} {ρ : Operand → Value} {dst : Option Nat} {ty : TypeId} {pos : String} {aft : Array Edge} {g : Option (Nat × Bool)}
end
section
variable {P : Program} {R : Exit → Act → World → Prop} {n : Nat} {kt : Kt} {s : Nat → Value} {w : World} {ops rest : List Oper}
variable {d : Nat} {ty : TypeId} {pos : String} {aft : Array Edge} {g : Option (Nat × Bool)}
variable {w0 : World} {Ds : List Nat} {bs_ : List (Nat × Obj)}
end
end Go.Scarf
namespace Go.Scarf
open Go.RowKit Go.Proofs
end Go.Scarf
namespace Go.Scarf
open Go.RowKit Go.Proofs
end Go.Scarf
namespace Go.Scarf
open Go.RowKit Go.Proofs
structure BW (w0 : World) (Ds : List Nat) (w : World) (B pb T : Nat) (rest : List Value) (s : Str) : Prop where
  bd : Bd w B pb T rest s
  sub : ∀ x ∈ Wk w B pb, x < w0.heap.size → x ∈ Ds
  ge : w0.heap.size ≤ w.heap.size
section
variable {w0 w w' : World} {Ds E : List Nat} {bs_ : List (Nat × Obj)} {B pb T : Nat} {rest : List Value} {s t : Str}
theorem BW.start (h : Bd w0 B pb T rest s) : BW w0 (Wk w0 B pb) w0 B pb T rest s := ⟨h, fun x hx _ => hx, Nat.le_refl _⟩
theorem BW.own (h : Bd w B pb T rest s) (hb : w0.heap.size ≤ B) (hg : w0.heap.size ≤ w.heap.size) : BW w0 Ds w B pb T rest s :=
  ⟨h, fun x hx hl => by
    have := h.le
    rcases mem_Wk.1 hx with rfl | ⟨-, h2, -⟩ <;> omega, hg⟩
theorem BW.lt (h : BW w0 Ds w B pb T rest s) : pb < w.heap.size := h.bd.lt
theorem Bd.same (h : Bd w B pb T rest s) (hs : Same E w w') (hp : pb ∉ E) (he : ∀ x ∈ E, rowAt w x = false) : Bd w' B pb T rest s := by
  obtain ⟨h1, h2, ap, v, h3, h4, h5⟩ := h
  refine ⟨h1, h2, ap, v, (hs.block pb (lt_of_some h3) hp).trans h3, own_same h4 hs (fun g hg hm => ?_), h5⟩
  have := (own_row h4 hg).2.2
  rw [he g hm] at this; cases this
theorem Bd.ext (h : Bd w B pb T rest s) (hs : Same [] w w') : Bd w' B pb T rest s := h.same hs (by simp) (by simp)
theorem BW.step (h : BW w0 Ds w B pb T rest s) (hs : Same E w w') (hp : pb ∉ E) (he : ∀ x ∈ E, rowAt w x = false) (he' : ∀ x ∈ E, rowAt w' x = false) : BW w0 Ds w' B pb T rest s :=
  ⟨h.bd.same hs hp he, fun x hx hl => by
    refine h.sub x (mem_Wk.2 ?_) hl
    have hl2 := Nat.lt_of_lt_of_le hl h.ge
    rcases mem_Wk.1 hx with rfl | ⟨-, h2, h3⟩
    · exact .inl rfl
    · refine .inr ⟨hl2, h2, ?_⟩
      have hn : x ∉ E := fun hm => by rw [he' x hm] at h3; cases h3
      rw [rowAt, ← hs.block x hl2 hn]; exact h3, Nat.le_trans h.ge hs.size⟩
theorem BW.ext (h : BW w0 Ds w B pb T rest s) (hs : Same [] w w') : BW w0 Ds w' B pb T rest s := h.step hs (by simp) (by simp) (by simp)
theorem Rep.off {d : D} {cs : List Value} (h : Rep (fun x => x ∉ Wk w B pb) w d cs) (hs : Same (Wk w B pb) w w') : Rep (fun x => x ∉ Wk w' B pb) w' d cs :=
  ((h.old).same hs (fun b hb hn => hn.1 hb)).weaken fun x hx _ hm => by
    rcases Wk.step hs hm with h1 | h1
    · exact hx.1 h1
    · have := hx.2; omega
end
end Go.Scarf
namespace Go.Scarf
open Go.RowKit Go.Proofs
section
variable {P : Program} {w : World} {ρ : Operand → Value} {dst : Option Nat} {ty : TypeId} {pos : String} {aft : Array Edge} {g : Option (Nat × Bool)}
end
end Go.Scarf
namespace Go.Scarf
open Go.RowKit Go.Proofs
end Go.Scarf
namespace Go.Scarf
open Go.RowKit Go.Proofs
theorem Bd.mul {w : World} {B pb T : Nat} {m : Bool} {ind : Int} {s : Str} (h : Bd w B pb T [.bool m, .int .i64 ind] s) : w.cell? ⟨pb, 2, none⟩ = some (.bool m) := by
  obtain ⟨ap, v, hh, -⟩ := h.ex
  rw [cell_of_heap hh]; rfl
theorem Bd.ind {w : World} {B pb T : Nat} {m : Bool} {ind : Int} {s : Str} (h : Bd w B pb T [.bool m, .int .i64 ind] s) : w.cell? ⟨pb, 3, none⟩ = some (.int .i64 ind) := by
  obtain ⟨ap, v, hh, -⟩ := h.ex
  rw [cell_of_heap hh]; rfl
end Go.Scarf
namespace Go.Scarf
open Go.RowKit Go.Proofs
end Go.Scarf
namespace Go.Scarf
open Go.RowKit Go.Proofs
end Go.Scarf
namespace Go.Scarf
open Go.RowKit Go.Proofs
end Go.Scarf
