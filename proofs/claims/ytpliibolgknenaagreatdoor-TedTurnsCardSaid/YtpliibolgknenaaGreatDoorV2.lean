/- A part of the proof. -/
import Derived.Test.YtpliibolgknenaaGreatDoorV1
set_option linter.all false
namespace Go.Scarf
open Go.RowKit Go.Proofs
abbrev inRow (x : Tree) : Tree := .node 5 [] [] [x]
theorem inRow_size (x : Tree) : sizeT (inRow x) = sizeT x + 1 := by simp only [inRow, sizeT, sizeTs]; omega
theorem Rep.all {S : Nat → Prop} {w : World} {d : D} {cs : List Value} (h : Rep S w d cs) : Rep (fun _ => True) w d cs := h.weaken fun _ _ _ => trivial
theorem FR.rowAll {w0 w : World} {bs : List (Nat × Obj)} {ds : List D} (hF : FR w0 [] bs w) (i : Nat) {b n : Nat} {l : List Value} {T : TypeId} (hi : bs[i]? = some (b, .cells l.toArray T)) (hr : RepL (fun _ => True) w ds l) (hn : ds.length = n) (hm : n ≤ 9223372036854775807) :
    Rep (fun _ => True) w (.slice ds) [.slice (some ⟨b, 0, none⟩) n n] :=
  Rep.slice_mk hn.symm (Nat.le_refl _) hm fun _ => ⟨_, rfl, l, fun j hj => ⟨hF.cellsAll i hi j hj, trivial⟩, hr⟩
theorem RepL.single {S : Nat → Prop} {w : World} {d : D} {cs : List Value} (h : Rep S w d cs) : RepL S w [d] cs := by
  have := RepL.cons_mk h RepL.nil_mk
  rw [List.append_nil] at this
  exact this
end Go.Scarf
