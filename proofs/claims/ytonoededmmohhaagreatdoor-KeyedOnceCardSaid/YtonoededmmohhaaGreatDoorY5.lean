/- A part of the proof. -/
import Derived.Test.YtonoededmmohhaaGreatDoorY1
import Derived.Test.YtonoededmmohhaaGreatDoorY4
import Derived.Test.YtonoededmmohhaaGreatDoorW4
set_option linter.all false
namespace Go.Scarf
open Go.RowKit Go.Proofs
end Go.Scarf
namespace Go.Scarf
open Go.RowKit Go.Proofs
def EachK (w0 : World) (bb : Nat) (xs : List Tree) (q : Tree → Bool) : Prop := ∀ x, x ∈ xs → ∀ S w cs, Same [] w0 w → Rep S w (treeD x) cs → Calls Tryz.prog 36 #[.agg cs.toArray, .pointer (some ⟨bb, 0, none⟩)] w (Ret fun v w' => v = .bool (q x) ∧ Same [] w w')
theorem EachK.ext {w0 w : World} {bb : Nat} {xs : List Tree} {q : Tree → Bool} (h : EachK w0 bb xs q) (hs : Same [] w0 w) : EachK w bb xs q := fun x hx S w' cs hw => h x hx S w' cs (hs.trans hw)
end Go.Scarf
namespace Go.Scarf
open Go.RowKit Go.Proofs
end Go.Scarf
