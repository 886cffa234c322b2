/- A part of the proof. -/
import Derived.Test.YtehigfneiofjnaaGreatDoorW19
import Derived.Test.YtehigfneiofjnaaGreatDoorP1
set_option linter.all false
set_option maxHeartbeats 8000000
set_option maxRecDepth 10000
namespace Go.Scarf
open Go.RowKit Go.Proofs
end Go.Scarf
namespace Go.Scarf
open Go.RowKit Go.Proofs
theorem Rep.all {S : Nat → Prop} {w : World} {d : D} {cs : List Value} (h : Rep S w d cs) : Rep (fun _ => True) w d cs := h.weaken fun _ _ _ => trivial
end Go.Scarf
