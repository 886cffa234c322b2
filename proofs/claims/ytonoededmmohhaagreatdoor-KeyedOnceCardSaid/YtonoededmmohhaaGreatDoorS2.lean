/- A part of the proof. -/
import Derived.Test.YtonoededmmohhaaGreatDoorP8
import Derived.Lib.AppendStr
set_option linter.all false
namespace Go.Scarf
open Go.RowKit
section
variable {P : Program} {w0 w : World} {Ds : List Nat} {pre post sb : List (Nat × Obj)}
end
section
variable {P : Program} {R : Exit → Act → World → Prop} {n : Nat} {kt : Kt} {s : Nat → Value} {w : World} {ops rest : List Oper}
variable {d : Nat} {ty : TypeId} {pos : String} {aft : Array Edge} {g : Option (Nat × Bool)}
variable {w0 : World} {Ds : List Nat} {sb : List (Nat × Obj)}
end
end Go.Scarf
