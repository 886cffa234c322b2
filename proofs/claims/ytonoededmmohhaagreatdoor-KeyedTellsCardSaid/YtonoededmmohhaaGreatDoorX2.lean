/- A part of the proof. -/
import Derived.Test.YtonoededmmohhaaGreatDoorC2
import Derived.Test.YtonoededmmohhaaGreatDoorC3
import Derived.Test.YtonoededmmohhaaGreatDoorP7
set_option linter.all false
namespace Go.Scarf
open Go.RowKit Go.Proofs
theorem run_boolL {P : Program} {ρ : Operand → Value} {o : Oper} {w w' : World} {b c : Bool} (h : (execOp ρ o).run P w = .ok (.value (.bool b)) w') (hb : b = c) : (execOp ρ o).run P w = .ok (.value (.bool c)) w' := by rw [h, hb]
end Go.Scarf
