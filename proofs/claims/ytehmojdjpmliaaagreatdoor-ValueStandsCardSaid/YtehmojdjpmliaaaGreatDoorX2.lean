/- A part of the proof. -/
import Derived.Test.YtehmojdjpmliaaaGreatDoorC2
import Derived.Test.YtehmojdjpmliaaaGreatDoorC3
import Derived.Test.YtehmojdjpmliaaaGreatDoorP7
set_option linter.all false
namespace Go.Scarf
open Go.RowKit Go.Proofs
theorem run_boolL {P : Program} {ρ : Operand → Value} {o : Oper} {w w' : World} {b c : Bool} (h : (execOp ρ o).run P w = .ok (.value (.bool b)) w') (hb : b = c) : (execOp ρ o).run P w = .ok (.value (.bool c)) w' := by rw [h, hb]
end Go.Scarf
