/- A part of the proof. -/
import Derived.Test.YtpliibolgknenaaGreatDoorW20
import Derived.Test.YtpliibolgknenaaGreatDoorP1
set_option linter.all false
namespace Go.Scarf
open Go.RowKit Go.Proofs
theorem run_bool {P : Program} {ρ : Operand → Value} {o : Oper} {w w' : World} {b c : Bool} (h : (execOp ρ o).run P w = .ok (.value (.bool b)) w') (hb : b = c) : (execOp ρ o).run P w = .ok (.value (.bool c)) w' := by rw [h, hb]
end Go.Scarf
