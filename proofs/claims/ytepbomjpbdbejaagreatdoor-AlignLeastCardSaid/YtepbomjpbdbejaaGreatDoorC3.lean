/- A part of the proof. -/
import Derived.Test.YtepbomjpbdbejaaGreatDoorP3
import Derived.Lib.BufferRead
set_option linter.all false
set_option maxHeartbeats 8000000
set_option maxRecDepth 10000
namespace Go.Scarf
open Go.RowKit Go.Proofs
def nq (q : Bool) (c : UInt8) : Bool := if c = 34 then !q else q
def Y8 (q : Bool) (c : UInt8) (l : Str) : Str := if nq q c = true ∨ (c ≠ 32 ∧ c ≠ 10) then c :: l else l
def Dn : Bool → Str → Str
  | _, [] => []
  | q, [c] => Y8 q c []
  | q, c :: d :: r => if q = true ∧ c = 92 then c :: d :: Dn q r else Y8 q c (Dn (nq q c) (d :: r))
end Go.Scarf
