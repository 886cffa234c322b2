/- A part of the proof. -/
import Derived.Test.YtonoededmmohhaaGreatDoorP3
import Derived.Lib.BufferRead
set_option linter.all false
namespace Go.Scarf
open Go.RowKit Go.Proofs
def nq (q : Bool) (c : UInt8) : Bool := if c = 34 then !q else q
def keepB (q : Bool) (c : UInt8) (l : Str) : Str := if nq q c = true ∨ (c ≠ 32 ∧ c ≠ 10) then c :: l else l
def bareL : Bool → Str → Str
  | _, [] => []
  | q, [c] => keepB q c []
  | q, c :: d :: r => if q = true ∧ c = 92 then c :: d :: bareL q r else keepB q c (bareL (nq q c) (d :: r))
end Go.Scarf
