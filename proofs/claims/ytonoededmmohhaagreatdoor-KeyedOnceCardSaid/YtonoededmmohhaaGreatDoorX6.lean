/- A part of the proof. -/
import Derived.Test.YtonoededmmohhaaGreatDoorY8
set_option linter.all false
namespace Go.Scarf
open Go.RowKit Go.Proofs
theorem rows3 {S : Nat → Prop} {w : World} {l0 l1 l2 : List Str} {u0 u1 u2 : Value} (h0 : Rep S w (strsD l0) [u0]) (h1 : Rep S w (strsD l1) [u1]) (h2 : Rep S w (strsD l2) [u2]) : RepL S w ([l0, l1, l2].map strsD) [u0, u1, u2] := RepL.cons_mk h0 (RepL.cons_mk h1 (RepL.cons_mk h2 RepL.nil_mk))
end Go.Scarf
