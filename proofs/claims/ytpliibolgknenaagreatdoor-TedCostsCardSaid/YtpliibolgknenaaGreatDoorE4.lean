/- A part of the proof. -/
import Derived.Test.YtpliibolgknenaaGreatDoorE1
import Derived.Test.YtpliibolgknenaaGreatDoorP1
import Derived.Lib.ParseIntBCases
set_option linter.all false
namespace Go.Scarf
open Go.RowKit Go.Proofs
end Go.Scarf
namespace Go.Scarf
open Go.RowKit Go.Proofs
theorem all_cons {c : UInt8} {s : Str} (h : (c :: s).all isDig = true) : isDig c = true ∧ s.all isDig = true := by simpa using h
end Go.Scarf
namespace Go.Scarf
open Go.RowKit Go.Proofs
end Go.Scarf
