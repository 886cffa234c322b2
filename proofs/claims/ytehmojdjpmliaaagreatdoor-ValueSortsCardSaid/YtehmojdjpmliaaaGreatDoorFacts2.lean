/- A part of the proof. -/
import Derived.Test.YtehmojdjpmliaaaGreatDoorFacts
import Derived.Test.YtehmojdjpmliaaaGreatDoorNew
import Derived.KernelRfl
set_option linter.all false
namespace Go.Scarf
open Go.RowKit Go.Proofs
theorem el_22 : Elems Tryz.prog 22 9 1 16 := .of (.string (bs ([]))) Tryz.underlying22 (by kernel_rfl) rfl
theorem el_23 : Elems Tryz.prog 23 25 4 72 := .of (.agg #[.int .i64 (0), .string (bs ([])), .slice (none) (0) (0), .slice (none) (0) (0)]) Tryz.underlying23 (by kernel_rfl) rfl
theorem el_50 : Elems Tryz.prog 50 5 1 1 := .of (.int .u8 (0)) Tryz.underlying50 (by kernel_rfl) rfl
theorem el_116 : Elems Tryz.prog 116 3 1 8 := .of (.int .i64 (0)) Tryz.underlying116 (by kernel_rfl) rfl
end Go.Scarf
