/- A part of the proof. -/
import Derived.Test.YtonoededmmohhaaGreatDoorSp
import Derived.Test.YtonoededmmohhaaGreatDoorE9
import Derived.Test.YtonoededmmohhaaGreatDoorV1
import Derived.Test.YtonoededmmohhaaGreatDoorX2
set_option linter.all false
namespace Go.Scarf
open Go.RowKit Go.Proofs
theorem getX_c (x : Tree) (key : Str) (hsz : sizeT x ≤ 1000000000) (S : Nat → Prop) (w0 : World) (cs : List Value) (hR : Rep S w0 (treeD x) cs) (hk : okT x) (hG : Gl w0) : Calls Tryz.prog 44 #[.agg cs.toArray, .string (bs key)] w0 (Ret fun v w' => ∃ ct : List Value, v = .tuple #[.agg ct.toArray, .bool (getV x key).2] ∧ Rep (Btw w0 w') w' (treeD (getV x key).1) ct ∧ Same [] w0 w') := by
  obtain ⟨k, t, ks, xs⟩ := x
  exact getV_c k t ks xs key hsz S w0 cs hR hk hG
theorem rgetX_c (x : Tree) (key : Str) (hsz : sizeT x ≤ 1000000000) (hm : maxL x ≤ 1073741824) (S : Nat → Prop) (w0 : World) (cs : List Value) (hR : Rep S w0 (treeD x) cs) : Calls Tryz.prog 31 #[.agg cs.toArray, .string (bs key)] w0 (Ret fun v w' => ∃ ct : List Value, v = .tuple #[.agg ct.toArray, .bool (getV x key).2] ∧ Rep (Btw w0 w') w' (treeD (getV x key).1) ct ∧ Same [] w0 w') := by
  obtain ⟨k, t, ks, xs⟩ := x
  exact rgetV_c k t ks xs key hsz hm S w0 cs hR
end Go.Scarf
