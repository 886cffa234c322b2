/- A part of the proof. -/
import Derived.Test.YtpliibolgknenaaGreatDoorW19
set_option linter.all false
namespace Go.Scarf
open Go.RowKit Go.Proofs
section
variable {P : Program} {w0 w w' : World} {ids : List Nat} {ds : List D}
theorem run_true {P : Program} {ρ : Operand → Value} {o : Oper} {w w' : World} {p : Prop} {_ : Decidable p} (h : (execOp ρ o).run P w = .ok (.value (.bool (decide p))) w') (hp : p) : (execOp ρ o).run P w = .ok (.value (.bool true)) w' := by rw [h, decide_eq_true hp]
theorem run_false {P : Program} {ρ : Operand → Value} {o : Oper} {w w' : World} {p : Prop} {_ : Decidable p} (h : (execOp ρ o).run P w = .ok (.value (.bool (decide p))) w') (hp : ¬ p) : (execOp ρ o).run P w = .ok (.value (.bool false)) w' := by rw [h, decide_eq_false hp]
theorem FR.rowX {bs : List (Nat × Obj)} (hF : FR w0 [] bs w) (i : Nat) {b n : Nat} {l : List Value} {T : TypeId} (hi : bs[i]? = some (b, .cells l.toArray T)) (hr : RX w0 ids w ds l) (hb : b ∉ ids) (hn : ds.length = n) (hm : n ≤ 9223372036854775807) :
    RX w0 ids w [.slice ds] [.slice (some ⟨b, 0, none⟩) n n] := by
  refine .one (Rep.slice_mk hn.symm (Nat.le_refl _) hm fun _ => ⟨_, rfl, l, fun j hj => ⟨?_, ?_⟩, hr⟩)
  · exact hF.cellsAll i hi j hj
  · exact ⟨hF.ge hi, hF.lt hi, hb, l.toArray, T, hF.heap hi⟩
theorem RX.tree {k : Int} {t : Str} {ks : List Str} {xs : List Tree} {v u : Value} (hk : -9223372036854775808 ≤ k ∧ k ≤ 9223372036854775807) (ht : t.length ≤ 9223372036854775807)
    (h3 : RX w0 ids w [strsD ks] [v]) (h4 : RX w0 ids w [.slice (treesD xs)] [u]) : RX w0 ids w [treeD (.node k t ks xs)] [.int .i64 k, .string (bs t), v, u] := .one (Rep.tree_mk hk ht h3.rep h4.rep)
theorem RX.nils {ids : List Nat} : RX w0 ids w [.slice []] [.slice none 0 0] := .one (Rep.nil_slice 0 (by omega) none)
theorem RX.strs : ∀ {ks : List Str}, (∀ k ∈ ks, k.length ≤ 9223372036854775807) → RX w0 ids w (ks.map strD) (ks.map fun k => .string (bs k))
  | [], _ => RX.nil
  | k :: ks, h => RepL.cons_mk (Rep.lit_mk (v := .string (bs k)) (h k (by simp))) (RX.strs (fun x hx => h x (by simp [hx])))
theorem RX.num (t : Str) (ht : t.length ≤ 9223372036854775807) : RX w0 ids w [treeD (.node 3 t [] [])] [.int .i64 3, .string (bs t), .slice none 0 0, .slice none 0 0] := RX.tree ⟨by omega, by omega⟩ ht RX.nils RX.nils
theorem RX.str (t : Str) (ht : t.length ≤ 9223372036854775807) : RX w0 ids w [treeD (.node 4 t [] [])] [.int .i64 4, .string (bs t), .slice none 0 0, .slice none 0 0] := RX.tree ⟨by omega, by omega⟩ ht RX.nils RX.nils
end
end Go.Scarf
