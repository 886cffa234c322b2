/- A part of the proof. -/
import Derived.Test.YtepbomjpbdbejaaGreatDoorW16
set_option linter.all false
set_option maxHeartbeats 8000000
set_option maxRecDepth 10000
namespace Go.Scarf
open Go.RowKit Go.Proofs
mutual
def MK : Tree → Tree → Bool
  | .node k t ks xs, .node k' t' ks' ys => decide (k = k') && decide (t = t') && decide (ks = ks') && L7 xs ys
def L7 : List Tree → List Tree → Bool
  | [], [] => true
  | x :: xs, y :: ys => MK x y && L7 xs ys
  | _, _ => false
end
theorem U9 : ∀ {xs ys : List Tree}, (∀ x ∈ xs, ∀ y, MK x y = true ↔ x = y) → (L7 xs ys = true ↔ xs = ys)
  | [], [], _ => by simp [L7]
  | [], _ :: _, _ => by simp [L7]
  | _ :: _, [], _ => by simp [L7]
  | x :: xs, y :: ys, h => by
    rw [L7, Bool.and_eq_true, h x Ga y, U9 (fun z hz => h z (by simp [hz]))]
    simp
theorem Z9 (x : Tree) : ∀ y, MK x y = true ↔ x = y := Tree.ind (Q := fun x => ∀ y, MK x y = true ↔ x = y) (fun k t ks xs ih y => by
  obtain ⟨k', t', ks', ys⟩ := y
  rw [MK, Bool.and_eq_true, Bool.and_eq_true, Bool.and_eq_true, U9 ih]
  simp [and_assoc]) x
instance : DecidableEq Tree := fun x y => if h : MK x y = true then .isTrue ((Z9 x y).1 h) else .isFalse (fun e => h ((Z9 x y).2 e))
mutual
def Uw : Tree → Bool | .node _ t ks xs => decide (t.length ≤ 2048) && ks.all (fun k => decide (k.length ≤ 1024)) && Ls xs
def Ls : List Tree → Bool | [] => true | x :: xs => Uw x && Ls xs
end
theorem BD (x : Tree) : Uw x = true → Xx x := Tree.ind (Q := fun x => Uw x = true → Xx x) (fun k t ks xs ih h => by
  rw [Uw, Bool.and_eq_true, Bool.and_eq_true, decide_eq_true_eq, List.all_eq_true] at h
  rw [Xx]
  refine ⟨by omega, fun k hk => by have := h.1.2 k hk; simp only [decide_eq_true_eq] at this; omega, ?_⟩
  have key : ∀ ys : List Tree, (∀ y ∈ ys, y ∈ xs) → Ls ys = true → Cy ys := by
    intro ys
    induction ys with
    | nil => intro _ _; rw [Cy]; trivial
    | cons y ys ihy =>
      intro hm hs
      rw [Ls, Bool.and_eq_true] at hs
      rw [Cy]
      exact ⟨ih y (hm y Ga) hs.1, ihy (fun z hz => hm z (by simp [hz])) hs.2⟩
  exact key xs (fun _ h => h) h.2) x
end Go.Scarf
namespace Go.Scarf
open Go.RowKit Go.Proofs
section
variable {P : Program} {w0 w w' : World} {ids : List Nat} {ds : List D}
theorem Kf {P : Program} {ρ : Operand → Value} {o : Oper} {w w' : World} {p : Prop} {_ : Decidable p} (h : (execOp ρ o).run P w = .ok (.value (.bool (decide p))) w') (hp : p) : (execOp ρ o).run P w = .ok (.value (.bool true)) w' := by rw [h, decide_eq_true hp]
theorem Ld {P : Program} {ρ : Operand → Value} {o : Oper} {w w' : World} {p : Prop} {_ : Decidable p} (h : (execOp ρ o).run P w = .ok (.value (.bool (decide p))) w') (hp : ¬ p) : (execOp ρ o).run P w = .ok (.value (.bool false)) w' := by rw [h, decide_eq_false hp]
theorem FR.rowX {bs : List (Nat × Obj)} (hF : FR w0 [] bs w) (i : Nat) {b n : Nat} {l : List Value} {T : TypeId} (hi : bs[i]? = some (b, .cells l.toArray T)) (hr : RX w0 ids w ds l) (hb : b ∉ ids) (hn : ds.length = n) (hm : n ≤ 9223372036854775807) :
    RX w0 ids w [.slice ds] [.slice (some ⟨b, 0, none⟩) n n] := by
  refine .one (Rep.slice_mk hn.symm (Nat.le_refl _) hm fun _ => ⟨_, rfl, l, fun j hj => ⟨?_, ?_⟩, hr⟩)
  · exact hF.cellsAll i hi j hj
  · exact ⟨hF.ge hi, hF.lt hi, hb, l.toArray, T, hF.heap hi⟩
theorem RX.tree {k : Int} {t : Str} {ks : List Str} {xs : List Tree} {v u : Value} (hk : -9223372036854775808 ≤ k ∧ k ≤ 9223372036854775807) (ht : t.length ≤ 9223372036854775807)
    (h3 : RX w0 ids w [Qf ks] [v]) (h4 : RX w0 ids w [.slice (He xs)] [u]) : RX w0 ids w [Ed (.node k t ks xs)] [.int .i64 k, .string (bs t), v, u] := .one (Rep.tree_mk hk ht h3.rep h4.rep)
theorem RX.nils {ids : List Nat} : RX w0 ids w [.slice []] [.slice none 0 0] := .one (Rep.nil_slice 0 by_Om none)
theorem RX.num (t : Str) (ht : t.length ≤ 9223372036854775807) : RX w0 ids w [Ed (.node 3 t [] [])] [.int .i64 3, .string (bs t), .slice none 0 0, .slice none 0 0] := RX.tree ⟨by omega, by omega⟩ ht RX.nils RX.nils
theorem RX.str (t : Str) (ht : t.length ≤ 9223372036854775807) : RX w0 ids w [Ed (.node 4 t [] [])] [.int .i64 4, .string (bs t), .slice none 0 0, .slice none 0 0] := RX.tree ⟨by omega, by omega⟩ ht RX.nils RX.nils
end
end Go.Scarf
