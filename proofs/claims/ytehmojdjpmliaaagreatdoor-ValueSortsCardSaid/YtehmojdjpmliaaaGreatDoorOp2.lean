/- A part of the proof. -/
import Derived.WideLaws
import Derived.Laws.Small
import Derived.Test.YtehmojdjpmliaaaGreatDoorMore
set_option linter.all false
namespace Go.Scarf
open Go.RowKit
section
variable {P : Program} {R : Exit → Act → World → Prop} {n : Nat} {k : Kt} {s : Nat → Value} {w : World} {ops rest : List Oper}
variable {d : Nat} {ty : TypeId} {pos : String} {aft : Array Edge} {g : Option (Nat × Bool)}
variable {w0 : World} {Ds : List Nat} {bs_ : List (Nat × Obj)} {ρ : Operand → Value} {dst : Option Nat}
theorem x_buildSlice {t e len size : Nat} {parts : Array (Nat × Operand)} {z : Value} {cs : Array Value} (ht : P.underlying t = some (.slice e)) (hs : ∀ w, (sizeOf e).run P w = .ok size w) (hz : ∀ w, (zeroValue e).run P w = .ok z w)
    (h1 : (len * size ≤ 16777216) = True) (h0 : (len * size = 0) = False)
    (hf : Instr.fill (fun i => some (i * size, size)) ((Array.range (len * size)).map (z.cells[· % z.cells.size]!)) (parts.toList.map fun x => (x.1, ρ x.2)) = some cs) :
    (execOp ρ ⟨dst, .buildSlice t len parts, ty, pos, aft, g⟩).run P w = .ok (.value (.slice (some ⟨w.heap.size, 0, none⟩) len len)) (w.alloc (.cells cs e)) := by
  have hu : ∀ w, (underlying t).run P w = .ok (.slice e) w := run_underlying ht
  have h1' : ¬ 2 ^ 24 < len * size := by have := of_eq_true h1; omega
  have h0' : ¬ len * size = 0 := by rw [h0]; simp
  simp [execOp, Instr.buildSlice, hu, hs, hz, h1', h0', hf, newRow, newObj, Sem.run]
theorem o_buildSlice {t e len size : Nat} {parts : Array (Nat × Operand)} {z : Value} {cs : Array Value} (hF : FR w0 Ds bs_ w) (ht : P.underlying t = some (.slice e)) (hs : ∀ w, (sizeOf e).run P w = .ok size w) (hz : ∀ w, (zeroValue e).run P w = .ok z w)
    (h1 : (len * size ≤ 16777216) = True) (h0 : (len * size = 0) = False)
    (hf : Instr.fill (fun i => some (i * size, size)) ((Array.range (len * size)).map (z.cells[· % z.cells.size]!)) (parts.toList.map fun x => (x.1, ev n s x.2)) = some cs)
    (h : ∀ b w', b = w.heap.size → FR w0 Ds ((b, .cells cs e) :: bs_) w' → Same [] w w' → Og P R n ops k rest (upd s d (.slice (some ⟨b, 0, none⟩) len len)) w')
    (hw : wantedB ops n s ⟨some d, .buildSlice t len parts, ty, pos, aft, g⟩ = true := by rfl) : Og P R n ops k (⟨some d, .buildSlice t len parts, ty, pos, aft, g⟩ :: rest) s w :=
  o_val (x_buildSlice ht hs hz h1 h0 hf) (h _ _ rfl (hF.alloc _) (Same.alloc w _)) hw
theorem o_new {v : Nat → Value} {o : Obj} {op : Op} (hF : FR w0 Ds bs_ w) (hrun : (execOp (ev n s) ⟨some d, op, ty, pos, aft, g⟩).run P w = .ok (.value (v w.heap.size)) (w.alloc o))
    (h : ∀ b w', b = w.heap.size → FR w0 Ds ((b, o) :: bs_) w' → Same [] w w' → Og P R n ops k rest (upd s d (v b)) w')
    (hw : wantedB ops n s ⟨some d, op, ty, pos, aft, g⟩ = true := by rfl) : Og P R n ops k (⟨some d, op, ty, pos, aft, g⟩ :: rest) s w :=
  o_val hrun (h _ _ rfl (hF.alloc _) (Same.alloc w _)) hw
theorem f_new {C : World → Prop} {order : Ord} {zs : List Nat} {i : Nat} {v : Nat → Value} {o : Obj} {op : Op} (hi : ops[i]? = some ⟨some d, op, ty, pos, aft, g⟩) (hF : FR w0 Ds bs_ w) (hrun : (execOp (ev n s) ⟨some d, op, ty, pos, aft, g⟩).run P w = .ok (.value (v w.heap.size)) (w.alloc o))
    (h : ∀ b w', b = w.heap.size → FR w0 Ds ((b, o) :: bs_) w' → Same [] w w' → C w' ∧ Dg P R n ops k zs order C (upd s d (v b)) w')
    (hw : wantedB ops n s ⟨some d, op, ty, pos, aft, g⟩ = true := by rfl) (hz : zs.contains i = false := by rfl) : Dg P R n ops k zs (.act i order) C s w :=
  let r := h _ _ rfl (hF.alloc _) (Same.alloc w _)
  f_act hi hrun r.1 r.2 hw hz
theorem addr_add (b o m : Nat) : (⟨b, o, none⟩ : Addr).add m = ⟨b, o + m, none⟩ := by
  unfold Addr.add; split <;> simp_all
theorem x_indexAddrO {t e m : Nat} {x y : Operand} {kk : IntKind} {b o len cap : Nat} {i : Int} (o' : Nat) (ht : SliceOf P t e m) (hx : ρ x = .slice (some ⟨b, o, none⟩) len cap) (hy : ρ y = .int kk i) (h0 : 0 ≤ i) (h1 : i < len) (ho : o + i.toNat * m = o') :
    (execOp ρ ⟨dst, .indexAddr t x y, ty, pos, aft, g⟩).run P w = .ok (.value (.pointer (some ⟨b, o', none⟩))) w := by
  rw [x_indexAddr ht hx hy h0 h1, addr_add, ho]
theorem x_nil_neq {t t' : TypeId} {x : Operand} (ht : P.underlying t = some (.interface (P.methodsAt t))) (hx : ρ x = .nilIface) (hy : ρ (.const .nilIface) = .nilIface) : (execOp ρ ⟨dst, .binOp .neq t x (.const .nilIface) t', ty, pos, aft, g⟩).run P w = .ok (.value (.bool false)) w := by
  have h := run_neq_nil_nil (P := P) (w := w) t ht
  have hg : (eqGuard .neq t x (.const .nilIface) .nilIface .nilIface).run P w = .ok () w := by simp [eqGuard]
  simp only [execOp, hx, hy, Sem.run_bind, hg, Result.andThen_ok, h, Sem.run_pure]
theorem x_iface_neq {t t' : TypeId} {x : Operand} {tp : TypeId} {p : Value} (ht : P.underlying t = some (.interface (P.methodsAt t))) (hx : ρ x = .iface tp p) (hy : ρ (.const .nilIface) = .nilIface) : (execOp ρ ⟨dst, .binOp .neq t x (.const .nilIface) t', ty, pos, aft, g⟩).run P w = .ok (.value (.bool true)) w := by
  have h := run_neq_held_nil (P := P) (w := w) t tp p ht
  have hg : (eqGuard .neq t x (.const .nilIface) (.iface tp p) .nilIface).run P w = .ok () w := by simp [eqGuard]
  simp only [execOp, hx, hy, Sem.run_bind, hg, Result.andThen_ok, h, Sem.run_pure]
theorem x_max {x y : Operand} {ats : Array TypeId} {k : IntKind} {a b : Int} (hx : ρ x = .int k a) (hy : ρ y = .int k b) : (execOp ρ ⟨dst, .call ⟨.builtin .max, #[x, y], ats⟩, ty, pos, aft, g⟩).run P w = .ok (.value (.int k (max a b))) w := by
  have e : (if b > a then b else a) = max a b := by rw [Int.max_def]; split <;> split <;> omega
  have h := run_max_int2 (P := P) w ats ty k k a b
  rw [e] at h
  simp [execOp, resolve, invoke, builtin, hx, hy, h]
theorem x_min {x y : Operand} {ats : Array TypeId} {k : IntKind} {a b : Int} (hx : ρ x = .int k a) (hy : ρ y = .int k b) : (execOp ρ ⟨dst, .call ⟨.builtin .min, #[x, y], ats⟩, ty, pos, aft, g⟩).run P w = .ok (.value (.int k (min a b))) w := by
  have e : (if b < a then b else a) = min a b := by rw [Int.min_def]; split <;> split <;> omega
  have h := run_min_int2 (P := P) w ats ty k k a b
  rw [e] at h
  simp [execOp, resolve, invoke, builtin, hx, hy, h]
theorem x_makeFunc00 {fn : Fn} : (execOp ρ ⟨dst, .makeFunc fn #[] #[], ty, pos, aft, g⟩).run P w = .ok (.value (.func fn #[] #[])) w := x_makeFunc (by simp) (by simp)
theorem x_makeFunc01 {fn : Fn} {x : Operand} {v : Value} (hx : ρ x = v) : (execOp ρ ⟨dst, .makeFunc fn #[] #[x], ty, pos, aft, g⟩).run P w = .ok (.value (.func fn #[] #[v])) w := x_makeFunc (by simp) (by simp [hx])
theorem x_makeFunc10 {fn : Fn} {x : Operand} {v : Value} (hx : ρ x = v) : (execOp ρ ⟨dst, .makeFunc fn #[x] #[], ty, pos, aft, g⟩).run P w = .ok (.value (.func fn #[v] #[])) w := x_makeFunc (by simp [hx]) (by simp)
theorem x_makeFunc02 {fn : Fn} {x y : Operand} {v u : Value} (hx : ρ x = v) (hy : ρ y = u) : (execOp ρ ⟨dst, .makeFunc fn #[] #[x, y], ty, pos, aft, g⟩).run P w = .ok (.value (.func fn #[] #[v, u])) w := x_makeFunc (by simp) (by simp [hx, hy])
theorem putA_at : ∀ (l pre : List Value) (cs : Array Value), cs.size = pre.length + l.length → cs.toList.take pre.length = pre → putA cs pre.length l = (pre ++ l).toArray
  | [], pre, cs, hs, hp => by
    simp only [List.length_nil, Nat.add_zero] at hs
    have : cs.toList = pre := by rw [List.take_of_length_le (by have := Array.length_toList (xs := cs); omega)] at hp; exact hp
    simp only [putA, List.append_nil]
    rw [← this]
  | v :: l, pre, cs, hs, hp => by
    simp only [List.length_cons] at hs
    have hlt : pre.length < (cs.toList.set pre.length v).length := by have := Array.length_toList (xs := cs); rw [List.length_set]; omega
    have ih := putA_at l (pre ++ [v]) (cs.setIfInBounds pre.length v) (by simp; omega) (by
      rw [Array.toList_setIfInBounds, List.length_append, List.length_singleton, List.take_succ_eq_append_getElem hlt, List.getElem_set_self, List.take_set_of_le (Nat.le_refl _), hp])
    rw [putA, show pre ++ v :: l = pre ++ [v] ++ l by simp, ← ih]
    simp
theorem putA_all {cs : Array Value} {l : List Value} (h : cs.size = l.length) : putA cs 0 l = l.toArray := by
  have := putA_at l [] cs (by simpa using h) (by simp)
  simpa using this
end
end Go.Scarf
