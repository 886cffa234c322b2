/- A part of the proof. -/
import Derived.Test.YtehmojdjpmliaaaGreatDoorOps
set_option linter.all false
namespace Go.Scarf
open Go.RowKit
def putA (cs : Array Value) : Nat → List Value → Array Value
  | _, [] => cs
  | off, v :: l => putA (cs.setIfInBounds off v) (off + 1) l
section
variable {w0 w : World} {Ds : List Nat} {bs : List (Nat × Obj)}
theorem setCell_new {w : World} {b off : Nat} {cs : Array Value} {T : TypeId} {fz : Nat × Nat} (h : w.heap[b]? = some (.cells cs T fz)) (v : Value) :
    (w.setCell ⟨b, off, none⟩ v).heap[b]? = some (.cells (cs.setIfInBounds off v) T fz) := by
  simp [World.setCell, Array.getElem?_modify, h]
theorem FR.setCell (h : FR w0 Ds bs w) (i : Nat) {b off : Nat} {cs : Array Value} {T : TypeId} {fz : Nat × Nat} (v : Value) (hi : bs[i]? = some (b, .cells cs T fz)) :
    FR w0 Ds (bs.set i (b, .cells (cs.setIfInBounds off v) T fz)) (w.setCell ⟨b, off, none⟩ v) :=
  h.change i hi (Same.setCell w ⟨b, off, none⟩ v) (setCell_new (h.heap hi) v)
theorem putCells_spec (b off : Nat) {T : TypeId} {fz : Nat × Nat} : ∀ (l : List Value) (j : Nat) (w : World) (cs : Array Value), w.heap[b]? = some (.cells cs T fz) →
    (putCells w ⟨b, off, none⟩ j l).heap[b]? = some (.cells (putA cs (off + j) l) T fz) ∧ Same [b] w (putCells w ⟨b, off, none⟩ j l)
  | [], j, w, cs, h => ⟨h, .refl _ _⟩
  | v :: l, j, w, cs, h => by
    have e : (⟨b, off, none⟩ : Addr).add j = ⟨b, off + j, none⟩ := by unfold Addr.add; split <;> simp_all
    have h1 := setCell_new (off := off + j) h v
    have := putCells_spec b off l (j + 1) (w.setCell ⟨b, off + j, none⟩ v) _ h1
    simp only [putCells, putA, e]
    refine ⟨?_, (Same.setCell w ⟨b, off + j, none⟩ v).trans this.2⟩
    rw [this.1, Nat.add_assoc]
theorem FR.cellsAll (h : FR w0 Ds bs w) (i : Nat) {b : Nat} {l : List Value} {T : TypeId} {fz : Nat × Nat} (hi : bs[i]? = some (b, .cells l.toArray T fz)) :
    ∀ j (hj : j < l.length), w.cell? ((⟨b, 0, none⟩ : Addr).add j) = some l[j] := fun j hj => by
  have e : (⟨b, 0, none⟩ : Addr).add j = ⟨b, j, none⟩ := by unfold Addr.add; split <;> simp_all
  rw [e, cell_of_heap (h.heap hi) j]
  simp [hj]
theorem frozen_of_heap {w : World} {b : Nat} {cs : Array Value} {T : TypeId} (h : w.heap[b]? = some (.cells cs T (0, 0))) (i : Nat) : w.frozen? ⟨b, i, none⟩ = false := by
  simp [World.frozen?, h]
end
section
variable {P : Program} {R : Exit → Act → World → Prop} {n : Nat} {k : Kt} {s : Nat → Value} {w : World} {ops rest : List Oper}
variable {d : Nat} {ty : TypeId} {pos : String} {aft : Array Edge} {g : Option (Nat × Bool)}
variable {w0 : World} {Ds : List Nat} {bs : List (Nat × Obj)}
theorem o_box {t : TypeId} {x : Operand} {v : Value} {cs : Array Value} (hF : FR w0 Ds bs w) (hx : ev n s x = v) (hv : v.cells = cs)
    (h : ∀ b w', b = w.heap.size → FR w0 Ds ((b, .cells cs t) :: bs) w' → Same [] w w' → Og P R n ops k rest (upd s d (.pointer (some ⟨b, 0, none⟩))) w')
    (hw : wantedB ops n s ⟨some d, .box t x, ty, pos, aft, g⟩ = true := by rfl) : Og P R n ops k (⟨some d, .box t x, ty, pos, aft, g⟩ :: rest) s w :=
  o_val (x_box hx) (h _ _ rfl (by subst hv; exact hF.alloc _) (Same.alloc w _)) hw
theorem o_alloc {t : TypeId} {z : Value} {cs : Array Value} (hF : FR w0 Ds bs w) (hz : ∀ w, (zeroValue t).run P w = .ok z w) (hv : z.cells = cs)
    (h : ∀ b w', b = w.heap.size → FR w0 Ds ((b, .cells cs t) :: bs) w' → Same [] w w' → Og P R n ops k rest (upd s d (.pointer (some ⟨b, 0, none⟩))) w')
    (hw : wantedB ops n s ⟨some d, .alloc t, ty, pos, aft, g⟩ = true := by rfl) : Og P R n ops k (⟨some d, .alloc t, ty, pos, aft, g⟩ :: rest) s w :=
  o_val (x_alloc hz) (h _ _ rfl (by subst hv; exact hF.alloc _) (Same.alloc w _)) hw
theorem o_store (i : Nat) {t : TypeId} {x y : Operand} {v : Value} {l : List Value} {b off : Nat} {cs cs' : Array Value} {T : TypeId} (hF : FR w0 Ds bs w) (hs : ∀ w, (sizeOf t).run P w = .ok l.length w)
    (hx : ev n s x = .pointer (some ⟨b, off, none⟩)) (hy : ev n s y = v) (hl : v.cells = l.toArray) (hv : ∀ v ∈ l, one v = true) (hi : bs[i]? = some (b, .cells cs T)) (hsz : off + l.length ≤ cs.size)
    (hcs : putA cs off l = cs')
    (h : ∀ w', FR w0 Ds (bs.set i (b, .cells cs' T)) w' → Same [b] w w' → Og P R n ops k rest s w')
    (hw : wantedB ops n s ⟨none, .store t x y, ty, pos, aft, g⟩ = true := by rfl) : Og P R n ops k (⟨none, .store t x y, ty, pos, aft, g⟩ :: rest) s w := by
  have hh := hF.heap hi
  have hsp := putCells_spec b off (fz := (0, 0)) l 0 w cs hh
  refine o_unit (x_store hs hx hy hl hv fun j hj => ?_) (h (putCells w ⟨b, off, none⟩ 0 l) ?_ hsp.2) hw
  · have e : (⟨b, off, none⟩ : Addr).add j = ⟨b, off + j, none⟩ := by unfold Addr.add; split <;> simp_all
    rw [e, cell_of_heap hh]
    exact ⟨⟨cs[off + j]'(by omega), by simp⟩, frozen_of_heap hh _⟩
  · subst hcs
    exact hF.change i hi hsp.2 (by simpa using hsp.1)
theorem o_lay {t : TypeId} {y : Operand} {z v : Value} {l : List Value} {ty' : TypeId} {pos' : String} {aft' : Array Edge} (hF : FR w0 Ds bs w) (hz : ∀ w, (zeroValue t).run P w = .ok z w) (hs : ∀ w, (sizeOf t).run P w = .ok l.length w)
    (hzl : z.cells.size = l.length) (hy : ev n (upd s d (.pointer (some ⟨w.heap.size, 0, none⟩))) y = v) (hl : v.cells = l.toArray) (hv : ∀ v ∈ l, one v = true) (hdn : Nat.blt d n = true)
    (h : ∀ b w', b = w.heap.size → FR w0 Ds ((b, .cells l.toArray t) :: bs) w' → Same [] w w' → Og P R n ops k rest (upd s d (.pointer (some ⟨b, 0, none⟩))) w') :
    Og P R n ops k (⟨some d, .alloc t, ty, pos, aft, none⟩ :: ⟨none, .store t (.tmp d) y, ty', pos', aft', none⟩ :: rest) s w := by
  refine o_val (x_alloc hz) ?_ rfl
  have hF1 := hF.alloc (.cells z.cells t)
  refine o_store 0 (b := w.heap.size) (off := 0) (cs := z.cells) (T := t) (cs' := l.toArray) hF1 hs (by simp [ev, upd, hdn]) hy hl hv rfl (by omega) ?_ (fun w' hF' hS => ?_) rfl
  · have key : ∀ (l : List Value) (off : Nat) (cs : Array Value), off + l.length = cs.size → putA cs off l = (cs.toList.take off ++ l).toArray := by
      intro l
      induction l with
      | nil => intro off cs h; simp only [putA, List.append_nil]; rw [List.take_of_length_le (by simp at h ⊢; omega)]
      | cons v l ih =>
        intro off cs h
        simp only [List.length_cons] at h
        rw [putA, ih _ _ (by simp; omega)]
        have hoff : off < cs.toList.length := by simp; omega
        have e : (cs.setIfInBounds off v).toList.take (off + 1) = cs.toList.take off ++ [v] := by
          rw [Array.toList_setIfInBounds, List.take_succ_eq_append_getElem (by simpa using hoff), List.take_set_of_le (Nat.le_refl _)]
          simp
        rw [e]
        simp
    simpa using key l 0 z.cells (by omega)
  · refine h _ w' rfl hF' ⟨hS.os, hS.tape, hS.output, Nat.le_trans (by simp) hS.size, fun b hb _ => ?_⟩
    rw [hS.block b (by simp; omega) (by simp; omega)]
    exact Below.heap_alloc w _ b hb
end
end Go.Scarf
