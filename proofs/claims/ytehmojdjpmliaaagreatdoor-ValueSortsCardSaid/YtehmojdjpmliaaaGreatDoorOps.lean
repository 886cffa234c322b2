/- A part of the proof. -/
import Derived.WalkKit
import Derived.WalkLawsBesides
import Derived.Test.YtehmojdjpmliaaaGreatDoorDraw
set_option linter.all false
namespace Go.Scarf
open Go.RowKit
def one : Value → Bool
  | .agg _ | .tuple _ => false
  | _ => true
abbrev Str := List UInt8
abbrev bs (l : Str) : ByteArray := ⟨l.toArray⟩
section
variable {P : Program} {ρ : Operand → Value} {w : World} {dst : Option Nat} {ty : TypeId} {pos : String} {aft : Array Edge} {g : Option (Nat × Bool)}
theorem x_move {x : Operand} {v : Value} (h : ρ x = v) : (execOp ρ ⟨dst, .move x, ty, pos, aft, g⟩).run P w = .ok (.value v) w := by simp [execOp, h]
theorem x_assign {x : Operand} {v : Value} (h : ρ x = v) : (execOp ρ ⟨dst, .assign x, ty, pos, aft, g⟩).run P w = .ok (.value v) w := by simp [execOp, h]
theorem x_pick {c a b : Operand} {t : Bool} {v : Value} (hc : ρ c = .bool t) (h : (if t then ρ a else ρ b) = v) : (execOp ρ ⟨dst, .pick c a b, ty, pos, aft, g⟩).run P w = .ok (.value v) w := by
  simp [execOp, hc, asBool, h]
theorem x_pickt {c a b : Operand} {v : Value} (hc : ρ c = .bool true) (h : ρ a = v) : (execOp ρ ⟨dst, .pick c a b, ty, pos, aft, g⟩).run P w = .ok (.value v) w := by
  simp [execOp, hc, asBool, h]
theorem x_pickf {c a b : Operand} {v : Value} (hc : ρ c = .bool false) (h : ρ b = v) : (execOp ρ ⟨dst, .pick c a b, ty, pos, aft, g⟩).run P w = .ok (.value v) w := by
  simp [execOp, hc, asBool, h]
theorem x_nilCheck {x : Operand} {a : Addr} (h : ρ x = .pointer (some a)) : (execOp ρ ⟨dst, .nilCheck x, ty, pos, aft, g⟩).run P w = .ok (.value (.pointer (some a))) w := by
  simp [execOp, h]
theorem x_nilCheckF {x : Operand} {f : FuncId} {first cap : Array Value} (h : ρ x = .func (.func f) first cap) : (execOp ρ ⟨dst, .nilCheck x, ty, pos, aft, g⟩).run P w = .ok (.value (.func (.func f) first cap)) w := by
  simp [execOp, h]
theorem x_box {t : TypeId} {x : Operand} {v : Value} (h : ρ x = v) : (execOp ρ ⟨dst, .box t x, ty, pos, aft, g⟩).run P w = .ok (.value (.pointer (some ⟨w.heap.size, 0, none⟩))) (w.alloc (.cells v.cells t)) := by
  simp [execOp, h, Instr.box, newVar, newRow, newObj, Sem.run]
theorem x_alloc {t : TypeId} {z : Value} (hz : ∀ w, (zeroValue t).run P w = .ok z w) : (execOp ρ ⟨dst, .alloc t, ty, pos, aft, g⟩).run P w = .ok (.value (.pointer (some ⟨w.heap.size, 0, none⟩))) (w.alloc (.cells z.cells t)) := by
  simp [execOp, Instr.alloc, newVar, newRow, newObj, Sem.run, hz]
theorem run_loadCellsFrom (a : Addr) (w : World) : ∀ (l : List Value) (i : Nat) (acc : Array Value), (∀ j (h : j < l.length), w.cell? (a.add (i + j)) = some l[j]) →
    (loadCellsFrom a i l.length acc).run P w = .ok (acc ++ l.toArray) w
  | [], i, acc, _ => by simp [loadCellsFrom]
  | v :: l, i, acc, h => by
    have h0 := h 0 (by simp)
    simp only [Nat.add_zero, List.getElem_cons_zero] at h0
    have hr := run_loadCellsFrom a w l (i + 1) (acc.push v) (fun j hj => by
      have := h (j + 1) (by simpa using hj)
      simp only [List.getElem_cons_succ] at this
      rw [← this]; congr 2; omega)
    simp only [List.length_cons, loadCellsFrom]
    have : (load (a.add i)).run P w = .ok v w := by simp [load, Sem.run, h0]
    simp [this, hr]
theorem run_loadCells (a : Addr) (w : World) (l : List Value) {m : Nat} (hm : l.length = m) (h : ∀ j (h : j < l.length), w.cell? (a.add j) = some l[j]) : (loadCells a m).run P w = .ok l.toArray w := by
  subst hm
  have := run_loadCellsFrom (P := P) a w l 0 #[] (fun j hj => by simpa using h j hj)
  simpa [loadCells] using this
theorem x_load {t : TypeId} {x : Operand} {a : Addr} {v : Value} (ha : ∀ w, (isAgg t).run P w = .ok false w) (hx : ρ x = .pointer (some a)) (hc : w.cell? a = some v) :
    (execOp ρ ⟨dst, .load t x, ty, pos, aft, g⟩).run P w = .ok (.value v) w := by
  simp [execOp, Instr.loadAt, Instr.sureAddr, hx, loadVar, ha, load, Sem.run, hc]
theorem x_loadS {t : TypeId} {x : Operand} {a : Addr} {l : List Value} {m : Nat} (ha : ∀ w, (isAgg t).run P w = .ok true w) (hs : ∀ w, (sizeOf t).run P w = .ok m w) (hx : ρ x = .pointer (some a)) (hm : l.length = m)
    (hc : ∀ j (h : j < l.length), w.cell? (a.add j) = some l[j]) : (execOp ρ ⟨dst, .load t x, ty, pos, aft, g⟩).run P w = .ok (.value (.agg l.toArray)) w := by
  simp [execOp, Instr.loadAt, Instr.sureAddr, hx, loadVar, ha, hs, run_loadCells a w l hm hc]
theorem run_storeCell {a : Addr} {v u : Value} (hv : one v = true) (hc : w.cell? a = some u) (hf : w.frozen? a = false) : (store a v).run P w = .ok () (w.setCell a v) := by
  cases v <;> first | (simp [one] at hv; done) | simp [store, Sem.run, hc, hf]
def putCells (w : World) (a : Addr) : Nat → List Value → World
  | _, [] => w
  | i, v :: l => putCells (w.setCell (a.add i) v) a (i + 1) l
theorem frozen_setCell (w : World) (a b : Addr) (v : Value) : (w.setCell a v).frozen? b = w.frozen? b := World.frozen?_setCell ..
theorem run_storeCells (a : Addr) : ∀ (l : List Value) (i : Nat) (w : World), (∀ v ∈ l, one v = true) → (∀ j, j < l.length → (∃ u, w.cell? (a.add (i + j)) = some u) ∧ w.frozen? (a.add (i + j)) = false) →
    (storeCells a l i).run P w = .ok () (putCells w a i l)
  | [], i, w, _, _ => by simp [storeCells, putCells]
  | v :: l, i, w, hv, h => by
    obtain ⟨⟨u, hu⟩, hf⟩ := h 0 (by simp)
    simp only [Nat.add_zero] at hu hf
    have h1 := run_storeCell (P := P) (hv v (by simp)) hu hf
    have hr := run_storeCells a l (i + 1) (w.setCell (a.add i) v) (fun x hx => hv x (by simp [hx])) (fun j hj => by
      obtain ⟨⟨u', hu'⟩, hf'⟩ := h (j + 1) (by simpa using hj)
      have e : i + 1 + j = i + (j + 1) := by omega
      rw [e]
      exact ⟨cell?_setCell_some (w := w) (p := a.add i) (x := v) hu' |>.imp fun _ hh => hh, by rw [frozen_setCell]; exact hf'⟩)
    simp only [storeCells, putCells]
    simp [h1, hr]
theorem x_store {t : TypeId} {x y : Operand} {a : Addr} {v : Value} {l : List Value} (hs : ∀ w, (sizeOf t).run P w = .ok l.length w) (hx : ρ x = .pointer (some a)) (hy : ρ y = v) (hl : v.cells = l.toArray)
    (hv : ∀ v ∈ l, one v = true) (h : ∀ j, j < l.length → (∃ u, w.cell? (a.add j) = some u) ∧ w.frozen? (a.add j) = false) :
    (execOp ρ ⟨dst, .store t x y, ty, pos, aft, g⟩).run P w = .ok .skip (putCells w a 0 l) := by
  have hr := run_storeCells (P := P) a l 0 w hv (fun j hj => by simpa using h j hj)
  simp [execOp, Instr.storeAt, Instr.sureAddr, hx, hy, storeVar, hs, hl, hr]
theorem run_fieldPlace {a : Addr} {f : Field} {m : Nat} (hs : ∀ w, (sizeOf f.type).run P w = .ok m w) (hm : m ≠ 0) : (fieldPlace a f).run P w = .ok (a.add f.offset) w := by
  simp [fieldPlace, hs, hm]
def FieldAt (P : Program) (t : TypeId) (i off : Nat) : Prop := ∃ (fs : Array Field) (f : Field) (m : Nat), P.underlying t = some (.struct fs) ∧ fs[i]? = some f ∧ f.offset = off ∧ (∀ w, (sizeOf f.type).run P w = .ok m w) ∧ m ≠ 0
theorem x_fieldAddr {t : TypeId} {x : Operand} {i off : Nat} {a : Addr} (hf : FieldAt P t i off) (hx : ρ x = .pointer (some a)) :
    (execOp ρ ⟨dst, .fieldAddr t x i, ty, pos, aft, g⟩).run P w = .ok (.value (.pointer (some (a.add off)))) w := by
  obtain ⟨fs, f, m, ht, hi, ho, hs, hm⟩ := hf
  subst ho
  have hu : ∀ w, (underlying t).run P w = .ok (.struct fs) w := run_underlying ht
  simp [execOp, Instr.fieldAt, hu, hi, hx, Instr.sureAddr, run_fieldPlace hs hm]
theorem x_fieldAddrO {t : TypeId} {x : Operand} {i off b o o' : Nat} (hf : FieldAt P t i off) (hx : ρ x = .pointer (some ⟨b, o, none⟩)) (ho : o + off = o' := by rfl) :
    (execOp ρ ⟨dst, .fieldAddr t x i, ty, pos, aft, g⟩).run P w = .ok (.value (.pointer (some ⟨b, o', none⟩))) w := by
  rw [x_fieldAddr hf hx]
  subst ho
  have e : (⟨b, o, none⟩ : Addr).add off = ⟨b, o + off, none⟩ := by unfold Addr.add; split <;> simp_all
  rw [e]
def SliceOf (P : Program) (t : TypeId) (e m : Nat) : Prop := P.underlying t = some (.slice e) ∧ ∀ w, (sizeOf e).run P w = .ok m w
theorem x_indexAddr {t e m : Nat} {x y : Operand} {k : IntKind} {ad : Addr} {len cap : Nat} {i : Int} (ht : SliceOf P t e m) (hx : ρ x = .slice (some ad) len cap) (hy : ρ y = .int k i) (h0 : 0 ≤ i) (h1 : i < len) :
    (execOp ρ ⟨dst, .indexAddr t x y, ty, pos, aft, g⟩).run P w = .ok (.value (.pointer (some (ad.add (i.toNat * m))))) w := by
  have hu : ∀ w, (underlying t).run P w = .ok (.slice e) w := run_underlying ht.1
  simp [execOp, Instr.indexAt, hx, hy, asIntOf, hu, h0, h1, ht.2]
theorem x_index {t : TypeId} {x y : Operand} {k : IntKind} {s : Str} (i : Nat) (ht : P.underlying t = some .string) (hx : ρ x = .string (bs s)) (hy : ρ y = .int k (i : Int)) (h1 : i < s.length) :
    (execOp ρ ⟨dst, .index t x y, ty, pos, aft, g⟩).run P w = .ok (.value (.int .u8 (s[i].toNat : Int))) w := by
  have hu : ∀ w, (underlying t).run P w = .ok .string w := run_underlying ht
  have hb : i < (bs s).size := h1
  have hg : (bs s)[i]? = some s[i] := by
    have : (bs s)[i]? = some ((bs s)[i]'hb) := by simp [hb]
    rw [this]; rfl
  simp [execOp, Instr.index, hx, hy, asIntOf, hu, hg]
theorem x_len_slice {t : TypeId} {e : TypeId} {x : Operand} {A : Option Addr} {n c : Nat} (ht : P.underlying t = some (.slice e)) (hx : ρ x = .slice A n c) :
    (execOp ρ ⟨dst, .call ⟨.builtin .len, #[x], #[t]⟩, ty, pos, aft, g⟩).run P w = .ok (.value (.int .i64 (n : Int))) w := by
  have hu : ∀ w, (underlying t).run P w = .ok (.slice e) w := run_underlying ht
  simp [execOp, resolve, invoke, builtin, Builtin.len_, hx, hu, goInt]
theorem x_cap_slice {t : TypeId} {e : TypeId} {x : Operand} {A : Option Addr} {n c : Nat} (ht : P.underlying t = some (.slice e)) (hx : ρ x = .slice A n c) :
    (execOp ρ ⟨dst, .call ⟨.builtin .cap, #[x], #[t]⟩, ty, pos, aft, g⟩).run P w = .ok (.value (.int .i64 (c : Int))) w := by
  have hu : ∀ w, (underlying t).run P w = .ok (.slice e) w := run_underlying ht
  simp [execOp, resolve, invoke, builtin, Builtin.cap_, hx, hu, goInt]
theorem x_len_string {t : TypeId} {x : Operand} {s : Str} (ht : P.underlying t = some .string) (hx : ρ x = .string (bs s)) :
    (execOp ρ ⟨dst, .call ⟨.builtin .len, #[x], #[t]⟩, ty, pos, aft, g⟩).run P w = .ok (.value (.int .i64 (s.length : Int))) w := by
  have hu : ∀ w, (underlying t).run P w = .ok .string w := run_underlying ht
  simp [execOp, resolve, invoke, builtin, Builtin.len_, hx, hu, goInt]
  rfl
theorem run_eqGuard_int {op : BinOp} {t : TypeId} {x y : Operand} {k k' : IntKind} {a b : Int} : (eqGuard op t x y (.int k a) (.int k' b)).run P w = .ok () w := by
  unfold eqGuard; split <;> simp
theorem x_add {t t' : TypeId} {x y : Operand} {k : IntKind} {a b c : Int} (hx : ρ x = .int k a) (hy : ρ y = .int k b) (h : k.wrap (a + b) = c) :
    (execOp ρ ⟨dst, .binOp .add t x y t', ty, pos, aft, g⟩).run P w = .ok (.value (.int k c)) w := by
  simp [execOp, hx, hy, run_eqGuard_int, binOp, Op.intArith, h]
theorem x_sub {t t' : TypeId} {x y : Operand} {k : IntKind} {a b c : Int} (hx : ρ x = .int k a) (hy : ρ y = .int k b) (h : k.wrap (a - b) = c) :
    (execOp ρ ⟨dst, .binOp .sub t x y t', ty, pos, aft, g⟩).run P w = .ok (.value (.int k c)) w := by
  simp [execOp, hx, hy, run_eqGuard_int, binOp, Op.intArith, h]
theorem x_mul {t t' : TypeId} {x y : Operand} {k : IntKind} {a b c : Int} (hx : ρ x = .int k a) (hy : ρ y = .int k b) (h : k.wrap (a * b) = c) :
    (execOp ρ ⟨dst, .binOp .mul t x y t', ty, pos, aft, g⟩).run P w = .ok (.value (.int k c)) w := by
  simp [execOp, hx, hy, run_eqGuard_int, binOp, Op.intArith, h]
theorem x_quo {t t' : TypeId} {x y : Operand} {k : IntKind} {a b c : Int} (hx : ρ x = .int k a) (hy : ρ y = .int k b) (h0 : b ≠ 0) (h : k.wrap (a.tdiv b) = c) :
    (execOp ρ ⟨dst, .binOp .quo t x y t', ty, pos, aft, g⟩).run P w = .ok (.value (.int k c)) w := by
  simp [execOp, hx, hy, run_eqGuard_int, binOp, Op.intDiv, h0, h]
theorem x_rem {t t' : TypeId} {x y : Operand} {k : IntKind} {a b c : Int} (hx : ρ x = .int k a) (hy : ρ y = .int k b) (h0 : b ≠ 0) (h : a.tmod b = c) :
    (execOp ρ ⟨dst, .binOp .rem t x y t', ty, pos, aft, g⟩).run P w = .ok (.value (.int k c)) w := by
  simp [execOp, hx, hy, run_eqGuard_int, binOp, Op.intDiv, h0, h]
theorem x_lss {t t' : TypeId} {x y : Operand} {k : IntKind} {a b : Int} (hx : ρ x = .int k a) (hy : ρ y = .int k b) :
    (execOp ρ ⟨dst, .binOp .lss t x y t', ty, pos, aft, g⟩).run P w = .ok (.value (.bool (decide (a < b)))) w := by
  simp [execOp, hx, hy, run_eqGuard_int, binOp, Op.intCmp]
theorem x_leq {t t' : TypeId} {x y : Operand} {k : IntKind} {a b : Int} (hx : ρ x = .int k a) (hy : ρ y = .int k b) :
    (execOp ρ ⟨dst, .binOp .leq t x y t', ty, pos, aft, g⟩).run P w = .ok (.value (.bool (decide (a ≤ b)))) w := by
  simp [execOp, hx, hy, run_eqGuard_int, binOp, Op.intCmp]
theorem x_gtr {t t' : TypeId} {x y : Operand} {k : IntKind} {a b : Int} (hx : ρ x = .int k a) (hy : ρ y = .int k b) :
    (execOp ρ ⟨dst, .binOp .gtr t x y t', ty, pos, aft, g⟩).run P w = .ok (.value (.bool (decide (b < a)))) w := by
  simp [execOp, hx, hy, run_eqGuard_int, binOp, Op.intCmp]
theorem x_geq {t t' : TypeId} {x y : Operand} {k : IntKind} {a b : Int} (hx : ρ x = .int k a) (hy : ρ y = .int k b) :
    (execOp ρ ⟨dst, .binOp .geq t x y t', ty, pos, aft, g⟩).run P w = .ok (.value (.bool (decide (b ≤ a)))) w := by
  simp [execOp, hx, hy, run_eqGuard_int, binOp, Op.intCmp]
theorem x_eql {t t' : TypeId} {x y : Operand} {k : IntKind} {a b : Int} (hx : ρ x = .int k a) (hy : ρ y = .int k b) :
    (execOp ρ ⟨dst, .binOp .eql t x y t', ty, pos, aft, g⟩).run P w = .ok (.value (.bool (decide (a = b)))) w := by
  have : (a == b) = decide (a = b) := by by_cases h : a = b <;> simp [h]
  simp [execOp, hx, hy, run_eqGuard_int, binOp, Op.intCmp, this]
theorem x_neq {t t' : TypeId} {x y : Operand} {k : IntKind} {a b : Int} (hx : ρ x = .int k a) (hy : ρ y = .int k b) :
    (execOp ρ ⟨dst, .binOp .neq t x y t', ty, pos, aft, g⟩).run P w = .ok (.value (.bool (decide (a ≠ b)))) w := by
  have : (a != b) = decide (a ≠ b) := by by_cases h : a = b <;> simp [h]
  simp [execOp, hx, hy, run_eqGuard_int, binOp, Op.intCmp, this]
theorem x_not {t : TypeId} {x : Operand} {b : Bool} (hx : ρ x = .bool b) : (execOp ρ ⟨dst, .unOp .not t x, ty, pos, aft, g⟩).run P w = .ok (.value (.bool (!b))) w := by
  simp [execOp, hx, Op.unary]
theorem x_notd {t : TypeId} {x : Operand} {p : Prop} {_ : Decidable p} (hx : ρ x = .bool (decide p)) : (execOp ρ ⟨dst, .unOp .not t x, ty, pos, aft, g⟩).run P w = .ok (.value (.bool (decide (¬ p)))) w := by
  simp [execOp, hx, Op.unary]
theorem x_neg {t : TypeId} {x : Operand} {k : IntKind} {a c : Int} (hx : ρ x = .int k a) (h : k.wrap (0 - a) = c) : (execOp ρ ⟨dst, .unOp .neg t x, ty, pos, aft, g⟩).run P w = .ok (.value (.int k c)) w := by
  simp [execOp, hx, Op.unary, Op.intArith] at h ⊢; exact h
theorem x_conv_int {t t' : TypeId} {x : Operand} {k k' : IntKind} {d : TypeDesc} {a c : Int} (ht : P.underlying t = some d) (ht' : P.underlying t' = some (.int k')) (hx : ρ x = .int k a) (h : k'.wrap a = c) :
    (execOp ρ ⟨dst, .convert t t' x, ty, pos, aft, g⟩).run P w = .ok (.value (.int k' c)) w := by
  have hu : ∀ w, (underlying t').run P w = .ok (.int k') w := run_underlying ht'
  have hd : ∀ w, (underlying t).run P w = .ok d w := run_underlying ht
  simp [execOp, convert, hu, hd, hx, Conv.intToInt, h]
theorem run_eqGuard_str {op : BinOp} {t : TypeId} {x y : Operand} {a b : ByteArray} : (eqGuard op t x y (.string a) (.string b)).run P w = .ok () w := by
  unfold eqGuard; split <;> simp
theorem bs_toList (a : Str) : (bs a).toList = a := by rw [ByteArray.toList_eq]
theorem bs_size (a : Str) : (bs a).size = a.length := rfl
theorem bs_inj {a b : Str} : bs a = bs b ↔ a = b := ⟨fun h => by rw [← bs_toList a, ← bs_toList b, h], fun h => by rw [h]⟩
theorem bs_append (a b : Str) : bs a ++ bs b = bs (a ++ b) := by
  have h : (bs a ++ bs b).toList = (bs (a ++ b)).toList := by
    rw [ByteArray.toList_eq, ByteArray.toList_eq]
    simp [bs]
  have h2 : (bs a ++ bs b).data = (bs (a ++ b)).data := by
    rw [ByteArray.toList_eq, ByteArray.toList_eq] at h
    simpa using h
  cases hx : bs a ++ bs b
  rw [hx] at h2
  cases h2
  rfl
theorem bs_extract (a : Str) (l h : Nat) : (bs a).extract l h = bs ((a.take h).drop l) := by
  have hh : ((bs a).extract l h).toList = (bs ((a.take h).drop l)).toList := by
    rw [ByteArray.toList_eq, ByteArray.toList_eq]
    simp [bs]
    rw [List.drop_take]
  have h2 : ((bs a).extract l h).data = (bs ((a.take h).drop l)).data := by
    rw [ByteArray.toList_eq, ByteArray.toList_eq] at hh
    simpa using hh
  cases hx : (bs a).extract l h
  rw [hx] at h2
  cases h2
  rfl
theorem x_cat {t t' : TypeId} {x y : Operand} {a b : Str} (hx : ρ x = .string (bs a)) (hy : ρ y = .string (bs b)) (h : a.length + b.length ≤ 9223372036854775807) :
    (execOp ρ ⟨dst, .binOp .add t x y t', ty, pos, aft, g⟩).run P w = .ok (.value (.string (bs (a ++ b)))) w := by
  rw [← bs_append]
  have h' : (bs a).size + (bs b).size ≤ 9223372036854775807 := h
  generalize bs a = u at *
  generalize bs b = v at *
  simp [execOp, hx, hy, run_eqGuard_str, binOp, Op.stringOp]
  omega
theorem bs_beq (a b : Str) : ((bs a).toList == (bs b).toList) = decide (a = b) := by
  rw [bs_toList, bs_toList]
  by_cases h : a = b <;> simp [h]
theorem x_eqls {t t' : TypeId} {x y : Operand} {a b : Str} (hx : ρ x = .string (bs a)) (hy : ρ y = .string (bs b)) :
    (execOp ρ ⟨dst, .binOp .eql t x y t', ty, pos, aft, g⟩).run P w = .ok (.value (.bool (decide (a = b)))) w := by
  have := bs_beq a b
  generalize bs a = u at *
  generalize bs b = v at *
  simp [execOp, hx, hy, run_eqGuard_str, binOp, Op.stringOp, this]
theorem x_neqs {t t' : TypeId} {x y : Operand} {a b : Str} (hx : ρ x = .string (bs a)) (hy : ρ y = .string (bs b)) :
    (execOp ρ ⟨dst, .binOp .neq t x y t', ty, pos, aft, g⟩).run P w = .ok (.value (.bool (decide (a ≠ b)))) w := by
  have := bs_beq a b
  generalize bs a = u at *
  generalize bs b = v at *
  simp [execOp, hx, hy, run_eqGuard_str, binOp, Op.stringOp, this]
abbrev strLt (a b : Str) : Bool := Op.bytesLess a b
theorem x_lsss {t t' : TypeId} {x y : Operand} {a b : Str} (hx : ρ x = .string (bs a)) (hy : ρ y = .string (bs b)) :
    (execOp ρ ⟨dst, .binOp .lss t x y t', ty, pos, aft, g⟩).run P w = .ok (.value (.bool (strLt a b))) w := by
  have : Op.bytesLess (bs a).toList (bs b).toList = strLt a b := by rw [bs_toList, bs_toList]
  generalize bs a = u at *
  generalize bs b = v at *
  simp [execOp, hx, hy, run_eqGuard_str, binOp, Op.stringOp, this]
theorem x_conv_str {t t' : TypeId} {x : Operand} {s : ByteArray} (ht : P.underlying t = some .string) (ht' : P.underlying t' = some .string) (hx : ρ x = .string s) :
    (execOp ρ ⟨dst, .convert t t' x, ty, pos, aft, g⟩).run P w = .ok (.value (.string s)) w := by
  have hu : ∀ w, (underlying t').run P w = .ok .string w := run_underlying ht'
  have hd : ∀ w, (underlying t).run P w = .ok .string w := run_underlying ht
  simp [execOp, convert, hu, hd, hx]
theorem x_slice_strB {t : TypeId} {x : Operand} {lo hi : Option Operand} {s : ByteArray} (l h : Nat) (ht : P.underlying t = some .string) (hx : ρ x = .string s)
    (hl : (lo.map ρ = none ∧ l = 0) ∨ ∃ k, lo.map ρ = some (.int k (l : Int))) (hh : (hi.map ρ = none ∧ h = s.size) ∨ ∃ k, hi.map ρ = some (.int k (h : Int))) (h1 : l ≤ h) (h2 : h ≤ s.size) :
    (execOp ρ ⟨dst, .slice t x lo hi none, ty, pos, aft, g⟩).run P w = .ok (.value (.string (s.extract l h))) w := by
  have hu : ∀ w, (underlying t).run P w = .ok .string w := run_underlying ht
  rcases hl with ⟨hl, rfl⟩ | ⟨k, hl⟩ <;> rcases hh with ⟨hh, rfl⟩ | ⟨k', hh⟩ <;>
    simp [execOp, Instr.sliceAt, hu, Instr.slice, hx, hl, hh, Instr.sliceBounds, Instr.sliceBound, asIntOf, h1, h2]
theorem x_slice2 {t : TypeId} {x y z : Operand} {s : Str} {k k' : IntKind} (l h : Nat) (ht : P.underlying t = some .string) (hx : ρ x = .string (bs s)) (hl : ρ y = .int k (l : Int)) (hh : ρ z = .int k' (h : Int)) (h1 : l ≤ h) (h2 : h ≤ s.length) :
    (execOp ρ ⟨dst, .slice t x (some y) (some z) none, ty, pos, aft, g⟩).run P w = .ok (.value (.string (bs ((s.take h).drop l)))) w := by
  rw [← bs_extract]
  exact x_slice_strB l h ht hx (.inr ⟨k, by simp [hl]⟩) (.inr ⟨k', by simp [hh]⟩) h1 h2
theorem x_sliceL {t : TypeId} {x y : Operand} {s : Str} {k : IntKind} (l : Nat) (ht : P.underlying t = some .string) (hx : ρ x = .string (bs s)) (hl : ρ y = .int k (l : Int)) (h1 : l ≤ s.length) :
    (execOp ρ ⟨dst, .slice t x (some y) none none, ty, pos, aft, g⟩).run P w = .ok (.value (.string (bs (s.drop l)))) w := by
  have h := x_slice_strB (w := w) (dst := dst) (ty := ty) (pos := pos) (aft := aft) (g := g) (lo := some y) (hi := none) l s.length ht hx (.inr ⟨k, by simp [hl]⟩) (.inl ⟨rfl, rfl⟩) h1 (Nat.le_refl _)
  rwa [bs_extract, List.take_length] at h
theorem x_sliceH {t : TypeId} {x z : Operand} {s : Str} {k' : IntKind} (h : Nat) (ht : P.underlying t = some .string) (hx : ρ x = .string (bs s)) (hh : ρ z = .int k' (h : Int)) (h2 : h ≤ s.length) :
    (execOp ρ ⟨dst, .slice t x none (some z) none, ty, pos, aft, g⟩).run P w = .ok (.value (.string (bs (s.take h)))) w := by
  have h := x_slice_strB (w := w) (dst := dst) (ty := ty) (pos := pos) (aft := aft) (g := g) (lo := none) (hi := some z) 0 h ht hx (.inl ⟨rfl, rfl⟩) (.inr ⟨k', by simp [hh]⟩) (Nat.zero_le _) h2
  rwa [bs_extract, List.drop_zero] at h
theorem x_extract {x : Operand} {vs : Array Value} {i : Nat} {v : Value} (hx : ρ x = .tuple vs) (hv : vs[i]? = some v) : (execOp ρ ⟨dst, .extract x i, ty, pos, aft, g⟩).run P w = .ok (.value v) w := by
  simp [execOp, Instr.extract, hx, hv]
theorem x_makeFunc {fn : Fn} {first cap : Array Operand} {f' c' : Array Value} (h1 : first.map ρ = f') (h2 : cap.map ρ = c') :
    (execOp ρ ⟨dst, .makeFunc fn first cap, ty, pos, aft, g⟩).run P w = .ok (.value (.func fn f' c')) w := by
  simp [execOp, Instr.makeFunc, h1, h2]
def Enters (P : Program) (f : FuncId) : Prop := ∀ args w, (callFunc f args).run P w = .ok (.enter f args) w
theorem x_call0 {f : FuncId} {ats : Array TypeId} (hf : Enters P f) (he : ρ (.func f) = .func (.func f) #[] #[]) :
    (execOp ρ ⟨dst, .call ⟨.value (.func f), #[], ats⟩, ty, pos, aft, g⟩).run P w = .ok (.enter f #[]) w := by
  simp [execOp, resolve, Deferred.ofValue, he, invoke, hf #[] w]
theorem x_call1 {f : FuncId} {x1 : Operand} {ats : Array TypeId} {v1 : Value} (hf : Enters P f) (he : ρ (.func f) = .func (.func f) #[] #[]) (h1 : ρ x1 = v1) :
    (execOp ρ ⟨dst, .call ⟨.value (.func f), #[x1], ats⟩, ty, pos, aft, g⟩).run P w = .ok (.enter f #[v1]) w := by
  simp [execOp, resolve, Deferred.ofValue, he, h1, invoke, hf #[v1] w]
theorem x_call2 {f : FuncId} {x1 x2 : Operand} {ats : Array TypeId} {v1 v2 : Value} (hf : Enters P f) (he : ρ (.func f) = .func (.func f) #[] #[]) (h1 : ρ x1 = v1) (h2 : ρ x2 = v2) :
    (execOp ρ ⟨dst, .call ⟨.value (.func f), #[x1, x2], ats⟩, ty, pos, aft, g⟩).run P w = .ok (.enter f #[v1, v2]) w := by
  simp [execOp, resolve, Deferred.ofValue, he, h1, h2, invoke, hf #[v1, v2] w]
theorem x_call3 {f : FuncId} {x1 x2 x3 : Operand} {ats : Array TypeId} {v1 v2 v3 : Value} (hf : Enters P f) (he : ρ (.func f) = .func (.func f) #[] #[]) (h1 : ρ x1 = v1) (h2 : ρ x2 = v2) (h3 : ρ x3 = v3) :
    (execOp ρ ⟨dst, .call ⟨.value (.func f), #[x1, x2, x3], ats⟩, ty, pos, aft, g⟩).run P w = .ok (.enter f #[v1, v2, v3]) w := by
  simp [execOp, resolve, Deferred.ofValue, he, h1, h2, h3, invoke, hf #[v1, v2, v3] w]
theorem x_call4 {f : FuncId} {x1 x2 x3 x4 : Operand} {ats : Array TypeId} {v1 v2 v3 v4 : Value} (hf : Enters P f) (he : ρ (.func f) = .func (.func f) #[] #[]) (h1 : ρ x1 = v1) (h2 : ρ x2 = v2) (h3 : ρ x3 = v3) (h4 : ρ x4 = v4) :
    (execOp ρ ⟨dst, .call ⟨.value (.func f), #[x1, x2, x3, x4], ats⟩, ty, pos, aft, g⟩).run P w = .ok (.enter f #[v1, v2, v3, v4]) w := by
  simp [execOp, resolve, Deferred.ofValue, he, h1, h2, h3, h4, invoke, hf #[v1, v2, v3, v4] w]
theorem x_call5 {f : FuncId} {x1 x2 x3 x4 x5 : Operand} {ats : Array TypeId} {v1 v2 v3 v4 v5 : Value} (hf : Enters P f) (he : ρ (.func f) = .func (.func f) #[] #[]) (h1 : ρ x1 = v1) (h2 : ρ x2 = v2) (h3 : ρ x3 = v3) (h4 : ρ x4 = v4)
    (h5 : ρ x5 = v5) : (execOp ρ ⟨dst, .call ⟨.value (.func f), #[x1, x2, x3, x4, x5], ats⟩, ty, pos, aft, g⟩).run P w = .ok (.enter f #[v1, v2, v3, v4, v5]) w := by
  simp [execOp, resolve, Deferred.ofValue, he, h1, h2, h3, h4, h5, invoke, hf #[v1, v2, v3, v4, v5] w]
theorem x_callv0 {f : FuncId} {c : Operand} {ats : Array TypeId} {first cap : Array Value} {args : Array Value} (hc : ρ c = .func (.func f) first cap) (hf : Enters P f) (ha : first ++ #[] ++ cap = args) :
    (execOp ρ ⟨dst, .call ⟨.value c, #[], ats⟩, ty, pos, aft, g⟩).run P w = .ok (.enter f args) w := by
  subst ha
  simp [execOp, resolve, Deferred.ofValue, hc, invoke, hf _ w]
theorem x_callv1 {f : FuncId} {c x1 : Operand} {ats : Array TypeId} {first cap : Array Value} {v1 : Value} {args : Array Value} (hc : ρ c = .func (.func f) first cap) (hf : Enters P f) (h1 : ρ x1 = v1) (ha : first ++ #[v1] ++ cap = args) :
    (execOp ρ ⟨dst, .call ⟨.value c, #[x1], ats⟩, ty, pos, aft, g⟩).run P w = .ok (.enter f args) w := by
  subst ha
  simp [execOp, resolve, Deferred.ofValue, hc, h1, invoke, hf _ w]
theorem x_callv2 {f : FuncId} {c x1 x2 : Operand} {ats : Array TypeId} {first cap : Array Value} {v1 v2 : Value} {args : Array Value} (hc : ρ c = .func (.func f) first cap) (hf : Enters P f) (h1 : ρ x1 = v1) (h2 : ρ x2 = v2)
    (ha : first ++ #[v1, v2] ++ cap = args) : (execOp ρ ⟨dst, .call ⟨.value c, #[x1, x2], ats⟩, ty, pos, aft, g⟩).run P w = .ok (.enter f args) w := by
  subst ha
  simp [execOp, resolve, Deferred.ofValue, hc, h1, h2, invoke, hf _ w]
theorem x_callv3 {f : FuncId} {c x1 x2 x3 : Operand} {ats : Array TypeId} {first cap : Array Value} {v1 v2 v3 : Value} {args : Array Value} (hc : ρ c = .func (.func f) first cap) (hf : Enters P f) (h1 : ρ x1 = v1) (h2 : ρ x2 = v2) (h3 : ρ x3 = v3)
    (ha : first ++ #[v1, v2, v3] ++ cap = args) : (execOp ρ ⟨dst, .call ⟨.value c, #[x1, x2, x3], ats⟩, ty, pos, aft, g⟩).run P w = .ok (.enter f args) w := by
  subst ha
  simp [execOp, resolve, Deferred.ofValue, hc, h1, h2, h3, invoke, hf _ w]
end
end Go.Scarf
