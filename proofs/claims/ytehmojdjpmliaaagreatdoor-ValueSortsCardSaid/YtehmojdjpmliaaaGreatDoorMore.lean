/- A part of the proof. -/
import Derived.Laws.RangeAny
import Derived.Laws.RangeString
import Derived.KernelRfl
import Derived.Test.YtehmojdjpmliaaaGreatDoorTree
set_option linter.all false
namespace Go.Scarf
open Go.RowKit
section
variable {P : Program} {R : Exit → Act → World → Prop} {n : Nat} {k : Kt} {s : Nat → Value} {w : World} {ops rest : List Oper}
variable {d : Nat} {dst : Option Nat} {op : Op} {ty : TypeId} {pos : String} {aft : Array Edge} {g : Option (Nat × Bool)} {ρ : Operand → Value}
variable {w0 : World} {Ds : List Nat} {bs_ : List (Nat × Obj)} {C : World → Prop} {zs : List Nat} {order : Ord}
theorem split_slot {F : (Nat → Value) → Prop} {b : Bool} (hx : s d = .bool b) (ht : b = true → F (upd s d (.bool true))) (hf : b = false → F (upd s d (.bool false))) : F s := by
  cases b with
  | true => have := ht rfl; rwa [upd_self s d _ hx] at this
  | false => have := hf rfl; rwa [upd_self s d _ hx] at this
theorem o_split {b : Bool} (hx : s d = .bool b) (ht : b = true → Og P R n ops k rest (upd s d (.bool true)) w) (hf : b = false → Og P R n ops k rest (upd s d (.bool false)) w) : Og P R n ops k rest s w :=
  split_slot (F := fun s => Og P R n ops k rest s w) hx ht hf
theorem o_splitd {p : Prop} {_ : Decidable p} (hx : s d = .bool (decide p)) (ht : p → Og P R n ops k rest (upd s d (.bool true)) w) (hf : ¬ p → Og P R n ops k rest (upd s d (.bool false)) w) : Og P R n ops k rest s w :=
  o_split hx (fun h => ht (of_decide_eq_true h)) (fun h => hf (of_decide_eq_false h))
theorem c_split {c : Code} {b : Bool} (hx : s d = .bool b) (ht : b = true → Cg P R n c k (upd s d (.bool true)) w) (hf : b = false → Cg P R n c k (upd s d (.bool false)) w) : Cg P R n c k s w :=
  split_slot (F := fun s => Cg P R n c k s w) hx ht hf
theorem c_splitd {c : Code} {p : Prop} {_ : Decidable p} (hx : s d = .bool (decide p)) (ht : p → Cg P R n c k (upd s d (.bool true)) w) (hf : ¬ p → Cg P R n c k (upd s d (.bool false)) w) : Cg P R n c k s w :=
  c_split hx (fun h => ht (of_decide_eq_true h)) (fun h => hf (of_decide_eq_false h))
theorem d_split {b : Bool} (hx : s d = .bool b) (ht : b = true → Dg P R n ops k zs order C (upd s d (.bool true)) w) (hf : b = false → Dg P R n ops k zs order C (upd s d (.bool false)) w) : Dg P R n ops k zs order C s w :=
  split_slot (F := fun s => Dg P R n ops k zs order C s w) hx ht hf
theorem d_splitd {p : Prop} {_ : Decidable p} (hx : s d = .bool (decide p)) (ht : p → Dg P R n ops k zs order C (upd s d (.bool true)) w) (hf : ¬ p → Dg P R n ops k zs order C (upd s d (.bool false)) w) : Dg P R n ops k zs order C s w :=
  d_split hx (fun h => ht (of_decide_eq_true h)) (fun h => hf (of_decide_eq_false h))
theorem run_loadVarS {t : TypeId} {a : Addr} {l : List Value} {m : Nat} (ha : ∀ w, (isAgg t).run P w = .ok true w) (hs : ∀ w, (sizeOf t).run P w = .ok m w) (hm : l.length = m)
    (hc : ∀ j (h : j < l.length), w.cell? (a.add j) = some l[j]) : (loadVar t a).run P w = .ok (.agg l.toArray) w := by
  simp [loadVar, ha, hs, run_loadCells a w l hm hc]
variable {fn : Func}
theorem res_c {t T : Nat} {a : Addr} {l : List Value} {m : Nat} (h : fn.results = #[.cell t T]) (hx : ev n s (.tmp t) = .pointer (some a)) (ha : ∀ w, (isAgg T).run P w = .ok true w) (hs : ∀ w, (sizeOf T).run P w = .ok m w) (hm : l.length = m)
    (hc : ∀ j (h : j < l.length), w.cell? (a.add j) = some l[j]) : (results fn (mkA n s).tmps).run P w = .ok (.agg l.toArray) w := by
  have h1 := mkA_getD n s t
  rw [hx, Array.getD_eq_getD_getElem?] at h1
  simp [results, h, h1, asAddr, run_loadVarS ha hs hm hc]
theorem res_ct {t T u : Nat} {a : Addr} {l : List Value} {m : Nat} {v : Value} (h : fn.results = #[.cell t T, .tmp u]) (hx : ev n s (.tmp t) = .pointer (some a)) (ha : ∀ w, (isAgg T).run P w = .ok true w) (hs : ∀ w, (sizeOf T).run P w = .ok m w) (hm : l.length = m)
    (hc : ∀ j (h : j < l.length), w.cell? (a.add j) = some l[j]) (hv : ev n s (.tmp u) = v) : (results fn (mkA n s).tmps).run P w = .ok (.tuple #[.agg l.toArray, v]) w := by
  have h1 := mkA_getD n s t
  have h2 := mkA_getD n s u
  rw [hx, Array.getD_eq_getD_getElem?] at h1
  rw [hv, Array.getD_eq_getD_getElem?] at h2
  simp [results, h, h1, h2, asAddr, run_loadVarS ha hs hm hc]
theorem run_eqGuard_bool {op : BinOp} {t : TypeId} {x y : Operand} {a b : Bool} : (eqGuard op t x y (.bool a) (.bool b)).run P w = .ok () w := by
  unfold eqGuard; split <;> simp
theorem run_equal_bool {t : TypeId} {a b : Bool} (ht : P.underlying t = some .bool) : (Op.equal t (.bool a) (.bool b)).run P w = .ok (a == b) w := run_equalIn_bool w 9999 t a b ht
theorem x_eqlb {t t' : TypeId} {x y : Operand} {a b : Bool} (ht : P.underlying t = some .bool) (hx : ρ x = .bool a) (hy : ρ y = .bool b) :
    (execOp ρ ⟨dst, .binOp .eql t x y t', ty, pos, aft, g⟩).run P w = .ok (.value (.bool (a == b))) w := by
  have h := run_equal_bool (w := w) (a := a) (b := b) ht
  have hg := run_eqGuard_bool (P := P) (w := w) (op := .eql) (t := t) (x := x) (y := y) (a := a) (b := b)
  simp only [execOp, hx, hy, binOp, Sem.run_bind, hg, Result.andThen_ok, h, Sem.run_pure]
theorem x_neqb {t t' : TypeId} {x y : Operand} {a b : Bool} (ht : P.underlying t = some .bool) (hx : ρ x = .bool a) (hy : ρ y = .bool b) :
    (execOp ρ ⟨dst, .binOp .neq t x y t', ty, pos, aft, g⟩).run P w = .ok (.value (.bool (a != b))) w := by
  have h := run_equal_bool (w := w) (a := a) (b := b) ht
  have hg := run_eqGuard_bool (P := P) (w := w) (op := .neq) (t := t) (x := x) (y := y) (a := a) (b := b)
  simp only [execOp, hx, hy, binOp, Sem.run_bind, hg, Result.andThen_ok, h, Sem.run_pure]
  rfl
theorem x_gtrs {t t' : TypeId} {x y : Operand} {a b : Str} (hx : ρ x = .string (bs a)) (hy : ρ y = .string (bs b)) :
    (execOp ρ ⟨dst, .binOp .gtr t x y t', ty, pos, aft, g⟩).run P w = .ok (.value (.bool (!(strLt a b || decide (a = b))))) w := by
  have h1 : Op.bytesLess (bs a).toList (bs b).toList = strLt a b := by rw [bs_toList, bs_toList]
  have h2 := bs_beq a b
  generalize bs a = u at *
  generalize bs b = v at *
  simp [execOp, hx, hy, run_eqGuard_str, binOp, Op.stringOp, h1, h2]
theorem o_rangeS {t : TypeId} {x : Operand} {str : Str} (hF : FR w0 Ds bs_ w) (ht : P.underlying t = some .string) (hx : ev n s x = .string (bs str))
    (h : ∀ b w', b = w.heap.size → FR w0 Ds ((b, .stringIter (bs str) 0) :: bs_) w' → Same [] w w' → Og P R n ops k rest (upd s d (.pointer (some ⟨b, 0, none⟩))) w')
    (hw : wantedB ops n s ⟨some d, .range t x, ty, pos, aft, g⟩ = true := by rfl) : Og P R n ops k (⟨some d, .range t x, ty, pos, aft, g⟩ :: rest) s w := by
  refine o_val (w' := w.alloc (.stringIter (bs str) 0)) ?_ (h _ _ rfl (hF.alloc _) (Same.alloc w _)) hw
  have hu : ∀ w, (underlying t).run P w = .ok .string w := run_underlying ht
  simp [execOp, Instr.range, hu, hx, newObj, Sem.run]
theorem run_setObj_iter {b : Nat} {a : ByteArray} {p q : Nat} (h : w.heap[b]? = some (.stringIter a p)) : (setObj b (.stringIter a q)).run P w = .ok () { w with heap := w.heap.setIfInBounds b (.stringIter a q) } := by
  simp [setObj, Sem.run, h]
theorem run_getObj_iter {b : Nat} {a : ByteArray} {p : Nat} (h : w.heap[b]? = some (.stringIter a p)) : (getObj b).run P w = .ok (.stringIter a p) w := by
  simp [getObj, Sem.run, h]
theorem set_same (w : World) (b : Nat) (o : Obj) : Same [b] w { w with heap := w.heap.setIfInBounds b o } :=
  ⟨rfl, rfl, rfl, by simp, fun c _ hn => by
    show (w.heap.setIfInBounds b o)[c]? = _
    rw [Array.getElem?_setIfInBounds_ne]
    simp at hn; omega⟩
theorem o_nextS (i : Nat) {x : Operand} {b p : Nat} {str : Str} (hF : FR w0 Ds bs_ w) (hx : ev n s x = .pointer (some ⟨b, 0, none⟩)) (hi : bs_[i]? = some (b, .stringIter (bs str) p)) (hp : p < str.length)
    (h : ∀ w', FR w0 Ds (bs_.set i (b, .stringIter (bs str) (p + (Utf8.decode (bs str) p).2))) w' → Same [b] w w' →
      Og P R n ops k rest (upd s d (.tuple #[.bool true, .int .i64 (p : Int), .int .i32 ((Utf8.decode (bs str) p).1 : Int)])) w')
    (hw : wantedB ops n s ⟨some d, .next x true, ty, pos, aft, g⟩ = true := by rfl) : Og P R n ops k (⟨some d, .next x true, ty, pos, aft, g⟩ :: rest) s w := by
  have hh := hF.heap hi
  refine o_val (w' := { w with heap := w.heap.setIfInBounds b (.stringIter (bs str) (p + (Utf8.decode (bs str) p).2)) }) ?_ (h _ (hF.change i hi (set_same w b _) ?_) (set_same w b _)) hw
  · have hp' : p < (bs str).size := hp
    generalize bs str = u at *
    simp [execOp, Instr.next, hx, run_getObj_iter hh, hp', run_setObj_iter hh, goInt]
  · have := lt_of_some hh
    simp [this]
theorem o_nextSend (i : Nat) {x : Operand} {b p : Nat} {str : Str} (hF : FR w0 Ds bs_ w) (hx : ev n s x = .pointer (some ⟨b, 0, none⟩)) (hi : bs_[i]? = some (b, .stringIter (bs str) p)) (hp : ¬ p < str.length)
    (h : Og P R n ops k rest (upd s d (.tuple #[.bool false])) w)
    (hw : wantedB ops n s ⟨some d, .next x true, ty, pos, aft, g⟩ = true := by rfl) : Og P R n ops k (⟨some d, .next x true, ty, pos, aft, g⟩ :: rest) s w := by
  have hh := hF.heap hi
  refine o_val ?_ h hw
  have hp' : ¬ p < (bs str).size := hp
  generalize bs str = u at *
  simp [execOp, Instr.next, hx, run_getObj_iter hh, hp']
end
section
variable {P : Program} {f : FuncId} {args : Array Value} {w : World} {v : Value}
theorem ret_same (h : Calls P f args w fun e w' => e = .returned v ∧ w' = w) : Calls P f args w (Ret fun u w' => u = v ∧ Same [] w w') :=
  h.mono fun _ _ ⟨he, hw⟩ => ⟨v, he, rfl, by subst hw; exact .refl _ _⟩
theorem ret_below (h : Calls P f args w fun e w' => e = .returned v ∧ Below w.heap.size w w') : Calls P f args w (Ret fun u w' => u = v ∧ Same [] w w') :=
  h.mono fun _ _ ⟨he, hw⟩ => ⟨v, he, rfl, .of_below hw⟩
theorem ret_eq {v' : Value} (h : Calls P f args w (Ret fun u w' => u = v ∧ Same [] w w')) (e : v = v') : Calls P f args w (Ret fun u w' => u = v' ∧ Same [] w w') := e ▸ h
theorem ret_mono {Q Q' : Value → World → Prop} (h : Calls P f args w (Ret Q)) (hq : ∀ v w', Q v w' → Q' v w') : Calls P f args w (Ret Q') :=
  h.mono fun _ _ ⟨v, he, hh⟩ => ⟨v, he, hq v _ hh⟩
end
section
variable {P : Program} {R : Exit → Act → World → Prop} {n : Nat} {k : Kt} {s : Nat → Value} {w : World} {ops : List Oper} {zs : List Nat}
variable {C : World → Prop} {rest : Ord} {i d : Nat} {op : Op} {ty : TypeId} {pos : String} {aft : Array Edge} {g : Option (Nat × Bool)}
variable {w0 : World} {Ds : List Nat} {bs_ bs' : List (Nat × Obj)}
theorem FR.sub (h : FR w0 Ds bs_ w) (hs : bs'.Sublist bs_) : FR w0 Ds bs' w := ⟨h.same, fun p hp => h.own p (hs.subset hp), h.desc.sublist hs⟩
theorem d_call {f : FuncId} {args : Array Value} {w' : World} {Q : Value → World → Prop} (hc : Calls P f args w' (Ret Q)) (hrun : (execOp (ev n s) ⟨some d, op, ty, pos, aft, g⟩).run P w = .ok (.enter f args) w')
    (h : ∀ v w'', Q v w'' → C w'' ∧ Dg P R n ops k zs rest C (upd s d v) w'')
    (hi : ops[i]? = some ⟨some d, op, ty, pos, aft, g⟩ := by rfl) (hw : wantedB ops n s ⟨some d, op, ty, pos, aft, g⟩ = true := by rfl) (hz : zs.contains i = false := by rfl) : Dg P R n ops k zs (.act i rest) C s w :=
  d_enter hrun hc (fun v w'' hq => ⟨C, fun _ h => h, (h v w'' hq).1, (h v w'' hq).2⟩) hi hw hz
theorem d_act {v : Value} {w' : World} (hrun : (execOp (ev n s) ⟨some d, op, ty, pos, aft, g⟩).run P w = .ok (.value v) w') (hC : C w') (h : Dg P R n ops k zs rest C (upd s d v) w')
    (hi : ops[i]? = some ⟨some d, op, ty, pos, aft, g⟩ := by rfl) (hw : wantedB ops n s ⟨some d, op, ty, pos, aft, g⟩ = true := by rfl) (hz : zs.contains i = false := by rfl) : Dg P R n ops k zs (.act i rest) C s w :=
  d_val C (fun _ h => h) hrun hC h hi hw hz
theorem store_run {t : TypeId} {x y : Operand} {v : Value} {l : List Value} {b off ii : Nat} {cs cs' : Array Value} {T : TypeId} {dst : Option Nat} (hF : FR w0 Ds bs_ w) (hs : ∀ w, (sizeOf t).run P w = .ok l.length w)
    (hx : ev n s x = .pointer (some ⟨b, off, none⟩)) (hy : ev n s y = v) (hl : v.cells = l.toArray) (hv : ∀ v ∈ l, one v = true) (hi : bs_[ii]? = some (b, .cells cs T)) (hsz : off + l.length ≤ cs.size) (hcs : putA cs off l = cs') :
    ∃ w', (execOp (ev n s) ⟨dst, .store t x y, ty, pos, aft, g⟩).run P w = .ok .skip w' ∧ FR w0 Ds (bs_.set ii (b, .cells cs' T)) w' ∧ Same [b] w w' := by
  have hh := hF.heap hi
  have hsp := putCells_spec b off (fz := (0, 0)) l 0 w cs hh
  refine ⟨_, x_store hs hx hy hl hv fun j hj => ?_, ?_, hsp.2⟩
  · have e : (⟨b, off, none⟩ : Addr).add j = ⟨b, off + j, none⟩ := by unfold Addr.add; split <;> simp_all
    rw [e, cell_of_heap hh]
    exact ⟨⟨cs[off + j]'(by omega), by simp⟩, frozen_of_heap hh _⟩
  · subst hcs
    exact hF.change ii hi hsp.2 (by simpa using hsp.1)
theorem d_storez (ii : Nat) {t : TypeId} {x y : Operand} {v : Value} {l : List Value} {b off : Nat} {cs cs' : Array Value} {T : TypeId} (hF : FR w0 Ds bs_ w) (hs : ∀ w, (sizeOf t).run P w = .ok l.length w)
    (hx : ev n s x = .pointer (some ⟨b, off, none⟩)) (hy : ev n s y = v) (hl : v.cells = l.toArray) (hv : ∀ v ∈ l, one v = true) (hbi : bs_[ii]? = some (b, .cells cs T)) (hsz : off + l.length ≤ cs.size) (hcs : putA cs off l = cs')
    (h : ∀ w', FR w0 Ds (bs_.set ii (b, .cells cs' T)) w' → Same [b] w w' → Dg P R n ops k zs rest (fun _ => True) s w')
    (hi : ops[i]? = some ⟨none, .store t x y, ty, pos, aft, g⟩ := by rfl) (hw : wantedB ops n s ⟨none, .store t x y, ty, pos, aft, g⟩ = true := by rfl) (hz : zs.contains i = true := by rfl) :
    Dg P R n ops k zs (.act i rest) C s w := by
  obtain ⟨w', h1, h2, h3⟩ := store_run (dst := none) (ty := ty) (pos := pos) (aft := aft) (g := g) hF hs hx hy hl hv hbi hsz hcs
  exact d_unitz h1 (h w' h2 h3) hi hw hz
theorem d_store (ii : Nat) {t : TypeId} {x y : Operand} {v : Value} {l : List Value} {b off : Nat} {cs cs' : Array Value} {T : TypeId} (hF : FR w0 Ds bs_ w) (hs : ∀ w, (sizeOf t).run P w = .ok l.length w)
    (hx : ev n s x = .pointer (some ⟨b, off, none⟩)) (hy : ev n s y = v) (hl : v.cells = l.toArray) (hv : ∀ v ∈ l, one v = true) (hbi : bs_[ii]? = some (b, .cells cs T)) (hsz : off + l.length ≤ cs.size) (hcs : putA cs off l = cs')
    (h : ∀ w', FR w0 Ds (bs_.set ii (b, .cells cs' T)) w' → Same [b] w w' → C w' ∧ Dg P R n ops k zs rest C s w')
    (hi : ops[i]? = some ⟨none, .store t x y, ty, pos, aft, g⟩ := by rfl) (hw : wantedB ops n s ⟨none, .store t x y, ty, pos, aft, g⟩ = true := by rfl) (hz : zs.contains i = false := by rfl) :
    Dg P R n ops k zs (.act i rest) C s w := by
  obtain ⟨w', h1, h2, h3⟩ := store_run (dst := none) (ty := ty) (pos := pos) (aft := aft) (g := g) hF hs hx hy hl hv hbi hsz hcs
  unfold Dg Dw DwA
  rw [hi]
  simp only [hw, if_true, h1]
  unfold Dk
  rw [hz]
  have h4 := (h w' h2 h3).2
  unfold Dg at h4
  exact ⟨C, fun _ h => h, (h w' h2 h3).1, h4⟩
theorem d_skipC (h : Dg P R n ops k zs rest C (upd s d undef) w) (hC : C w) (hi : ops[i]? = some ⟨some d, op, ty, pos, aft, g⟩ := by rfl) (hw : wantedB ops n s ⟨some d, op, ty, pos, aft, g⟩ = false := by rfl) (hz : zs.contains i = false := by rfl) :
    Dg P R n ops k zs (.act i rest) C s w := d_skip h hC hi hw hz
end
section
variable {P : Program} {R : Exit → Act → World → Prop} {n : Nat} {k : Kt} {s : Nat → Value} {w : World} {ops : List Oper} {zs : List Nat}
variable {C : World → Prop} {rest : Ord} {i d : Nat} {op : Op} {ty : TypeId} {pos : String} {aft : Array Edge} {g : Option (Nat × Bool)}
variable {w0 : World} {Ds : List Nat} {bs_ bs' : List (Nat × Obj)}
theorem f_free {v : Value} (hi : ops[i]? = some ⟨some d, op, ty, pos, aft, g⟩) (hrun : ∀ w, C w → (execOp (ev n s) ⟨some d, op, ty, pos, aft, g⟩).run P w = .ok (.value v) w) (h : Dg P R n ops k zs rest C (upd s d v) w) (hw : wantedB ops n s ⟨some d, op, ty, pos, aft, g⟩ = true := by rfl) :
    Dg P R n ops k zs (.free i rest) C s w := d_free hrun h hi hw
theorem f_off (hi : ops[i]? = some ⟨some d, op, ty, pos, aft, g⟩) (h : Dg P R n ops k zs rest C (upd s d undef) w) (hw : wantedB ops n s ⟨some d, op, ty, pos, aft, g⟩ = false := by rfl) : Dg P R n ops k zs (.free i rest) C s w := d_off h hi hw
theorem f_skip (hi : ops[i]? = some ⟨some d, op, ty, pos, aft, g⟩) (h : Dg P R n ops k zs rest C (upd s d undef) w) (hC : C w) (hw : wantedB ops n s ⟨some d, op, ty, pos, aft, g⟩ = false := by rfl) (hz : zs.contains i = false := by rfl) : Dg P R n ops k zs (.act i rest) C s w := d_skip h hC hi hw hz
theorem f_call {f : FuncId} {args : Array Value} {w' : World} {Q : Value → World → Prop} (hi : ops[i]? = some ⟨some d, op, ty, pos, aft, g⟩) (hc : Calls P f args w' (Ret Q)) (hrun : (execOp (ev n s) ⟨some d, op, ty, pos, aft, g⟩).run P w = .ok (.enter f args) w')
    (h : ∀ v w'', Q v w'' → C w'' ∧ Dg P R n ops k zs rest C (upd s d v) w'') (hw : wantedB ops n s ⟨some d, op, ty, pos, aft, g⟩ = true := by rfl) (hz : zs.contains i = false := by rfl) : Dg P R n ops k zs (.act i rest) C s w := d_call hc hrun h hi hw hz
theorem f_act {v : Value} {w' : World} (hi : ops[i]? = some ⟨some d, op, ty, pos, aft, g⟩) (hrun : (execOp (ev n s) ⟨some d, op, ty, pos, aft, g⟩).run P w = .ok (.value v) w') (hC : C w') (h : Dg P R n ops k zs rest C (upd s d v) w') (hw : wantedB ops n s ⟨some d, op, ty, pos, aft, g⟩ = true := by rfl) (hz : zs.contains i = false := by rfl) :
    Dg P R n ops k zs (.act i rest) C s w := d_act hrun hC h hi hw hz
theorem f_storez {t : TypeId} {x y : Operand} {v : Value} {l : List Value} {b off : Nat} {cs cs' : Array Value} {T : TypeId} (hi : ops[i]? = some ⟨none, .store t x y, ty, pos, aft, g⟩) (ii : Nat) (hF : FR w0 Ds bs_ w) (hs : ∀ w, (sizeOf t).run P w = .ok l.length w)
    (hx : ev n s x = .pointer (some ⟨b, off, none⟩)) (hy : ev n s y = v) (hl : v.cells = l.toArray) (hv : ∀ v ∈ l, one v = true) (hbi : bs_[ii]? = some (b, .cells cs T)) (hsz : off + l.length ≤ cs.size) (hcs : putA cs off l = cs')
    (h : ∀ w', FR w0 Ds (bs_.set ii (b, .cells cs' T)) w' → Same [b] w w' → Dg P R n ops k zs rest (fun _ => True) s w') (hw : wantedB ops n s ⟨none, .store t x y, ty, pos, aft, g⟩ = true := by rfl) (hz : zs.contains i = true := by rfl) :
    Dg P R n ops k zs (.act i rest) C s w := d_storez ii hF hs hx hy hl hv hbi hsz hcs h hi hw hz
theorem f_store {t : TypeId} {x y : Operand} {v : Value} {l : List Value} {b off : Nat} {cs cs' : Array Value} {T : TypeId} (hi : ops[i]? = some ⟨none, .store t x y, ty, pos, aft, g⟩) (ii : Nat) (hF : FR w0 Ds bs_ w) (hs : ∀ w, (sizeOf t).run P w = .ok l.length w)
    (hx : ev n s x = .pointer (some ⟨b, off, none⟩)) (hy : ev n s y = v) (hl : v.cells = l.toArray) (hv : ∀ v ∈ l, one v = true) (hbi : bs_[ii]? = some (b, .cells cs T)) (hsz : off + l.length ≤ cs.size) (hcs : putA cs off l = cs')
    (h : ∀ w', FR w0 Ds (bs_.set ii (b, .cells cs' T)) w' → Same [b] w w' → C w' ∧ Dg P R n ops k zs rest C s w') (hw : wantedB ops n s ⟨none, .store t x y, ty, pos, aft, g⟩ = true := by rfl) (hz : zs.contains i = false := by rfl) :
    Dg P R n ops k zs (.act i rest) C s w := d_store ii hF hs hx hy hl hv hbi hsz hcs h hi hw hz
end
end Go.Scarf
