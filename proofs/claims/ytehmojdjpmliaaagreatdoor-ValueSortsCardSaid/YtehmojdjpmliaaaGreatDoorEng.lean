/- A part of the proof. -/
import Derived.Tactics
import Derived.Orders
import Derived.Deep.Quiet
import Derived.Test.YtehmojdjpmliaaaGreatDoorMem
set_option linter.all false
namespace Go.Scarf
open Go.RowKit
def upd (s : Nat → Value) (d : Nat) (v : Value) : Nat → Value := fun i => bif Nat.beq i d then v else s i
def updO (s : Nat → Value) : Option Nat → Value → Nat → Value
  | some d, v => upd s d v
  | none, _ => s
def ev (n : Nat) (s : Nat → Value) : Operand → Value
  | .tmp t => bif Nat.blt t n then s t else undef
  | .const v => v
  | .global g => .pointer (some ⟨g, 0, none⟩)
  | .func f => .func (.func f) #[] #[]
def mkA (n : Nat) (s : Nat → Value) : Act := ⟨Array.ofFn (n := n) fun i => s i.val, []⟩
def upds (s : Nat → Value) : List (Nat × Value) → Nat → Value
  | [] => s
  | (d, v) :: l => upd (upds s l) d v
def AllEq (s : Nat → Value) : List (Nat × Value) → Prop
  | [] => True
  | (d, v) :: l => s d = v ∧ AllEq s l
theorem upd_self (s : Nat → Value) (d : Nat) (v : Value) (h : s d = v) : upd s d v = s := by
  funext i
  simp only [upd]
  cases hi : Nat.beq i d with
  | true => rw [Nat.eq_of_beq_eq_true hi]; simp [h]
  | false => rfl
theorem AllEq.eq {s : Nat → Value} : ∀ {l : List (Nat × Value)}, AllEq s l → s = upds s l
  | [], _ => rfl
  | (d, v) :: l, h => by
    show s = upd (upds s l) d v
    rw [← AllEq.eq h.2, upd_self s d v h.1]
theorem mkA_getD (n : Nat) (s : Nat → Value) (t : Nat) : (mkA n s).tmps.getD t undef = ev n s (.tmp t) := by
  simp only [mkA, ev]
  rw [Array.getD_eq_getD_getElem?, Array.getElem?_ofFn]
  by_cases h : t < n
  · have ht : Nat.blt t n = true := by rw [Nat.blt_eq]; exact h
    simp [h, ht]
  · have : Nat.blt t n = false := by rw [Bool.eq_false_iff, ne_eq, Nat.blt_eq]; exact h
    simp [h, this]
theorem mkA_eval (n : Nat) (s : Nat → Value) : (mkA n s).eval = ev n s := by
  funext x
  cases x with
  | tmp t => exact mkA_getD n s t
  | const v => rfl
  | global g => rfl
  | func f => rfl
theorem mkA_put (n : Nat) (s : Nat → Value) (d : Option Nat) (v : Value) : (mkA n s).put d v = mkA n (updO s d v) := by
  cases d with
  | none => rfl
  | some d =>
    simp only [Act.put, mkA, updO, Act.mk.injEq, and_true]
    ext i h1 h2
    · simp
    · simp only [Array.size_setIfInBounds, Array.size_ofFn] at h1
      rw [Array.getElem_setIfInBounds, Array.getElem_ofFn]
      · simp only [Array.getElem_ofFn, upd]
        by_cases hd : d = i
        · subst hd; simp
        · have : Nat.beq i d = false := by
            rw [Bool.eq_false_iff]; intro hh; exact hd (Nat.eq_of_beq_eq_true hh).symm
          simp [hd, this]
      · simpa using h1
theorem mkA_args (n : Nat) (args : Array Value) (h : args.size ≤ n) :
    ({ tmps := args ++ Array.replicate (n - args.size) undef, defers := [] } : Act) = mkA n (fun i => args.getD i undef) := by
  simp only [mkA, Act.mk.injEq, and_true]
  ext i h1 h2
  · simp; omega
  · simp only [Array.size_append, Array.size_replicate] at h1
    rw [Array.getElem_append, Array.getElem_ofFn]
    split
    · simp [*]
    · simp [*]
inductive Kt where
  | done
  | seq (y : Code) (k : Kt)
  | block (id : Nat) (k : Kt)
  | inv (n : Nat) (I : (Nat → Value) → World → Prop) (k : Kt)
def Kt.post (P : Program) (R : Exit → Act → World → Prop) : Kt → Exit → Act → World → Prop
  | .done => R
  | .seq y k => Exit.then (y.wp P (Kt.post P R k)) (Kt.post P R k)
  | .block id k => Exit.inBlock id (Kt.post P R k)
  | .inv n I k => Exit.then (fun a w => ∃ s, a = mkA n s ∧ I s w) (Kt.post P R k)
def Kt.out (id : Nat) : Kt → Option Kt
  | .done => none
  | .seq _ k => k.out id
  | .block id' k => if id' = id then some k else k.out id
  | .inv _ _ k => k.out id
section
variable (P : Program) (R : Exit → Act → World → Prop) (n : Nat)
def Cg (c : Code) (k : Kt) (s : Nat → Value) (w : World) : Prop := c.wp P (k.post P R) (mkA n s) w
def Eg (e : Exit) (k : Kt) (s : Nat → Value) (w : World) : Prop := k.post P R e (mkA n s) w
def Og (ops : List Oper) (k : Kt) (rest : List Oper) (s : Nat → Value) (w : World) : Prop := wpList P ops.toArray (k.post P R) rest (mkA n s) w
end
section
variable {P : Program} {R : Exit → Act → World → Prop} {n : Nat} {k : Kt} {s : Nat → Value} {w : World}
theorem c_seq {x y : Code} (h : Cg P R n x (.seq y k) s w) : Cg P R n (.seq x y) k s w := wp_seq h
theorem c_block {id : Nat} {c : Code} (h : Cg P R n c (.block id k) s w) : Cg P R n (.block id c) k s w := wp_block h
theorem c_skip (h : Eg P R n .normal k s w) : Cg P R n .skip k s w := wp_skip h
theorem c_ret (h : Eg P R n .ret k s w) : Cg P R n .ret k s w := wp_ret h
theorem c_exit {id : Nat} (h : Eg P R n (.exit id) k s w) : Cg P R n (.exit id) k s w := wp_exit h
theorem c_label {l : Nat} (h : Eg P R n .normal k s w) : Cg P R n (.label l) k s w := wp_label h
theorem c_region {id : Nat} {l : List Oper} (h : Og P R n l k l s w) : Cg P R n (.region id l.toArray false) k s w := wp_region_lit h
theorem c_if {c : Operand} {x y : Code} {p : Prop} {_ : Decidable p} (hc : ev n s c = .bool (decide p)) (ht : p → Cg P R n x k s w) (hf : ¬ p → Cg P R n y k s w) :
    Cg P R n (.cond c x y) k s w :=
  wp_cond_split (t := decide p) (by rw [mkA_eval]; exact hc) (fun h => ht (of_decide_eq_true h)) (fun h => hf (of_decide_eq_false h))
theorem c_ifb {c : Operand} {x y : Code} {b : Bool} (hc : ev n s c = .bool b) (ht : b = true → Cg P R n x k s w) (hf : b = false → Cg P R n y k s w) :
    Cg P R n (.cond c x y) k s w := wp_cond_split (t := b) (by rw [mkA_eval]; exact hc) ht hf
theorem c_ift {c : Operand} {x y : Code} (hc : ev n s c = .bool true) (h : Cg P R n x k s w) : Cg P R n (.cond c x y) k s w :=
  wp_cond_true (by rw [mkA_eval]; exact hc) h
theorem c_iff {c : Operand} {x y : Code} (hc : ev n s c = .bool false) (h : Cg P R n y k s w) : Cg P R n (.cond c x y) k s w :=
  wp_cond_false (by rw [mkA_eval]; exact hc) h
theorem e_seq {y : Code} (h : Cg P R n y k s w) : Eg P R n .normal (.seq y k) s w := h
theorem e_block {id : Nat} (h : Eg P R n .normal k s w) : Eg P R n .normal (.block id k) s w := h
theorem e_inv {I : (Nat → Value) → World → Prop} (h : I s w) : Eg P R n .normal (.inv n I k) s w := ⟨s, rfl, h⟩
theorem e_done (h : R .normal (mkA n s) w) : Eg P R n .normal .done s w := h
theorem e_ret : ∀ {k : Kt}, R .ret (mkA n s) w → Eg P R n .ret k s w
  | .done, h => h
  | .seq _ k, h => e_ret (k := k) h
  | .block _ k, h => e_ret (k := k) h
  | .inv _ _ k, h => e_ret (k := k) h
theorem e_exit {id : Nat} : ∀ {k k' : Kt}, k.out id = some k' → Eg P R n .normal k' s w → Eg P R n (.exit id) k s w
  | .done, _, h, _ => by cases h
  | .seq _ k, _, h, g => e_exit (k := k) h g
  | .block id' k, k', h, g => by
    simp only [Kt.out] at h
    show (if id = id' then k.post P R .normal (mkA n s) w else k.post P R (.exit id) (mkA n s) w)
    by_cases hid : id' = id
    · rw [if_pos hid] at h; rw [if_pos hid.symm]
      cases h; exact g
    · rw [if_neg hid] at h; rw [if_neg (fun e => hid e.symm)]
      exact e_exit (k := k) h g
  | .inv _ _ k, _, h, g => e_exit (k := k) h g
theorem c_loop {c : Code} (I : Nat → (Nat → Value) → World → Prop) (m : Nat) (h0 : I m s w)
    (round : ∀ m s w, I m s w → Cg P R n c (.inv n (fun s' w' => ∃ m', m' < m ∧ I m' s' w') k) s w) : Cg P R n (.loop c) k s w := by
  intro b kk cs
  have key : ∀ m s w, I m s w → ∃ e a' w', k.post P R e a' w' ∧ Arrives P (lone (b.at (mkA n s) (.code c :: .inLoop c :: kk)) cs w) b kk cs e a' w' := by
    intro m
    induction m using Nat.strongRecOn with
    | _ m ih =>
      intro s w hI
      obtain ⟨e, a₁, w₁, hq, harr⟩ := round m s w hI b (.inLoop c :: kk) cs
      cases e with
      | normal =>
        obtain ⟨s₁, rfl, m', hlt, hI₁⟩ := hq
        obtain ⟨e₂, a₂, w₂, hq₂, harr₂⟩ := ih m' hlt s₁ w₁ hI₁
        exact ⟨e₂, a₂, w₂, hq₂, .of_steps (Steps.trans harr (.one step_inLoop)) harr₂⟩
      | exit id => exact ⟨_, a₁, w₁, hq, .pass (x := .inLoop c) rfl (fun _ _ => .inl (by simp)) harr⟩
      | goto l => exact ⟨_, a₁, w₁, hq, .pass (x := .inLoop c) rfl (fun _ _ => .inl (by simp)) harr⟩
      | ret => exact ⟨_, a₁, w₁, hq, .pass (x := .inLoop c) rfl (fun _ _ => .inl (by simp)) harr⟩
      | panic ch => exact ⟨_, a₁, w₁, hq, .pass (x := .inLoop c) rfl (fun _ _ => .inl (by simp)) harr⟩
      | outgrown => exact ⟨_, a₁, w₁, hq, .pass (x := .inLoop c) rfl (fun _ _ => .inl (by simp)) harr⟩
  obtain ⟨e, a', w', hq, harr⟩ := key m s w h0
  exact ⟨e, a', w', hq, .of_steps (.one step_loop) harr⟩
theorem c_join {c : Code} (I : (Nat → Value) → World → Prop) (h : Cg P R n c (.inv n I k) s w) (hk : ∀ s w, I s w → Eg P R n .normal k s w) : Cg P R n c k s w := by
  refine Code.wp_mono (fun e a w q => ?_) h
  cases e with
  | normal => obtain ⟨s', rfl, hI⟩ := q; exact hk s' w hI
  | exit id => exact q
  | goto l => exact q
  | ret => exact q
  | panic ch => exact q
  | outgrown => exact q
def wantedB (ops : List Oper) (n : Nat) (s : Nat → Value) (o : Oper) : Bool :=
  match o.guard with
  | none => true
  | some (j, want) =>
    match (ops[j]?).bind (·.dst) with
    | some d => match ev n s (.tmp d) with
      | .bool b => b == want
      | _ => false
    | none => false
theorem wanted_eq (ops : List Oper) (n : Nat) (s : Nat → Value) (o : Oper) : Region.wanted o (yielded ops.toArray (mkA n s).tmps) = wantedB ops n s o := by
  unfold Region.wanted wantedB
  cases hg : o.guard with
  | none => rfl
  | some p =>
    obtain ⟨j, want⟩ := p
    simp only [yielded, List.getElem?_toArray]
    cases hd : (ops[j]?).bind (·.dst) with
    | none => simp
    | some d =>
      simp only [Option.bind_some]
      have e : (mkA n s).tmps[d]? = if d < n then some (s d) else none := by
        simp only [mkA]; rw [Array.getElem?_ofFn]; by_cases h : d < n <;> simp [h]
      rw [e]
      simp only [ev]
      by_cases h : d < n
      · rw [if_pos h, show Nat.blt d n = true by rw [Nat.blt_eq]; exact h]
        simp only [cond_true]
        generalize s d = v
        cases v <;> simp
      · have hf : Nat.blt d n = false := by rw [Bool.eq_false_iff, ne_eq, Nat.blt_eq]; exact h
        rw [if_neg h, hf]
        simp [undef]
variable {ops rest : List Oper} {o : Oper}
theorem o_nil (h : Eg P R n .normal k s w) : Og P R n ops k [] s w := h
variable {d : Nat} {dst : Option Nat} {op : Op} {ty : TypeId} {pos : String} {aft : Array Edge} {g : Option (Nat × Bool)}
theorem og_val {v : Value} {w' : World} (hrun : (execOp (ev n s) o).run P w = .ok (.value v) w') (h : Og P R n ops k rest (updO s o.dst v) w') (hw : wantedB ops n s o = true) :
    Og P R n ops k (o :: rest) s w := by
  unfold Og wpList
  rw [wanted_eq, if_pos hw]
  refine .inl ?_
  unfold Oper.wp
  rw [mkA_eval, hrun, Oper.upon_value, mkA_put]
  exact h
theorem o_val {v : Value} {w' : World} (hrun : (execOp (ev n s) ⟨some d, op, ty, pos, aft, g⟩).run P w = .ok (.value v) w') (h : Og P R n ops k rest (upd s d v) w') (hw : wantedB ops n s ⟨some d, op, ty, pos, aft, g⟩ = true := by rfl) :
    Og P R n ops k (⟨some d, op, ty, pos, aft, g⟩ :: rest) s w := og_val hrun h hw
theorem o_valn {v : Value} {w' : World} (hrun : (execOp (ev n s) ⟨none, op, ty, pos, aft, g⟩).run P w = .ok (.value v) w') (h : Og P R n ops k rest s w') (hw : wantedB ops n s ⟨none, op, ty, pos, aft, g⟩ = true := by rfl) :
    Og P R n ops k (⟨none, op, ty, pos, aft, g⟩ :: rest) s w := og_val hrun h hw
theorem o_unit {w' : World} (hrun : (execOp (ev n s) ⟨none, op, ty, pos, aft, g⟩).run P w = .ok .skip w') (h : Og P R n ops k rest s w') (hw : wantedB ops n s ⟨none, op, ty, pos, aft, g⟩ = true := by rfl) :
    Og P R n ops k (⟨none, op, ty, pos, aft, g⟩ :: rest) s w := by
  unfold Og wpList
  rw [wanted_eq, if_pos hw]
  refine .inl ?_
  unfold Oper.wp
  rw [mkA_eval, hrun, Oper.upon_skip, mkA_put]
  exact h
theorem o_off (h : Og P R n ops k rest (upd s d undef) w) (hw : wantedB ops n s ⟨some d, op, ty, pos, aft, g⟩ = false := by rfl) : Og P R n ops k (⟨some d, op, ty, pos, aft, g⟩ :: rest) s w := by
  unfold Og wpList
  rw [wanted_eq, hw, mkA_put]
  exact h
theorem o_offn (h : Og P R n ops k rest s w) (hw : wantedB ops n s ⟨none, op, ty, pos, aft, g⟩ = false := by rfl) : Og P R n ops k (⟨none, op, ty, pos, aft, g⟩ :: rest) s w := by
  unfold Og wpList
  rw [wanted_eq, hw, mkA_put]
  exact h
def Ret (Q : Value → World → Prop) : Ending → World → Prop := fun e w => ∃ v, e = .returned v ∧ Q v w
theorem og_enter {f : FuncId} {args : Array Value} {w' : World} {Q : Value → World → Prop} (hrun : (execOp (ev n s) o).run P w = .ok (.enter f args) w') (hc : Calls P f args w' (Ret Q))
    (h : ∀ v w'', Q v w'' → Og P R n ops k rest (updO s o.dst v) w'') (hw : wantedB ops n s o = true) : Og P R n ops k (o :: rest) s w := by
  unfold Og wpList
  rw [wanted_eq, if_pos hw]
  refine .inl ?_
  unfold Oper.wp
  rw [mkA_eval, hrun, Oper.upon_enter]
  refine hc.mono fun e w'' ⟨v, he, hq⟩ => ?_
  subst he
  show wpList P ops.toArray (k.post P R) rest ((mkA n s).put o.dst v) w''
  rw [mkA_put]
  exact h v w'' hq
theorem o_call {f : FuncId} {args : Array Value} {w' : World} {Q : Value → World → Prop} (hc : Calls P f args w' (Ret Q)) (hrun : (execOp (ev n s) ⟨some d, op, ty, pos, aft, g⟩).run P w = .ok (.enter f args) w')
    (h : ∀ v w'', Q v w'' → Og P R n ops k rest (upd s d v) w'') (hw : wantedB ops n s ⟨some d, op, ty, pos, aft, g⟩ = true := by rfl) : Og P R n ops k (⟨some d, op, ty, pos, aft, g⟩ :: rest) s w := og_enter hrun hc h hw
theorem o_calln {f : FuncId} {args : Array Value} {w' : World} {Q : Value → World → Prop} (hc : Calls P f args w' (Ret Q)) (hrun : (execOp (ev n s) ⟨none, op, ty, pos, aft, g⟩).run P w = .ok (.enter f args) w')
    (h : ∀ v w'', Q v w'' → Og P R n ops k rest s w'') (hw : wantedB ops n s ⟨none, op, ty, pos, aft, g⟩ = true := by rfl) : Og P R n ops k (⟨none, op, ty, pos, aft, g⟩ :: rest) s w := og_enter hrun hc h hw
end
section
variable {P : Program} {n : Nat} {s : Nat → Value} {w : World} {Q : Value → World → Prop} {fn : Func}
theorem calls_start {f : FuncId} {c : Code} {args : Array Value} {Q : Value → World → Prop} {l : List (Nat × Value)} (hf : P.funcs[f]? = some fn) (hb : fn.body = some c) (hn : fn.ntmps = n) (hsz : args.size ≤ n)
    (hs : ∀ i, args.getD i undef = upds (fun _ => undef) l i)
    (h : Cg P (bodyPost P fn (Ret Q)) n c .done (upds (fun _ => undef) l) w) : Calls P f args w (Ret Q) := by
  refine calls_of_wp hf hb ?_
  rw [hn, mkA_args n args hsz, show (fun i => args.getD i undef) = upds (fun _ => undef) l from funext hs]
  exact h
theorem args_0 : ∀ i, (#[] : Array Value).getD i undef = upds (fun _ => undef) [] i := fun i => by simp [upds, Array.getD]
theorem args_1 (a : Value) : ∀ i, (#[a] : Array Value).getD i undef = upds (fun _ => undef) [(0, a)] i := fun i => by
  rcases i with _ | i
  · rfl
  · simp [upds, upd, Array.getD, Nat.beq]; try exact fun h => absurd h (by omega)
theorem args_2 (a b : Value) : ∀ i, (#[a, b] : Array Value).getD i undef = upds (fun _ => undef) [(0, a), (1, b)] i := fun i => by
  rcases i with _ | _ | i
  · rfl
  · rfl
  · simp [upds, upd, Array.getD, Nat.beq]; try exact fun h => absurd h (by omega)
theorem args_3 (a b c : Value) : ∀ i, (#[a, b, c] : Array Value).getD i undef = upds (fun _ => undef) [(0, a), (1, b), (2, c)] i := fun i => by
  rcases i with _ | _ | _ | i
  · rfl
  · rfl
  · rfl
  · simp [upds, upd, Array.getD, Nat.beq]; try exact fun h => absurd h (by omega)
theorem args_4 (a b c d : Value) : ∀ i, (#[a, b, c, d] : Array Value).getD i undef = upds (fun _ => undef) [(0, a), (1, b), (2, c), (3, d)] i := fun i => by
  rcases i with _ | _ | _ | _ | i
  · rfl
  · rfl
  · rfl
  · rfl
  · simp [upds, upd, Array.getD, Nat.beq]; try exact fun h => absurd h (by omega)
theorem args_5 (a b c d e : Value) : ∀ i, (#[a, b, c, d, e] : Array Value).getD i undef = upds (fun _ => undef) [(0, a), (1, b), (2, c), (3, d), (4, e)] i := fun i => by
  rcases i with _ | _ | _ | _ | _ | i
  · rfl
  · rfl
  · rfl
  · rfl
  · rfl
  · simp [upds, upd, Array.getD, Nat.beq]; try exact fun h => absurd h (by omega)
theorem post_ret {v : Value} (hr : (results fn (mkA n s).tmps).run P w = .ok v w) (h : Q v w) : bodyPost P fn (Ret Q) .ret (mkA n s) w := ⟨rfl, v, hr, v, rfl, h⟩
theorem post_end {v : Value} (hr : (results fn (mkA n s).tmps).run P w = .ok v w) (h : Q v w) : bodyPost P fn (Ret Q) .normal (mkA n s) w := ⟨rfl, v, hr, v, rfl, h⟩
theorem res_0 (h : fn.results = #[]) : (results fn (mkA n s).tmps).run P w = .ok (.tuple #[]) w := results_none h _ P w
theorem res_1 {t : Nat} {v : Value} (h : fn.results = #[.tmp t]) (hv : ev n s (.tmp t) = v) : (results fn (mkA n s).tmps).run P w = .ok v w := by
  rw [results_tmp h, mkA_getD, hv]
theorem res_2 {t u : Nat} {v x : Value} (h : fn.results = #[.tmp t, .tmp u]) (hv : ev n s (.tmp t) = v) (hx : ev n s (.tmp u) = x) : (results fn (mkA n s).tmps).run P w = .ok (.tuple #[v, x]) w := by
  rw [results_tmp2 h, mkA_getD, mkA_getD, hv, hx]
theorem res_3 {t u r : Nat} {v x y : Value} (h : fn.results = #[.tmp t, .tmp u, .tmp r]) (hv : ev n s (.tmp t) = v) (hx : ev n s (.tmp u) = x) (hy : ev n s (.tmp r) = y) :
    (results fn (mkA n s).tmps).run P w = .ok (.tuple #[v, x, y]) w := by
  have : (results fn (mkA n s).tmps).run P w = .ok (.tuple #[(mkA n s).tmps.getD t undef, (mkA n s).tmps.getD u undef, (mkA n s).tmps.getD r undef]) w := by simp [results, h]
  rw [this, mkA_getD, mkA_getD, mkA_getD, hv, hx, hy]
end
attribute [irreducible] Cg Eg Og
end Go.Scarf
