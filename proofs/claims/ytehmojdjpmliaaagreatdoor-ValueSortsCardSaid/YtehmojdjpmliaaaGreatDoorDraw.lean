/- A part of the proof. -/
import Derived.Test.YtehmojdjpmliaaaGreatDoorEng
set_option linter.all false
namespace Go.Scarf
open Go.RowKit
section
variable {P : Program} {md : Region.Mode} {ops : Array Oper}
def StepN (P : Program) (o : Oper) (a : Act) (w : World) (K : Act → World → Prop) : Prop :=
  match (execOp a.eval o).run P w with
  | .ok (.value v) w' => K (a.put o.dst v) w'
  | .ok .skip w' => K (a.put o.dst undef) w'
  | .ok (.enter f args) w' => Calls P f args w' (Ret fun v w'' => K (a.put o.dst v) w'')
  | _ => False
def opStep (P : Program) (ops : Array Oper) (i : Nat) (K : Act → World → Prop) (a : Act) (w : World) : Prop :=
  match ops[i]? with
  | none => K a w
  | some o => if Region.wanted o (yielded ops a.tmps) then StepN P o a w K else K (a.put o.dst undef) w
theorem StepN.mono {o : Oper} {a : Act} {w : World} {K K' : Act → World → Prop} (h : ∀ a w, K a w → K' a w) (hh : StepN P o a w K) : StepN P o a w K' := by
  unfold StepN at *
  generalize (execOp a.eval o).run P w = r at *
  cases r with
  | ok n w' =>
    cases n <;> simp only [] at hh ⊢
    case value v => exact h _ _ hh
    case skip => exact h _ _ hh
    case enter f args => exact hh.mono fun e w'' ⟨v, he, hk⟩ => ⟨v, he, h _ _ hk⟩
  | halt x w' => simp only [] at hh
theorem opStep.mono {i : Nat} {a : Act} {w : World} {K K' : Act → World → Prop} (h : ∀ a w, K a w → K' a w) (hh : opStep P ops i K a w) : opStep P ops i K' a w := by
  unfold opStep at *
  cases hi : ops[i]? with
  | none => simp only [hi] at hh ⊢; exact h _ _ hh
  | some o =>
    simp only [hi] at hh ⊢
    by_cases hw : Region.wanted o (yielded ops a.tmps) = true
    · rw [if_pos hw] at hh ⊢; exact hh.mono h
    · rw [if_neg hw] at hh ⊢; exact h _ _ hh
theorem wpOp_of_opStep {i : Nat} {a : Act} {w : World} {K K' : Act → World → Prop} {Q : Exit → Act → World → Prop} (h : ∀ a w, K a w → K' a w) (hh : opStep P ops i K a w) : wpOp P ops Q i K' a w := by
  unfold opStep at hh
  unfold wpOp
  cases hi : ops[i]? with
  | none => simp only [hi] at hh ⊢; exact h _ _ hh
  | some o =>
    simp only [hi] at hh ⊢
    by_cases hw : Region.wanted o (yielded ops a.tmps) = true
    · rw [if_pos hw] at hh ⊢
      refine .inl ?_
      unfold StepN at hh
      unfold Oper.wp
      generalize (execOp a.eval o).run P w = r at *
      cases r with
      | ok n w' =>
        cases n <;> simp only [] at hh
        case value v => rw [Oper.upon_value]; exact h _ _ hh
        case skip => rw [Oper.upon_skip]; exact h _ _ hh
        case enter f args =>
          rw [Oper.upon_enter]
          exact hh.mono fun e w'' ⟨v, he, hk⟩ => by subst he; exact h _ _ hk
      | halt x w' => simp only [] at hh
    · rw [if_neg hw] at hh ⊢; exact h _ _ hh
def wpC (P : Program) (md : Region.Mode) (ops : Array Oper) (zs : List Nat) (Q : Act → World → Prop) : Nat → (World → Prop) → Array Bool → Act → World → Prop
  | 0, _, listed, a, w => Region.ready md ops listed = [] ∧ Q a w
  | fuel + 1, C, listed, a, w => C w ∧ (Region.ready md ops listed = [] → Q a w) ∧
    ∀ i ∈ Region.ready md ops listed, opStep P ops i (fun a' w' => if zs.contains i then wpC P md ops zs Q fuel (fun _ => True) (listed.setIfInBounds i true) a' w' else C w' ∧ wpC P md ops zs Q fuel C (listed.setIfInBounds i true) a' w') a w
theorem wpAny_of_wpC {zs : List Nat} {Q : Act → World → Prop} {Q' : Exit → Act → World → Prop} (hq : ∀ a w, Q a w → Q' .normal a w) :
    ∀ (fuel : Nat) (C : World → Prop) (listed : Array Bool) (a : Act) (w : World), wpC P md ops zs Q fuel C listed a w → wpAny P md ops Q' fuel listed a w
  | 0, _, _, _, _, h => ⟨h.1, hq _ _ h.2⟩
  | fuel + 1, C, _, _, _, h => ⟨fun h0 => hq _ _ (h.2.1 h0), fun i hi => wpOp_of_opStep (fun a' w' hh => by
      by_cases hz : zs.contains i = true
      · rw [if_pos hz] at hh; exact wpAny_of_wpC hq fuel _ _ a' w' hh
      · rw [if_neg hz] at hh; exact wpAny_of_wpC hq fuel _ _ a' w' hh.2) (h.2.2 i hi)⟩
theorem wpC_mono {C C' : World → Prop} {zs : List Nat} {Q : Act → World → Prop} (hc : ∀ w, C' w → C w) :
    ∀ (fuel : Nat) (listed : Array Bool) (a : Act) (w : World), wpC P md ops zs Q fuel C' listed a w → wpC P md ops zs Q fuel C listed a w
  | 0, _, _, _, h => h
  | fuel + 1, _, _, _, h => ⟨hc _ h.1, h.2.1, fun i hi => (h.2.2 i hi).mono fun a' w' hh => by
      by_cases hz : zs.contains i = true
      · rw [if_pos hz] at hh ⊢; exact hh
      · rw [if_neg hz] at hh ⊢; exact ⟨hc _ hh.1, wpC_mono hc fuel _ a' w' hh.2⟩⟩
def YieldsC (P : Program) (ops : Array Oper) (C : World → Prop) (o : Oper) (v : Value) (a : Act) : Prop :=
  (Region.wanted o (yielded ops a.tmps) = true ∧ ∀ w, C w → (execOp a.eval o).run P w = .ok (.value v) w) ∨
  (Region.wanted o (yielded ops a.tmps) = false ∧ v = undef)
theorem YieldsC.step {C : World → Prop} {i : Nat} {o : Oper} {v : Value} {a : Act} {w : World} (hi : ops[i]? = some o) (hy : YieldsC P ops C o v a) (hw : C w)
    {K : Act → World → Prop} (h : K (a.put o.dst v) w) : opStep P ops i K a w := by
  unfold opStep
  simp only [hi]
  rcases hy with ⟨hg, hv⟩ | ⟨hg, rfl⟩
  · rw [if_pos hg]; unfold StepN; rw [hv w hw]; exact h
  · rw [if_neg (by simp [hg])]; exact h
theorem YieldsC.of_same {C : World → Prop} {o : Oper} {v : Value} {a a' : Act} (hy : YieldsC P ops C o v a) (he : execOp a'.eval o = execOp a.eval o)
    (hw : Region.wanted o (yielded ops a'.tmps) = Region.wanted o (yielded ops a.tmps)) : YieldsC P ops C o v a' := by
  unfold YieldsC at *
  rw [he, hw]
  exact hy
theorem opStep_put {C : World → Prop} {j : Nat} {oi oj : Oper} {v : Value} (hj : ops[j]? = some oj) (hap : oi.apart ops oj = true)
    (hsi : ∀ cs b, oi.op ≠ .select cs b) (hsj : ∀ cs b, oj.op ≠ .select cs b) {K : Act → World → Prop} {a : Act} {w : World}
    (hy : YieldsC P ops C oi v a) (h : opStep P ops j K (a.put oi.dst v) w) :
    opStep P ops j (fun a' w' => YieldsC P ops C oi v a' ∧ K (a'.put oi.dst v) w') a w := by
  obtain ⟨h1, h2, h3⟩ := Oper.apart_spec hap
  have keep : ∀ (a : Act), YieldsC P ops C oi v a → ∀ u, YieldsC P ops C oi v (a.put oj.dst u) := fun a hy u =>
    hy.of_same (execOp_put oi hsi a oj.dst u h3) (wanted_put oi a oj.dst u h3)
  unfold opStep at *
  simp only [hj] at *
  rw [wanted_put oj a oi.dst v h1] at h
  split
  · rename_i hw
    simp only [hw, if_true] at h
    unfold StepN at *
    rw [execOp_put oj hsj a oi.dst v h1] at h
    generalize (execOp a.eval oj).run P w = r at *
    cases r with
    | ok n w' =>
      cases n <;> simp only [] at h ⊢
      case value u => exact ⟨keep a hy u, by rw [← Act.put_comm a v u h2]; exact h⟩
      case skip => exact ⟨keep a hy _, by rw [← Act.put_comm a v undef h2]; exact h⟩
      case enter f args => exact h.mono fun e w'' ⟨u, he, hk⟩ => ⟨u, he, keep a hy u, by rw [← Act.put_comm a v u h2]; exact hk⟩
    | halt x w' => simp only [] at h
  · rename_i hw
    simp only [hw] at h
    exact ⟨keep a hy _, by rw [← Act.put_comm a v undef h2]; exact h⟩
theorem wpC_first {C : World → Prop} {zs : List Nat} {Q : Act → World → Prop} {i : Nat} {oi : Oper} {v : Value} (hi : ops[i]? = some oi) (hsel : ∀ (j : Nat) (o : Oper) cs b, ops[j]? = some o → o.op ≠ .select cs b)
    (hiz : ¬ zs.contains i = true) :
    ∀ (fuel : Nat) (listed : Array Bool) (a : Act) (w : World),
      (∀ j oj, ops[j]? = some oj → j ≠ i → listed.getD j true = false → (∀ e ∈ oj.after, Region.binds md e = true → e.on ≠ i) → oi.apart ops oj = true) →
      (∀ z oz, z ∈ zs → ops[z]? = some oz → listed.getD z true = false → ∃ e ∈ oz.after, Region.binds md e = true ∧ e.on = i) →
      i ∈ Region.ready md ops listed → YieldsC P ops C oi v a → C w →
      wpC P md ops zs Q fuel C (listed.setIfInBounds i true) (a.put oi.dst v) w → wpC P md ops zs Q (fuel + 1) C listed a w := by
  intro fuel
  induction fuel with
  | zero =>
    intro listed a w _ _ hr hy hw H
    refine ⟨hw, fun h => (by rw [h] at hr; cases hr), fun j hj => ?_⟩
    by_cases hji : j = i
    · subst hji; exact hy.step hi hw (by rw [if_neg hiz]; exact ⟨hw, H⟩)
    · have := ready_mono hj hji
      rw [H.1] at this
      cases this
  | succ fuel ih =>
    intro listed a w hfree hz hr hy hw H
    refine ⟨hw, fun h => (by rw [h] at hr; cases hr), fun j hj => ?_⟩
    by_cases hji : j = i
    · subst hji; exact hy.step hi hw (by rw [if_neg hiz]; exact ⟨hw, H⟩)
    · have h1 := H.2.2 j (ready_mono hj hji)
      obtain ⟨hjun, oj, hoj, hall⟩ := mem_ready.1 hj
      have hnot : ∀ e ∈ oj.after, Region.binds md e = true → e.on ≠ i := fun e he hb heq => by
        have h1 := hall e he hb
        have h0 := (mem_ready.1 hr).1
        rw [heq] at h1
        rcases Nat.lt_or_ge i listed.size with h' | h'
        · simp [h'] at h0 h1; rw [h0] at h1; cases h1
        · simp [Array.getElem?_eq_none h'] at h1
      have hjz : ¬ zs.contains j = true := fun e => by
        obtain ⟨e, he, hb, hon⟩ := hz j oj (by simpa using e) hoj hjun
        exact hnot e he hb hon
      have h2 := opStep_put hoj (hfree j oj hoj hji hjun hnot) (fun cs b => hsel i oi cs b hi) (fun cs b => hsel j oj cs b hoj) hy h1
      have hun' : ∀ k, (listed.setIfInBounds j true).getD k true = false → listed.getD k true = false := fun k hun => by
        by_cases hjk : j = k
        · subst hjk; exact hjun
        · rw [getD_set_ne true hjk] at hun; exact hun
      have hfree' : ∀ k ok, ops[k]? = some ok → k ≠ i → (listed.setIfInBounds j true).getD k true = false →
          (∀ e ∈ ok.after, Region.binds md e = true → e.on ≠ i) → oi.apart ops ok = true := fun k ok hk hki hun hno => hfree k ok hk hki (hun' k hun) hno
      have hz' : ∀ z oz, z ∈ zs → ops[z]? = some oz → (listed.setIfInBounds j true).getD z true = false → ∃ e ∈ oz.after, Region.binds md e = true ∧ e.on = i := fun z oz hm ho hun => hz z oz hm ho (hun' z hun)
      refine opStep.mono (fun a' w' h3 => ?_) h2
      obtain ⟨hy', h4⟩ := h3
      rw [if_neg hjz] at h4 ⊢
      obtain ⟨hcz, hrest⟩ := h4
      refine ⟨hcz, ih (listed.setIfInBounds j true) a' w' hfree' hz' (ready_mono hr (Ne.symm hji)) hy' hcz ?_⟩
      rw [Array.setIfInBounds_comm _ _ hji]
      exact hrest
end
inductive Ord where
  | nil
  | free (i : Nat) (r : Ord)
  | act (i : Nat) (r : Ord)
  | alt (i : Nat) (r : Ord) (s : Ord)
def Ord.heads : Ord → List Nat
  | .act i _ => [i]
  | .alt i _ s => i :: s.heads
  | _ => []
def Ord.depth : Ord → Nat
  | .nil => 0
  | .free _ r => r.depth + 1
  | .act _ r => r.depth + 1
  | .alt _ r _ => r.depth + 1
def ordOk (md : Region.Mode) (ops : Array Oper) (zs : List Nat) : Bool → Nat → Ord → Array Bool → Bool
  | _, n, .nil, listed => n == 0 && (Region.ready md ops listed).isEmpty
  | _, n, .free i rest, listed => n != 0 && (Region.ready md ops listed).contains i && Region.free md ops listed i && !zs.contains i &&
      zs.all (fun z => listed.getD z true || match ops[z]? with | some oz => oz.after.any (fun e => Region.binds md e && e.on == i) | none => true) && ordOk md ops zs true (n - 1) rest (listed.setIfInBounds i true)
  | top, n, .act i rest, listed => n != 0 && (!top || Region.ready md ops listed == [i]) && ordOk md ops zs true (n - 1) rest (listed.setIfInBounds i true)
  | top, n, .alt i rest s, listed => n != 0 && (!top || Region.ready md ops listed == i :: s.heads) && ordOk md ops zs true (n - 1) rest (listed.setIfInBounds i true) && ordOk md ops zs false n s listed
def Dk (b : Bool) (C : World → Prop) (next : (World → Prop) → World → Prop) (w : World) : Prop :=
  if b then next (fun _ => True) w else ∃ C' : World → Prop, (∀ x, C' x → C x) ∧ C' w ∧ next C' w
section
variable (P : Program) (n : Nat) (ops : List Oper) (zs : List Nat) (Q : Act → World → Prop)
def DwA (i : Nat) (next : (World → Prop) → (Nat → Value) → World → Prop) (C : World → Prop) (s : Nat → Value) (w : World) : Prop :=
  match ops[i]? with
    | none => False
    | some o =>
      if wantedB ops n s o then
        match (execOp (ev n s) o).run P w with
        | .ok (.value v) w' => Dk (zs.contains i) C (fun C' => next C' (updO s o.dst v)) w'
        | .ok .skip w' => Dk (zs.contains i) C (fun C' => next C' (updO s o.dst undef)) w'
        | .ok (.enter f args) w' => Calls P f args w' (Ret fun v w'' => Dk (zs.contains i) C (fun C' => next C' (updO s o.dst v)) w'')
        | _ => False
      else Dk (zs.contains i) C (fun C' => next C' (updO s o.dst undef)) w
def Dw : Ord → (C : World → Prop) → (Nat → Value) → World → Prop
  | .nil, _, s, w => Q (mkA n s) w
  | .free i rest, C, s, w => match ops[i]? with
    | none => False
    | some o => ∃ v, ((wantedB ops n s o = true ∧ ∀ w, C w → (execOp (ev n s) o).run P w = .ok (.value v) w) ∨ (wantedB ops n s o = false ∧ v = undef)) ∧ Dw rest C (updO s o.dst v) w
  | .act i rest, C, s, w => DwA P n ops zs i (Dw rest) C s w
  | .alt i rest s', C, s, w => DwA P n ops zs i (Dw rest) C s w ∧ Dw s' C s w
end
section
variable {P : Program} {n : Nat} {ops : List Oper} {Q : Act → World → Prop} {zs : List Nat}
theorem opStep_of_DwA {m j : Nat} {next : (World → Prop) → (Nat → Value) → World → Prop} {C : World → Prop} {listed : Array Bool} {s : Nat → Value} {w : World}
    (ih : ∀ C' s' w', C' w' → next C' s' w' → wpC P .any ops.toArray zs Q m C' (listed.setIfInBounds j true) (mkA n s') w') (h : DwA P n ops zs j next C s w) :
    opStep P ops.toArray j (fun a' w' => if zs.contains j then wpC P .any ops.toArray zs Q m (fun _ => True) (listed.setIfInBounds j true) a' w' else C w' ∧ wpC P .any ops.toArray zs Q m C (listed.setIfInBounds j true) a' w') (mkA n s) w := by
  unfold DwA at h
  cases ho : ops[j]? with
  | none => rw [ho] at h; exact h.elim
  | some o =>
    rw [ho] at h
    have hoA : ops.toArray[j]? = some o := by simpa using ho
    have fin : ∀ (s' : Nat → Value) (w' : World), Dk (zs.contains j) C (fun C' => next C' s') w' →
        (if zs.contains j then wpC P .any ops.toArray zs Q m (fun _ => True) (listed.setIfInBounds j true) (mkA n s') w' else C w' ∧ wpC P .any ops.toArray zs Q m C (listed.setIfInBounds j true) (mkA n s') w') := by
      intro s' w' hh
      unfold Dk at hh
      by_cases hz : zs.contains j = true
      · rw [if_pos hz] at hh ⊢
        exact ih _ _ w' trivial hh
      · rw [if_neg hz] at hh ⊢
        obtain ⟨C', hsub, hC', hD⟩ := hh
        exact ⟨hsub _ hC', wpC_mono hsub _ _ _ _ (ih C' _ w' hC' hD)⟩
    unfold opStep
    simp only [hoA]
    rw [wanted_eq]
    simp only [] at h
    split
    · rename_i hw1
      rw [if_pos hw1] at h
      unfold StepN
      rw [mkA_eval]
      generalize (execOp (ev n s) o).run P w = r at *
      cases r with
      | ok nx w' =>
        cases nx <;> simp only [] at h ⊢
        case value v => rw [mkA_put]; exact fin _ _ h
        case skip => rw [mkA_put]; exact fin _ _ h
        case enter f args => exact h.mono fun e w'' ⟨v, he, hk⟩ => ⟨v, he, by dsimp only; rw [mkA_put]; exact fin _ _ hk⟩
      | halt x w' => simp only [] at h
    · rename_i hw1
      rw [if_neg hw1] at h
      rw [mkA_put]
      exact fin _ _ h
theorem wpC_of_Dw (hs : Region.noSelect ops.toArray = true) : ∀ (order : Ord),
    (∀ (m : Nat) (C : World → Prop) (listed : Array Bool) (s : Nat → Value) (w : World), ordOk .any ops.toArray zs true m order listed = true → C w → Dw P n ops zs Q order C s w → wpC P .any ops.toArray zs Q m C listed (mkA n s) w) ∧
    (∀ (m : Nat) (C : World → Prop) (listed : Array Bool) (s : Nat → Value) (w : World), ordOk .any ops.toArray zs false m order listed = true → Dw P n ops zs Q order C s w → ∀ j ∈ order.heads,
      opStep P ops.toArray j (fun a' w' => if zs.contains j then wpC P .any ops.toArray zs Q (m - 1) (fun _ => True) (listed.setIfInBounds j true) a' w' else C w' ∧ wpC P .any ops.toArray zs Q (m - 1) C (listed.setIfInBounds j true) a' w') (mkA n s) w)
  | .nil => ⟨fun m C listed s w hB _ h => by
      simp only [ordOk, Bool.and_eq_true, beq_iff_eq] at hB
      obtain ⟨rfl, hB⟩ := hB
      exact ⟨by simpa using hB, h⟩, fun m C listed s w _ _ j hj => by cases hj⟩
  | .free i rest => ⟨fun m C listed s w hB hw h => by
      simp only [ordOk, Bool.and_eq_true] at hB
      obtain ⟨⟨⟨⟨⟨hm, hr⟩, hf⟩, hiz⟩, hzz⟩, hrest⟩ := hB
      obtain ⟨m, rfl⟩ : ∃ q, m = q + 1 := ⟨m - 1, by have : m ≠ 0 := (by simpa using hm); omega⟩
      unfold Dw at h
      cases ho : ops[i]? with
      | none => rw [ho] at h; exact h.elim
      | some o =>
        rw [ho] at h
        obtain ⟨v, hy, hD⟩ := h
        have hoA : ops.toArray[i]? = some o := by simpa using ho
        have hyC : YieldsC P ops.toArray C o v (mkA n s) := by
          unfold YieldsC
          rw [wanted_eq, mkA_eval]
          exact hy
        refine wpC_first hoA (Region.noSelect_spec hs) (by simpa using hiz) m listed (mkA n s) w (Region.free_spec hoA hf) (fun z oz hm hoz hun => ?_) (by simpa using hr) hyC hw ?_
        · have hzz := List.all_eq_true.1 hzz z hm
          rw [hun, hoz] at hzz
          simp only [Bool.false_or, Array.any_eq_true'] at hzz
          obtain ⟨e, he, hh⟩ := hzz
          simp only [Bool.and_eq_true, beq_iff_eq] at hh
          exact ⟨e, he, hh.1, hh.2⟩
        · rw [mkA_put]
          exact (wpC_of_Dw hs rest).1 m C _ _ w hrest hw hD, fun m C listed s w _ _ j hj => by cases hj⟩
  | .act i rest => by
    have key : ∀ (top : Bool) (m : Nat) (C : World → Prop) (listed : Array Bool) (s : Nat → Value) (w : World), ordOk .any ops.toArray zs top m (.act i rest) listed = true → Dw P n ops zs Q (.act i rest) C s w →
        opStep P ops.toArray i (fun a' w' => if zs.contains i then wpC P .any ops.toArray zs Q (m - 1) (fun _ => True) (listed.setIfInBounds i true) a' w' else C w' ∧ wpC P .any ops.toArray zs Q (m - 1) C (listed.setIfInBounds i true) a' w') (mkA n s) w := by
      intro top m C listed s w hB h
      simp only [ordOk, Bool.and_eq_true] at hB
      obtain ⟨⟨hm, hr⟩, hrest⟩ := hB
      unfold Dw at h
      exact opStep_of_DwA (fun C' s' w' hC' hD => (wpC_of_Dw hs rest).1 (m - 1) C' _ s' w' hrest hC' hD) h
    refine ⟨fun m C listed s w hB hw h => ?_, fun m C listed s w hB h j hj => ?_⟩
    · have h1 := key true m C listed s w hB h
      simp only [ordOk, Bool.and_eq_true] at hB
      obtain ⟨⟨hm, hr⟩, hrest⟩ := hB
      obtain ⟨m, rfl⟩ : ∃ q, m = q + 1 := ⟨m - 1, by have : m ≠ 0 := (by simpa using hm); omega⟩
      have hr' : Region.ready .any ops.toArray listed = [i] := by simpa using hr
      refine ⟨hw, fun h0 => (by rw [h0] at hr'; cases hr'), fun j hj => ?_⟩
      rw [hr'] at hj
      obtain rfl : j = i := by simpa using hj
      exact h1
    · obtain rfl : j = i := by simpa [Ord.heads] using hj
      exact key false m C listed s w hB h
  | .alt i rest so => by
    have key : ∀ (top : Bool) (m : Nat) (C : World → Prop) (listed : Array Bool) (s : Nat → Value) (w : World), ordOk .any ops.toArray zs top m (.alt i rest so) listed = true → Dw P n ops zs Q (.alt i rest so) C s w → ∀ j ∈ (Ord.alt i rest so).heads,
        opStep P ops.toArray j (fun a' w' => if zs.contains j then wpC P .any ops.toArray zs Q (m - 1) (fun _ => True) (listed.setIfInBounds j true) a' w' else C w' ∧ wpC P .any ops.toArray zs Q (m - 1) C (listed.setIfInBounds j true) a' w') (mkA n s) w := by
      intro top m C listed s w hB h j hj
      simp only [ordOk, Bool.and_eq_true] at hB
      obtain ⟨⟨⟨hm, hr⟩, hrest⟩, hso⟩ := hB
      unfold Dw at h
      rcases List.mem_cons.1 hj with rfl | hj
      · exact opStep_of_DwA (fun C' s' w' hC' hD => (wpC_of_Dw hs rest).1 (m - 1) C' _ s' w' hrest hC' hD) h.1
      · exact (wpC_of_Dw hs so).2 m C listed s w hso h.2 j hj
    refine ⟨fun m C listed s w hB hw h => ?_, fun m C listed s w hB h => key false m C listed s w hB h⟩
    have h1 := key true m C listed s w hB h
    simp only [ordOk, Bool.and_eq_true] at hB
    obtain ⟨⟨⟨hm, hr⟩, hrest⟩, hso⟩ := hB
    obtain ⟨m, rfl⟩ : ∃ q, m = q + 1 := ⟨m - 1, by have : m ≠ 0 := (by simpa using hm); omega⟩
    have hr' : Region.ready .any ops.toArray listed = i :: so.heads := by simpa using hr
    refine ⟨hw, fun h0 => (by rw [h0] at hr'; cases hr'), fun j hj => ?_⟩
    rw [hr'] at hj
    exact h1 j hj
end
section
variable {P : Program} {R : Exit → Act → World → Prop} {n : Nat} {k : Kt} {s : Nat → Value} {w : World} {ops : List Oper} {zs : List Nat}
def Dg (P : Program) (R : Exit → Act → World → Prop) (n : Nat) (ops : List Oper) (k : Kt) (zs : List Nat) (order : Ord) (C : World → Prop) (s : Nat → Value) (w : World) : Prop :=
  Dw P n ops zs (fun a w => k.post P R .normal a w) order C s w
theorem c_draw {id : Nat} (order : Ord) (zs : List Nat) (C : World → Prop) (hm : P.follows .mixedOrders = true) (hs : Region.noSelect ops.toArray = true)
    (hB : ordOk .any ops.toArray zs true ops.toArray.size order (Array.replicate ops.toArray.size false) = true) (hC : C w.drew) (h : Dg P R n ops k zs order C s w.drew) : Cg P R n (.region id ops.toArray true) k s w := by
  unfold Cg
  refine wp_region_any hm (wpAny_of_wpC (zs := zs) (Q := k.post P R .normal) (fun _ _ h => h) _ C _ _ _ ?_)
  exact (wpC_of_Dw hs order).1 _ C (Array.replicate ops.toArray.size false) s w.drew hB hC h
variable {C : World → Prop} {rest : Ord} {i d : Nat} {op : Op} {ty : TypeId} {pos : String} {aft : Array Edge} {g : Option (Nat × Bool)}
theorem d_nil (h : Eg P R n .normal k s w) : Dg P R n ops k zs .nil C s w := by unfold Eg at h; exact h
theorem d_free {v : Value} (hrun : ∀ w, C w → (execOp (ev n s) ⟨some d, op, ty, pos, aft, g⟩).run P w = .ok (.value v) w) (h : Dg P R n ops k zs rest C (upd s d v) w) (hi : ops[i]? = some ⟨some d, op, ty, pos, aft, g⟩ := by rfl) (hw : wantedB ops n s ⟨some d, op, ty, pos, aft, g⟩ = true := by rfl) :
    Dg P R n ops k zs (.free i rest) C s w := by
  unfold Dg Dw
  rw [hi]
  exact ⟨v, .inl ⟨hw, hrun⟩, h⟩
theorem d_off (h : Dg P R n ops k zs rest C (upd s d undef) w) (hi : ops[i]? = some ⟨some d, op, ty, pos, aft, g⟩ := by rfl) (hw : wantedB ops n s ⟨some d, op, ty, pos, aft, g⟩ = false := by rfl) :
    Dg P R n ops k zs (.free i rest) C s w := by
  unfold Dg Dw
  rw [hi]
  exact ⟨undef, .inr ⟨hw, rfl⟩, h⟩
theorem d_skip (h : Dg P R n ops k zs rest C (upd s d undef) w) (hC : C w) (hi : ops[i]? = some ⟨some d, op, ty, pos, aft, g⟩ := by rfl) (hw : wantedB ops n s ⟨some d, op, ty, pos, aft, g⟩ = false := by rfl) (hz : zs.contains i = false := by rfl) :
    Dg P R n ops k zs (.act i rest) C s w := by
  unfold Dg Dw DwA
  rw [hi]
  simp only [hw, Bool.false_eq_true, if_false]
  unfold Dk
  rw [hz]
  exact ⟨C, fun _ h => h, hC, h⟩
theorem d_val {v : Value} {w' : World} (C' : World → Prop) (hsub : ∀ x, C' x → C x) (hrun : (execOp (ev n s) ⟨some d, op, ty, pos, aft, g⟩).run P w = .ok (.value v) w') (hC : C' w') (h : Dg P R n ops k zs rest C' (upd s d v) w')
    (hi : ops[i]? = some ⟨some d, op, ty, pos, aft, g⟩ := by rfl) (hw : wantedB ops n s ⟨some d, op, ty, pos, aft, g⟩ = true := by rfl) (hz : zs.contains i = false := by rfl) :
    Dg P R n ops k zs (.act i rest) C s w := by
  unfold Dg Dw DwA
  rw [hi]
  simp only [hw, if_true, hrun]
  unfold Dk
  rw [hz]
  exact ⟨C', hsub, hC, h⟩
theorem d_enter {f : FuncId} {args : Array Value} {w' : World} {Q : Value → World → Prop} (hrun : (execOp (ev n s) ⟨some d, op, ty, pos, aft, g⟩).run P w = .ok (.enter f args) w') (hc : Calls P f args w' (Ret Q))
    (h : ∀ v w'', Q v w'' → ∃ C' : World → Prop, (∀ x, C' x → C x) ∧ C' w'' ∧ Dg P R n ops k zs rest C' (upd s d v) w'')
    (hi : ops[i]? = some ⟨some d, op, ty, pos, aft, g⟩ := by rfl) (hw : wantedB ops n s ⟨some d, op, ty, pos, aft, g⟩ = true := by rfl) (hz : zs.contains i = false := by rfl) : Dg P R n ops k zs (.act i rest) C s w := by
  unfold Dg Dw DwA
  rw [hi]
  simp only [hw, if_true, hrun]
  refine hc.mono fun e w'' ⟨v, he, hq⟩ => ⟨v, he, ?_⟩
  unfold Dk
  rw [hz]
  exact h v w'' hq
theorem d_valz {v : Value} {w' : World} (hrun : (execOp (ev n s) ⟨some d, op, ty, pos, aft, g⟩).run P w = .ok (.value v) w') (h : Dg P R n ops k zs rest (fun _ => True) (upd s d v) w')
    (hi : ops[i]? = some ⟨some d, op, ty, pos, aft, g⟩ := by rfl) (hw : wantedB ops n s ⟨some d, op, ty, pos, aft, g⟩ = true := by rfl) (hz : zs.contains i = true := by rfl) :
    Dg P R n ops k zs (.act i rest) C s w := by
  unfold Dg Dw DwA
  rw [hi]
  simp only [hw, if_true, hrun]
  unfold Dk
  rw [hz]
  unfold Dg at h
  exact h
theorem d_unitz {w' : World} (hrun : (execOp (ev n s) ⟨none, op, ty, pos, aft, g⟩).run P w = .ok .skip w') (h : Dg P R n ops k zs rest (fun _ => True) s w')
    (hi : ops[i]? = some ⟨none, op, ty, pos, aft, g⟩ := by rfl) (hw : wantedB ops n s ⟨none, op, ty, pos, aft, g⟩ = true := by rfl) (hz : zs.contains i = true := by rfl) :
    Dg P R n ops k zs (.act i rest) C s w := by
  unfold Dg Dw DwA
  rw [hi]
  simp only [hw, if_true, hrun]
  unfold Dk
  rw [hz]
  unfold Dg at h
  exact h
theorem d_enterz {f : FuncId} {args : Array Value} {w' : World} {Q : Value → World → Prop} (hrun : (execOp (ev n s) ⟨some d, op, ty, pos, aft, g⟩).run P w = .ok (.enter f args) w') (hc : Calls P f args w' (Ret Q))
    (h : ∀ v w'', Q v w'' → Dg P R n ops k zs rest (fun _ => True) (upd s d v) w'')
    (hi : ops[i]? = some ⟨some d, op, ty, pos, aft, g⟩ := by rfl) (hw : wantedB ops n s ⟨some d, op, ty, pos, aft, g⟩ = true := by rfl) (hz : zs.contains i = true := by rfl) : Dg P R n ops k zs (.act i rest) C s w := by
  unfold Dg Dw DwA
  rw [hi]
  simp only [hw, if_true, hrun]
  refine hc.mono fun e w'' ⟨v, he, hq⟩ => ⟨v, he, ?_⟩
  unfold Dk
  rw [hz]
  exact h v w'' hq
theorem d_alt {C : World → Prop} {rest s' : Ord} {i : Nat} (h1 : Dg P R n ops k zs (.act i rest) C s w) (h2 : Dg P R n ops k zs s' C s w) : Dg P R n ops k zs (.alt i rest s') C s w := by
  unfold Dg at *
  unfold Dw at h1 ⊢
  exact ⟨h1, h2⟩
end
attribute [irreducible] Dg
end Go.Scarf
