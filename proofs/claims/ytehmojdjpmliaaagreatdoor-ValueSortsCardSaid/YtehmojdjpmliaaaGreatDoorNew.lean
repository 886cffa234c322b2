/- A part of the proof. -/
import Derived.WalkSpells
import Derived.LaidEqlPtr
import Derived.Test.YtehmojdjpmliaaaGreatDoorSl
set_option linter.all false
namespace Go.Scarf
open Go.RowKit
def Soft (w : World) (x : Nat) : Prop := ∃ cs T, w.heap[x]? = some (.cells cs T (0, 0))
def New (w0 : World) (ids : List Nat) (w : World) (x : Nat) : Prop := w0.heap.size ≤ x ∧ x < w.heap.size ∧ x ∉ ids ∧ Soft w x
def RX (w0 : World) (ids : List Nat) (w : World) (ds : List D) (cs : List Value) : Prop := RepL (New w0 ids w) w ds cs
def Btw (w w' : World) (x : Nat) : Prop := w.heap.size ≤ x ∧ x < w'.heap.size ∧ Soft w' x
section
variable {w0 w w' : World} {ids ids' E : List Nat} {ds es : List D} {cs ct : List Value}
theorem RX.nil : RX w0 ids w [] [] := RepL.nil_mk
theorem RX.step (h : RX w0 ids w ds cs) (hs : Same E w w') (he : ∀ b ∈ E, b ∈ ids) (hi : ∀ x ∈ ids', x ∈ ids ∨ w.heap.size ≤ x) : RX w0 ids' w' ds cs := by
  have h1 : RepL (New w0 ids w) w' ds cs := RepL.same h hs (fun b hb hn => hn.2.2.1 (he b hb))
  refine h1.weaken fun b hb _ => ⟨hb.1, Nat.lt_of_lt_of_le hb.2.1 hs.size, fun hm => ?_, ?_⟩
  · rcases hi b hm with h2 | h2
    · exact hb.2.2.1 h2
    · have := hb.2.1; omega
  · obtain ⟨cs, T, hh⟩ := hb.2.2.2
    exact ⟨cs, T, (hs.block b hb.2.1 (fun hm => hb.2.2.1 (he b hm))).trans hh⟩
theorem RX.ext (h : RX w0 ids w ds cs) (hs : Same [] w w') : RX w0 ids w' ds cs := h.step hs (by simp) (fun x hx => .inl hx)
theorem RX.store (h : RX w0 ids w ds cs) (hs : Same E w w') (he : ∀ b ∈ E, b ∈ ids) : RX w0 ids w' ds cs := h.step hs he (fun _ hx => .inl hx)
theorem RX.alloc {b : Nat} (h : RX w0 ids w ds cs) (hs : Same [] w w') (hb : b = w.heap.size) : RX w0 (b :: ids) w' ds cs :=
  h.step hs (by simp) (fun x hx => by rcases List.mem_cons.1 hx with rfl | hx; exact .inr (by omega); exact .inl hx)
theorem RX.sub (h : RX w0 ids w ds cs) (hi : ∀ x ∈ ids', x ∈ ids) : RX w0 ids' w ds cs := h.step (Same.refl [] w) (by simp) (fun x hx => .inl (hi x hx))
theorem RX.append (h : RX w0 ids w ds cs) (k : RX w0 ids w es ct) : RX w0 ids w (ds ++ es) (cs ++ ct) := RepL.append h k
theorem RX.one {d : D} (h : Rep (New w0 ids w) w d cs) : RX w0 ids w [d] cs := by
  have := RepL.cons_mk h RepL.nil_mk
  rw [List.append_nil] at this
  exact this
theorem RX.rep {d : D} (h : RX w0 ids w [d] cs) : Rep (New w0 ids w) w d cs := by
  obtain ⟨c1, c2, rfl, h1, h2⟩ := RepL.cons_inv h
  obtain rfl := RepL.nil_inv h2
  rw [List.append_nil]; exact h1
theorem RX.made {d : D} (hw : w0.heap.size ≤ w.heap.size) (hi : ∀ x ∈ ids, x < w.heap.size) (h : Rep (Btw w w') w' d cs) : RX w0 ids w' [d] cs :=
  .one (h.weaken fun b hb _ => ⟨Nat.le_trans hw hb.1, hb.2.1, fun hm => by have := hi b hm; have := hb.1; omega, hb.2.2⟩)
theorem RX.doneL (h : RX w0 ids w ds cs) : RepL (Btw w0 w) w ds cs := RepL.weaken (fun _ hb _ => ⟨hb.1, hb.2.1, hb.2.2.2⟩) h
theorem RX.done {d : D} (h : RX w0 ids w [d] cs) : Rep (Btw w0 w) w d cs := h.rep.weaken fun _ hb _ => ⟨hb.1, hb.2.1, hb.2.2.2⟩
theorem RX.plain (h : ∀ S, RepL S w ds cs) : RX w0 ids w ds cs := h _
theorem Btw.mono {w1 : World} (hw : w0.heap.size ≤ w1.heap.size) {x : Nat} (h : Btw w1 w x) : Btw w0 w x := ⟨Nat.le_trans hw h.1, h.2⟩
theorem Btw.ext {x : Nat} (h : Btw w0 w x) (hs : Same [] w w') : Btw w0 w' x := ⟨h.1, Nat.lt_of_lt_of_le h.2.1 hs.size, by obtain ⟨cs, T, hh⟩ := h.2.2; exact ⟨cs, T, (hs.block x h.2.1 (by simp)).trans hh⟩⟩
theorem Rep.btw_ext {d : D} (h : Rep (Btw w0 w) w d cs) (hs : Same [] w w') : Rep (Btw w0 w') w' d cs := (h.ext hs).weaken fun _ hb _ => hb.ext hs
theorem SlB.repOf {e m n c : Nat} {A : Option Addr} {xs : List Value} {sb : List (Nat × Obj)} {S : Nat → Prop} (h : SlB e m A n c xs sb) (hb : ∀ p ∈ sb, w.heap[p.1]? = some p.2 ∧ S p.1) (hr : RepL S w ds xs) (hn : ds.length = n) :
    Rep S w (.slice ds) [.slice A n c] := by
  refine Rep.slice_mk hn.symm h.cap.1 h.cap.2 fun hne => ?_
  rcases h.2 with ⟨rfl, -⟩ | ⟨g, cur, rfl, rfl, h1, h2, h3, h4⟩
  · exact absurd (List.eq_nil_of_length_eq_zero hn) hne
  · have hg := hb (g, .cells cur e) (by simp)
    refine ⟨_, rfl, xs, fun i hi => ⟨?_, hg.2⟩, hr⟩
    rw [addr_add, Nat.zero_add, cell_of_row w g i cur e (0, 0) hg.1]
    have hx : xs[i]? = some xs[i] := List.getElem?_eq_getElem hi
    rw [← hx]
    conv => rhs; rw [← h4]
    rw [List.getElem?_take, if_pos (by have := h.1; omega)]
    simp
theorem SlB.rep {e m n c : Nat} {A : Option Addr} {xs : List Value} {pre post sb : List (Nat × Obj)} (h : SlB e m A n c xs sb) (hF : FR w0 [] (pre ++ (sb ++ post)) w) (hr : RX w0 ids w ds xs) (hn : ds.length = n) :
    Rep (Btw w0 w) w (.slice ds) [.slice A n c] := by
  refine h.repOf (fun p hp => ?_) hr.doneL hn
  have h1 := hF.own p (by simp [hp])
  have h2 : ∃ cur, p = (p.1, .cells cur e) := by
    rcases h.2 with ⟨-, -, rfl⟩ | ⟨g, cur, -, rfl, -⟩
    · cases hp
    · simp only [List.mem_singleton] at hp; subst hp; exact ⟨cur, rfl⟩
  obtain ⟨cur, h2⟩ := h2
  refine ⟨h1.1, ?_, lt_of_some h1.1, ?_⟩
  · rcases h1.2 with h3 | h3
    · exact h3
    · cases h3
  · rw [h2] at h1; exact ⟨cur, e, h1.1⟩
theorem FR.addseg {Ds : List Nat} {bs sb : List (Nat × Obj)} (h : FR w0 Ds bs w) (hb : ∀ p ∈ sb, w.heap[p.1]? = some p.2 ∧ w0.heap.size ≤ p.1 ∧ ∀ q ∈ bs, q.1 ≠ p.1) (hd : sb.Pairwise (fun p q => q.1 ≠ p.1)) : FR w0 Ds (bs ++ (sb ++ [])) w := by
  rw [List.append_nil]
  refine ⟨h.same, fun p hp => ?_, ?_⟩
  · rcases List.mem_append.1 hp with hp | hp
    · exact h.own p hp
    · exact ⟨(hb p hp).1, .inl (hb p hp).2.1⟩
  · refine List.pairwise_append.2 ⟨h.desc, hd, fun p hp q hq => ?_⟩
    exact fun e => (hb q hq).2.2 p hp e.symm
theorem FR.extseg {w' : World} {bs sb : List (Nat × Obj)} (h : FR w0 [] bs w) (hs : Same [] w w') (hb : ∀ p ∈ sb, w'.heap[p.1]? = some p.2 ∧ w.heap.size ≤ p.1) (hd : sb.Pairwise (fun p q => q.1 ≠ p.1)) : FR w0 [] (bs ++ (sb ++ [])) w' :=
  (h.ext hs).addseg (fun p hp => ⟨(hb p hp).1, Nat.le_trans h.same.size (hb p hp).2, fun q hq => by have := lt_of_some (h.own q hq).1; have := (hb p hp).2; omega⟩) hd
theorem FR.cons_ext {Ds : List Nat} {w' : World} {bs : List (Nat × Obj)} {b : Nat} {o : Obj} (h : FR w0 Ds bs w) (hs : Same [] w w') (hb : w'.heap[b]? = some o) (hge : w.heap.size ≤ b) : FR w0 Ds ((b, o) :: bs) w' := by
  have h1 := h.ext hs
  refine ⟨h1.same, fun p hp => ?_, List.pairwise_cons.2 ⟨fun q hq => ?_, h.desc⟩⟩
  · rcases List.mem_cons.1 hp with rfl | hp
    · exact ⟨hb, .inl (Nat.le_trans h.same.size hge)⟩
    · exact h1.own p hp
  · have := lt_of_some (h.own q hq).1
    show q.1 ≠ b
    omega
def Old (S : Nat → Prop) (w0 : World) (b : Nat) : Prop := S b ∧ b < w0.heap.size
theorem Rep.old {S : Nat → Prop} {d : D} {cs : List Value} (h : Rep S w0 d cs) : Rep (Old S w0) w0 d cs := h.weaken fun _ h1 h2 => ⟨h1, h2⟩
theorem Rep.back {S : Nat → Prop} {d : D} {cs : List Value} (h : Rep (Old S w0) w d cs) (hs : Same [] w0 w) : Rep (Old S w0) w0 d cs := h.keep fun b hb _ => (hs.block b hb.2 (by simp)).symm
theorem SlB.pw {e m n c : Nat} {A : Option Addr} {xs : List Value} {sb : List (Nat × Obj)} (h : SlB e m A n c xs sb) : sb.Pairwise (fun p q => q.1 ≠ p.1) := by
  rcases h.2 with ⟨-, -, rfl⟩ | ⟨g, cur, -, rfl, -⟩ <;> simp
end
section
variable {P : Program} {R : Exit → Act → World → Prop} {n : Nat} {kt : Kt} {s : Nat → Value} {w : World} {ops rest : List Oper}
variable {d : Nat} {ty : TypeId} {pos : String} {aft : Array Edge} {g : Option (Nat × Bool)}
variable {w0 : World} {Ds : List Nat} {sb : List (Nat × Obj)}
theorem x_append {ρ : Operand → Value} {dst : Option Nat} {x y : Operand} {t : TypeId} {u v : Value} {r : Value} {w' : World} (hx : ρ x = u) (hy : ρ y = v) (h : (Builtin.append_ #[t, t] ty #[u, v]).run P w = .ok r w') :
    (execOp ρ ⟨dst, .call ⟨.builtin .append, #[x, y], #[t, t]⟩, ty, pos, aft, g⟩).run P w = .ok (.value r) w' := by
  simp [execOp, resolve, invoke, builtin, hx, hy, h]
structure Elems (P : Program) (t e m bytes : Nat) : Prop where
  ht : P.underlying t = some (.slice e)
  info : ∃ (i : TypeInfo) (z : Value), P.info? e = some i ∧ i.zero = some z ∧ i.size = m ∧ i.bytes = bytes ∧ z.cells.size = m
theorem Elems.of {t e m bytes : Nat} (z : Value) (ht : P.underlying t = some (.slice e)) (hi : (P.info? e).map (fun i => (i.zero, i.size, i.bytes)) = some (some z, m, bytes)) (hz : z.cells.size = m) : Elems P t e m bytes := by
  refine ⟨ht, ?_⟩
  cases h : P.info? e with
  | none => rw [h] at hi; cases hi
  | some i =>
    rw [h] at hi
    simp only [Option.map_some, Option.some.injEq, Prod.mk.injEq] at hi
    exact ⟨i, z, rfl, hi.1, hi.2.1, hi.2.2, hz⟩
theorem o_append (pre post : List (Nat × Obj)) {x y : Operand} {t e m bytes : Nat} {A A2 : Option Addr} {len c k c2 : Nat} {xs news : List Value} (hE : Elems P t e m bytes)
    (hF : FR w0 Ds (pre ++ (sb ++ post)) w) (hS : SlB e m A len c xs sb) (hx : ev n s x = .slice A len c) (hy : ev n s y = .slice A2 k c2)
    (hl : news.length = k * m) (hnews : k ≠ 0 → ∃ a, A2 = some a ∧ ∀ j u, news[j]? = some u → w.cell? (a.add j) = some u) (h1 : ∀ u ∈ news, u.oneCell' = true)
    (h63 : len + k ≤ maxLen) {len' : Nat} {ys : List Value} (hlen : len + k = len') (hys : xs ++ news = ys) (hbytes : (len + k) * bytes ≤ 140737488355328)
    (h : ∀ A' c' sb' w', SlB e m A' len' c' ys sb' → FR w0 Ds (pre ++ (sb' ++ post)) w' → Same (sb.map (·.1)) w w' → (∀ p ∈ sb', p.1 ∈ sb.map (·.1) ∨ w.heap.size ≤ p.1) → Og P R n ops kt rest (upd s d (.slice A' len' c')) w')
    (hw : wantedB ops n s ⟨some d, .call ⟨.builtin .append, #[x, y], #[t, t]⟩, ty, pos, aft, g⟩ = true := by rfl) : Og P R n ops kt (⟨some d, .call ⟨.builtin .append, #[x, y], #[t, t]⟩, ty, pos, aft, g⟩ :: rest) s w := by
  subst hlen hys
  obtain ⟨i, z, hi, hz, h2, h3, h4⟩ := hE.info
  obtain ⟨A', c', sb', w', hr, hS', hF', hs, hn⟩ := append_own (ty := ty) (c2 := c2) hE.ht hi hz h2 h3 h4 hF hS hl hnews h1 h63 hbytes
  exact o_val (x_append hx hy hr) (h A' c' sb' w' hS' hF' hs hn) hw
theorem f_append (pre post : List (Nat × Obj)) {C : World → Prop} {order : Ord} {zs : List Nat} {i : Nat} {x y : Operand} {t e m bytes : Nat} {A A2 : Option Addr} {len c k c2 : Nat} {xs news : List Value}
    (hi : ops[i]? = some ⟨some d, .call ⟨.builtin .append, #[x, y], #[t, t]⟩, ty, pos, aft, g⟩) (hE : Elems P t e m bytes)
    (hF : FR w0 Ds (pre ++ (sb ++ post)) w) (hS : SlB e m A len c xs sb) (hx : ev n s x = .slice A len c) (hy : ev n s y = .slice A2 k c2)
    (hl : news.length = k * m) (hnews : k ≠ 0 → ∃ a, A2 = some a ∧ ∀ j u, news[j]? = some u → w.cell? (a.add j) = some u) (h1 : ∀ u ∈ news, u.oneCell' = true)
    (h63 : len + k ≤ maxLen) {len' : Nat} {ys : List Value} (hlen : len + k = len') (hys : xs ++ news = ys) (hbytes : (len + k) * bytes ≤ 140737488355328)
    (h : ∀ A' c' sb' w', SlB e m A' len' c' ys sb' → FR w0 Ds (pre ++ (sb' ++ post)) w' → Same (sb.map (·.1)) w w' → (∀ p ∈ sb', p.1 ∈ sb.map (·.1) ∨ w.heap.size ≤ p.1) → C w' ∧ Dg P R n ops kt zs order C (upd s d (.slice A' len' c')) w')
    (hw : wantedB ops n s ⟨some d, .call ⟨.builtin .append, #[x, y], #[t, t]⟩, ty, pos, aft, g⟩ = true := by rfl) (hzz : zs.contains i = false := by rfl) : Dg P R n ops kt zs (.act i order) C s w := by
  subst hlen hys
  obtain ⟨ii, z, hi', hz, h2, h3, h4⟩ := hE.info
  obtain ⟨A', c', sb', w', hr, hS', hF', hs, hn⟩ := append_own (ty := ty) (c2 := c2) hE.ht hi' hz h2 h3 h4 hF hS hl hnews h1 h63 hbytes
  have r := h A' c' sb' w' hS' hF' hs hn
  exact f_act hi (x_append hx hy hr) r.1 r.2 hw hzz
theorem one_eq {v : Value} (h : one v = true) : v.oneCell' = true := by cases v <;> first | rfl | cases h
theorem ones_eq {l : List Value} (h : ∀ v ∈ l, one v = true) : ∀ v ∈ l, v.oneCell' = true := fun v hv => one_eq (h v hv)
theorem cells_opt {a : Addr} {l : List Value} (h : ∀ j (hj : j < l.length), w.cell? (a.add j) = some l[j]) : ∀ j u, l[j]? = some u → w.cell? (a.add j) = some u := by
  intro j u hu
  obtain ⟨hj, rfl⟩ := List.getElem?_eq_some_iff.1 hu
  exact h j hj
theorem fold_set : ∀ (l pre : List Value) (cs : Array Value), cs.size = pre.length + l.length → cs.toList.take pre.length = pre →
    ((l.zipIdx 0).foldl (fun (a : Array Value) (p : Value × Nat) => a.setIfInBounds (pre.length + p.2) p.1) cs) = (pre ++ l).toArray := by
  intro l pre cs hs hp
  have key : ∀ (l : List Value) (k : Nat) (cs : Array Value), ((l.zipIdx k).foldl (fun (a : Array Value) (p : Value × Nat) => a.setIfInBounds (pre.length + p.2) p.1) cs) = putA cs (pre.length + k) l := by
    intro l
    induction l with
    | nil => intro k cs; rfl
    | cons v l ih => intro k cs; rw [List.zipIdx_cons, List.foldl_cons, ih, putA]; rfl
  rw [key, Nat.add_zero]
  exact putA_at l pre cs hs hp
theorem x_buildSlice1 {ρ : Operand → Value} {dst : Option Nat} {t e size : Nat} {x : Operand} {z : Value} {l : List Value} (ht : P.underlying t = some (.slice e)) (hs : ∀ w, (sizeOf e).run P w = .ok size w) (hz : ∀ w, (zeroValue e).run P w = .ok z w)
    (h1 : (1 * size ≤ 16777216) = True) (h0 : (1 * size = 0) = False) (hx : ρ x = .agg l.toArray) (hl : l.length = size) :
    (execOp ρ ⟨dst, .buildSlice t 1 #[(0, x)], ty, pos, aft, g⟩).run P w = .ok (.value (.slice (some ⟨w.heap.size, 0, none⟩) 1 1)) (w.alloc (.cells l.toArray e)) := by
  refine x_buildSlice ht hs hz h1 h0 ?_
  have hc : (Value.agg l.toArray).cells = l.toArray := rfl
  simp only [List.map_cons, List.map_nil, hx, Instr.fill, hc, List.size_toArray, hl, Nat.zero_mul, Nat.zero_add]
  have hsz : ((Array.range (1 * size)).map (z.cells[· % z.cells.size]!)).size = size := by simp
  generalize (Array.range (1 * size)).map (z.cells[· % z.cells.size]!) = Z at hsz ⊢
  have hf := fold_set l [] Z (by simp [hl, hsz]) (by simp)
  simp only [List.length_nil, Nat.zero_add, List.nil_append] at hf
  have e1 : Array.foldl (fun (cs : Array Value) (x : Value × Nat) => cs.setIfInBounds x.2 x.1) Z l.toArray.zipIdx = l.toArray := by
    refine Eq.trans ?_ hf; simp
  simp only [hsz]
  have hc1 : (decide (size ≠ size) || decide (size > size)) = false := by simp
  simp only [hc1]
  exact congrArg some e1
theorem x_eqlSlNil {ρ : Operand → Value} {dst : Option Nat} {t t' e : Nat} {x y : Operand} {A : Option Addr} {len c : Nat} (ht : P.underlying t = some (.slice e)) (hx : ρ x = .slice A len c) (hy : ρ y = .slice none 0 0) :
    (execOp ρ ⟨dst, .binOp .eql t x y t', ty, pos, aft, g⟩).run P w = .ok (.value (.bool A.isNone)) w := by
  have h := Lib.run_eql_slice_nil (P := P) w t e A len c 0 0 ht
  have hg : (eqGuard .eql t x y (.slice A len c) (.slice none 0 0)).run P w = .ok () w := by unfold eqGuard; split <;> simp
  simp only [execOp, hx, hy, Sem.run_bind, hg, Result.andThen_ok, h, Sem.run_pure]
theorem x_buildSlice0 {ρ : Operand → Value} {dst : Option Nat} {t e size : Nat} (ht : P.underlying t = some (.slice e)) (hs : ∀ w, (sizeOf e).run P w = .ok size w) :
    (execOp ρ ⟨dst, .buildSlice t 0 #[], ty, pos, aft, g⟩).run P w = .ok (.value (.slice (some ⟨w.heap.size, 0, none⟩) 0 0)) (w.alloc (.cells #[] e)) := by
  have hu : ∀ w, (underlying t).run P w = .ok (.slice e) w := run_underlying ht
  have h0 : ∀ v : Value, Array.map (fun _ => v) (Array.range 0) = #[] := fun _ => by simp [Array.range]
  simp [execOp, Instr.buildSlice, hu, hs, Instr.fill, newRow, newObj, Sem.run, h0]
theorem putA_mid : ∀ (l pre mid post : List Value), mid.length = l.length → putA (pre ++ (mid ++ post)).toArray pre.length l = (pre ++ (l ++ post)).toArray
  | [], pre, mid, post, h => by
    have : mid = [] := List.eq_nil_of_length_eq_zero (by simpa using h)
    subst this; rfl
  | v :: l, pre, mid, post, h => by
    cases mid with
    | nil => simp at h
    | cons u mid =>
      have ih := putA_mid l (pre ++ [v]) mid post (by simpa using h)
      rw [List.length_append, List.length_singleton] at ih
      rw [putA]
      have e : (pre ++ (u :: mid ++ post)).toArray.setIfInBounds pre.length v = (pre ++ [v] ++ (mid ++ post)).toArray := by
        simp
      rw [e, ih]
      simp
theorem slstore_run (pre post : List (Nat × Obj)) {x y : Operand} {t e m len c j : Nat} {A : Option Addr} {ad : Addr} {xs new : List Value} {v : Value} {dst : Option Nat} (hF : FR w0 Ds (pre ++ (sb ++ post)) w) (hS : SlB e m A len c xs sb) (hA : A = some ad) (hj : j < len)
    (hs : ∀ w, (sizeOf t).run P w = .ok m w) (hx : ev n s x = .pointer (some (ad.add (j * m)))) (hy : ev n s y = v) (hl : v.cells = new.toArray) (hm : new.length = m) (hv : ∀ v ∈ new, one v = true) :
    ∃ sb' w', (execOp (ev n s) ⟨dst, .store t x y, ty, pos, aft, g⟩).run P w = .ok .skip w' ∧ SlB e m A len c (xs.take (j * m) ++ (new ++ xs.drop (j * m + m))) sb' ∧ FR w0 Ds (pre ++ (sb' ++ post)) w' ∧ Same (sb.map (·.1)) w w' ∧ sb'.map (·.1) = sb.map (·.1) := by
  subst hA
  have hmul : (j + 1) * m ≤ len * m := Nat.mul_le_mul_right m hj
  rw [Nat.add_mul, Nat.one_mul] at hmul
  have hxl := hS.1
  rcases hS.2 with ⟨rfl, -⟩ | ⟨b, cur, hA, rfl, h1, h2, h3, h4⟩
  · omega
  · injection hA with hA
    subst hA
    have hcl : len * m ≤ c * m := Nat.mul_le_mul_right m h1
    have hi : (pre ++ ([(b, Obj.cells cur e)] ++ post))[pre.length]? = some (b, .cells cur e) := by simp
    have hc : cur = (xs.take (j * m) ++ (((xs.drop (j * m)).take m) ++ (xs.drop (j * m + m) ++ cur.toList.drop (len * m)))).toArray := by
      apply Array.toList_inj.1
      show cur.toList = _
      have e1 : xs = xs.take (j * m) ++ ((xs.drop (j * m)).take m ++ xs.drop (j * m + m)) := by
        rw [← List.drop_drop, List.take_append_drop, List.take_append_drop]
      have e2 : cur.toList = xs ++ cur.toList.drop (len * m) := by rw [← h4, List.take_append_drop]
      conv => lhs; rw [e2, e1]
      simp [List.append_assoc]
    have hput : putA cur (0 + j * m) new = (xs.take (j * m) ++ (new ++ (xs.drop (j * m + m) ++ cur.toList.drop (len * m)))).toArray := by
      conv => lhs; rw [hc]
      have := putA_mid new (xs.take (j * m)) ((xs.drop (j * m)).take m) (xs.drop (j * m + m) ++ cur.toList.drop (len * m)) (by rw [List.length_take, List.length_drop]; omega)
      rw [List.length_take, Nat.min_eq_left (by omega)] at this
      rw [Nat.zero_add]; exact this
    obtain ⟨w', hr, hF', hsm⟩ := store_run (P := P) (n := n) (s := s) (dst := dst) (ty := ty) (pos := pos) (aft := aft) (g := g) (ii := pre.length) (off := 0 + j * m) (l := new) (T := e) hF (by rw [hm]; exact hs) (by rw [hx, addr_add]) hy hl hv hi (by rw [hm, h3]; omega) hput
    refine ⟨[(b, .cells (xs.take (j * m) ++ (new ++ (xs.drop (j * m + m) ++ cur.toList.drop (len * m)))).toArray e)], w', hr, ⟨?_, .inr ⟨b, _, rfl, rfl, h1, h2, ?_, ?_⟩⟩, ?_, by simpa using hsm, rfl⟩
    · simp only [List.length_append, List.length_take, List.length_drop]; omega
    · have hcs : cur.toList.length = c * m := by rw [Array.length_toList, h3]
      simp only [List.size_toArray, List.length_append, List.length_take, List.length_drop]; omega
    · rw [show xs.take (j * m) ++ (new ++ (xs.drop (j * m + m) ++ cur.toList.drop (len * m))) = (xs.take (j * m) ++ (new ++ xs.drop (j * m + m))) ++ cur.toList.drop (len * m) by simp [List.append_assoc]]
      have : (xs.take (j * m) ++ (new ++ xs.drop (j * m + m))).length = len * m := by simp only [List.length_append, List.length_take, List.length_drop]; omega
      rw [← this]; exact List.take_left
    · simpa [List.set_append] using hF'
theorem SlB.elem {e m len c : Nat} {A : Option Addr} {xs : List Value} {pre post : List (Nat × Obj)} (hS : SlB e m A len c xs sb) (hF : FR w0 Ds (pre ++ (sb ++ post)) w) {j : Nat} (hj : j < len) :
    ∃ ad, A = some ad ∧ ∀ i (hi : i < ((xs.drop (j * m)).take m).length), w.cell? ((ad.add (j * m)).add i) = some ((xs.drop (j * m)).take m)[i] := by
  have hA : ∃ ad, A = some ad := by
    rcases hS.2 with ⟨rfl, -⟩ | ⟨b, cur, hA, -⟩
    · omega
    · exact ⟨_, hA⟩
  obtain ⟨ad, rfl⟩ := hA
  refine ⟨ad, rfl, fun i hi => ?_⟩
  rw [add_of_add]
  refine hS.cells hF ad rfl (j * m + i) _ ?_
  rw [List.getElem_take, List.getElem_drop]
  exact List.getElem?_eq_getElem _
theorem f_unitz {C : World → Prop} {order : Ord} {zs : List Nat} {i : Nat} {op : Op} {w' : World} (hi : ops[i]? = some ⟨none, op, ty, pos, aft, g⟩) (hrun : (execOp (ev n s) ⟨none, op, ty, pos, aft, g⟩).run P w = .ok .skip w') (h : Dg P R n ops kt zs order (fun _ => True) s w')
    (hw : wantedB ops n s ⟨none, op, ty, pos, aft, g⟩ = true := by rfl) (hz : zs.contains i = true := by rfl) : Dg P R n ops kt zs (.act i order) C s w := d_unitz hrun h hi hw hz
theorem SlB.elemMid {e m len c : Nat} {A : Option Addr} {pr mid po : List Value} {pre post : List (Nat × Obj)} (hS : SlB e m A len c (pr ++ (mid ++ po)) sb) (hF : FR w0 Ds (pre ++ (sb ++ post)) w) {j : Nat} (hp : pr.length = j * m) (hm : mid.length = m) (hj : j < len) :
    ∃ ad, A = some ad ∧ ∀ i (hi : i < mid.length), w.cell? ((ad.add (j * m)).add i) = some mid[i] := by
  obtain ⟨ad, hA, hc⟩ := hS.elem hF hj
  refine ⟨ad, hA, fun i hi => ?_⟩
  have e : ((pr ++ (mid ++ po)).drop (j * m)).take m = mid := by rw [← hp, List.drop_left, ← hm, List.take_left]
  have h1 := hc i (by rw [e]; exact hi)
  rw [h1]
  congr 1
  simp only [e]
theorem slstoreMid (pre post : List (Nat × Obj)) {x y : Operand} {t e m len c j : Nat} {A : Option Addr} {ad : Addr} {pr mid po new : List Value} {v : Value} {dst : Option Nat} (hF : FR w0 Ds (pre ++ (sb ++ post)) w) (hS : SlB e m A len c (pr ++ (mid ++ po)) sb) (hp : pr.length = j * m) (hmm : mid.length = m) (hA : A = some ad) (hj : j < len)
    (hs : ∀ w, (sizeOf t).run P w = .ok m w) (hx : ev n s x = .pointer (some (ad.add (j * m)))) (hy : ev n s y = v) (hl : v.cells = new.toArray) (hm : new.length = m) (hv : ∀ v ∈ new, one v = true) :
    ∃ sb' w', (execOp (ev n s) ⟨dst, .store t x y, ty, pos, aft, g⟩).run P w = .ok .skip w' ∧ SlB e m A len c (pr ++ (new ++ po)) sb' ∧ FR w0 Ds (pre ++ (sb' ++ post)) w' ∧ Same (sb.map (·.1)) w w' ∧ sb'.map (·.1) = sb.map (·.1) := by
  obtain ⟨sb', w', h1, h2, h3, h4, h5⟩ := slstore_run (P := P) (n := n) (s := s) (dst := dst) (ty := ty) (pos := pos) (aft := aft) (g := g) pre post hF hS hA hj hs hx hy hl hm hv
  refine ⟨sb', w', h1, ?_, h3, h4, h5⟩
  have e1 : (pr ++ (mid ++ po)).take (j * m) = pr := by rw [← hp, List.take_left]
  have e2 : (pr ++ (mid ++ po)).drop (j * m + m) = po := by rw [← List.drop_drop, ← hp, List.drop_left, ← hmm, List.drop_left]
  rw [e1, e2] at h2
  exact h2
theorem FR.lt_ids {bs : List (Nat × Obj)} (h : FR w0 Ds bs w) {x : Nat} (hx : x ∈ bs.map (·.1)) : x < w.heap.size := by
  obtain ⟨p, hp, rfl⟩ := List.mem_map.1 hx
  exact lt_of_some (h.memHeap hp)
theorem RX.app {l : List Nat} {sb' : List (Nat × Obj)} {w' : World} {ds : List D} {cs : List Value} (h : RX w0 (l ++ sb.map (·.1)) w ds cs) (hs : Same (sb.map (·.1)) w w') (hn : ∀ p ∈ sb', p.1 ∈ sb.map (·.1) ∨ w.heap.size ≤ p.1) : RX w0 (l ++ sb'.map (·.1)) w' ds cs :=
  h.step hs (fun b hb => List.mem_append.2 (.inr hb)) (fun x hx => by
    rcases List.mem_append.1 hx with hx | hx
    · exact .inl (List.mem_append.2 (.inl hx))
    · obtain ⟨p, hp, rfl⟩ := List.mem_map.1 hx
      rcases hn p hp with h1 | h1
      · exact .inl (List.mem_append.2 (.inr h1))
      · exact .inr h1)
theorem o_storeSl (pre post : List (Nat × Obj)) {x y : Operand} {t e m len c j : Nat} {A : Option Addr} {ad : Addr} {pr mid po new : List Value} {v : Value} (hF : FR w0 Ds (pre ++ (sb ++ post)) w) (hS : SlB e m A len c (pr ++ (mid ++ po)) sb) (hp : pr.length = j * m) (hmm : mid.length = m) (hA : A = some ad) (hj : j < len)
    (hs : ∀ w, (sizeOf t).run P w = .ok m w) (hx : ev n s x = .pointer (some (ad.add (j * m)))) (hy : ev n s y = v) (hl : v.cells = new.toArray) (hm : new.length = m) (hv : ∀ v ∈ new, one v = true)
    (h : ∀ sb' w', SlB e m A len c (pr ++ (new ++ po)) sb' → FR w0 Ds (pre ++ (sb' ++ post)) w' → Same (sb.map (·.1)) w w' → sb'.map (·.1) = sb.map (·.1) → Og P R n ops kt rest s w')
    (hw : wantedB ops n s ⟨none, .store t x y, ty, pos, aft, g⟩ = true := by rfl) : Og P R n ops kt (⟨none, .store t x y, ty, pos, aft, g⟩ :: rest) s w := by
  obtain ⟨sb', w', h1, h2, h3, h4, h5⟩ := slstoreMid (P := P) (n := n) (s := s) (dst := none) (ty := ty) (pos := pos) (aft := aft) (g := g) pre post hF hS hp hmm hA hj hs hx hy hl hm hv
  exact o_unit h1 (h sb' w' h2 h3 h4 h5) hw
theorem f_storeSl (pre post : List (Nat × Obj)) {C : World → Prop} {order : Ord} {zs : List Nat} {i : Nat} {x y : Operand} {t e m len c j : Nat} {A : Option Addr} {ad : Addr} {pr mid po new : List Value} {v : Value} (hi : ops[i]? = some ⟨none, .store t x y, ty, pos, aft, g⟩)
    (hF : FR w0 Ds (pre ++ (sb ++ post)) w) (hS : SlB e m A len c (pr ++ (mid ++ po)) sb) (hp : pr.length = j * m) (hmm : mid.length = m) (hA : A = some ad) (hj : j < len)
    (hs : ∀ w, (sizeOf t).run P w = .ok m w) (hx : ev n s x = .pointer (some (ad.add (j * m)))) (hy : ev n s y = v) (hl : v.cells = new.toArray) (hm : new.length = m) (hv : ∀ v ∈ new, one v = true)
    (h : ∀ sb' w', SlB e m A len c (pr ++ (new ++ po)) sb' → FR w0 Ds (pre ++ (sb' ++ post)) w' → Same (sb.map (·.1)) w w' → sb'.map (·.1) = sb.map (·.1) → Dg P R n ops kt zs order (fun _ => True) s w')
    (hw : wantedB ops n s ⟨none, .store t x y, ty, pos, aft, g⟩ = true := by rfl) (hz : zs.contains i = true := by rfl) : Dg P R n ops kt zs (.act i order) C s w := by
  obtain ⟨sb', w', h1, h2, h3, h4, h5⟩ := slstoreMid (P := P) (n := n) (s := s) (dst := none) (ty := ty) (pos := pos) (aft := aft) (g := g) pre post hF hS hp hmm hA hj hs hx hy hl hm hv
  exact f_unitz hi h1 (h sb' w' h2 h3 h4 h5) hw hz
end
end Go.Scarf
