/- A part of the proof. -/
import Derived.Below
import Derived.Laws.OwnMore
import Derived.Deep.Draws
import Derived.Laws.Rows
set_option linter.all false
namespace Go.Scarf
open Go.RowKit
theorem hide {p : Prop} (h : p) : Hid p := h
def okLit : Value → Prop
  | .int k n => k.min ≤ n ∧ n ≤ k.max
  | .bool _ => True
  | .string s => s.size ≤ 9223372036854775807
  | _ => False
inductive D where
  | lit (v : Value)
  | agg (ds : List D)
  | slice (ds : List D)
def CellsAt (S : Nat → Prop) (w : World) (ad : Addr) (cs : List Value) : Prop :=
  ∀ i (h : i < cs.length), w.cell? (ad.add i) = some cs[i] ∧ S ad.block
mutual
def Rep (S : Nat → Prop) (w : World) : D → List Value → Prop
  | .lit v, cs => cs = [v] ∧ okLit v
  | .agg ds, cs => RepL S w ds cs
  | .slice ds, cs => ∃ (A : Option Addr) (c : Nat), cs = [.slice A ds.length c] ∧ ds.length ≤ c ∧ c ≤ 9223372036854775807 ∧
      (ds ≠ [] → ∃ ad, A = some ad ∧ ∃ es, CellsAt S w ad es ∧ RepL S w ds es)
def RepL (S : Nat → Prop) (w : World) : List D → List Value → Prop
  | [], cs => cs = []
  | d :: ds, cs => ∃ c1 c2, cs = c1 ++ c2 ∧ Rep S w d c1 ∧ RepL S w ds c2
end
theorem block_of_add (a : Addr) (n : Nat) : (a.add n).block = a.block := by unfold Addr.add; split <;> rfl
theorem add_of_add (a : Addr) (i j : Nat) : (a.add i).add j = a.add (i + j) := by
  unfold Addr.add
  by_cases hi : i = 0 <;> by_cases hj : j = 0 <;> simp [hi, hj, Nat.add_assoc]
theorem add_zero_ (a : Addr) : a.add 0 = a := by simp [Addr.add]
theorem CellsAt.keep {S : Nat → Prop} {w w' : World} {ad : Addr} {cs : List Value} (h : CellsAt S w ad cs)
    (hk : ∀ b, S b → b < w.heap.size → w'.heap[b]? = w.heap[b]?) : CellsAt S w' ad cs := fun i hi => by
  obtain ⟨hc, hs⟩ := h i hi
  have hb := World.block_lt_of_cell? _ _ hc
  rw [block_of_add] at hb
  refine ⟨?_, hs⟩
  rw [← hc]
  exact World.cell?_of_block (w := w) (by rw [block_of_add]; exact hk _ hs hb)
theorem CellsAt.weaken {S S' : Nat → Prop} {w : World} {ad : Addr} {cs : List Value} (h : CellsAt S w ad cs)
    (hk : ∀ b, S b → b < w.heap.size → S' b) : CellsAt S' w ad cs := fun i hi => by
  obtain ⟨hc, hs⟩ := h i hi
  have hb := World.block_lt_of_cell? _ _ hc
  rw [block_of_add] at hb
  exact ⟨hc, hk _ hs hb⟩
mutual
theorem Rep.keep {S : Nat → Prop} {w w' : World} (hk : ∀ b, S b → b < w.heap.size → w'.heap[b]? = w.heap[b]?) :
    ∀ {d : D} {cs : List Value}, Rep S w d cs → Rep S w' d cs
  | .lit v, cs, h => by unfold Rep at h ⊢; exact h
  | .agg ds, cs, h => by unfold Rep at h ⊢; exact RepL.keep hk h
  | .slice ds, cs, h => by
    unfold Rep at h ⊢
    obtain ⟨A, c, rfl, h1, h2, h3⟩ := h
    refine ⟨A, c, rfl, h1, h2, fun hne => ?_⟩
    obtain ⟨ad, rfl, es, hc, hr⟩ := h3 hne
    exact ⟨ad, rfl, es, hc.keep hk, RepL.keep hk hr⟩
theorem RepL.keep {S : Nat → Prop} {w w' : World} (hk : ∀ b, S b → b < w.heap.size → w'.heap[b]? = w.heap[b]?) :
    ∀ {ds : List D} {cs : List Value}, RepL S w ds cs → RepL S w' ds cs
  | [], cs, h => by unfold RepL at h ⊢; exact h
  | d :: ds, cs, h => by
    unfold RepL at h ⊢
    obtain ⟨c1, c2, rfl, h1, h2⟩ := h
    exact ⟨c1, c2, rfl, Rep.keep hk h1, RepL.keep hk h2⟩
end
mutual
theorem Rep.weaken {S S' : Nat → Prop} {w : World} (hk : ∀ b, S b → b < w.heap.size → S' b) :
    ∀ {d : D} {cs : List Value}, Rep S w d cs → Rep S' w d cs
  | .lit v, cs, h => by unfold Rep at h ⊢; exact h
  | .agg ds, cs, h => by unfold Rep at h ⊢; exact RepL.weaken hk h
  | .slice ds, cs, h => by
    unfold Rep at h ⊢
    obtain ⟨A, c, rfl, h1, h2, h3⟩ := h
    refine ⟨A, c, rfl, h1, h2, fun hne => ?_⟩
    obtain ⟨ad, rfl, es, hc, hr⟩ := h3 hne
    exact ⟨ad, rfl, es, hc.weaken hk, RepL.weaken hk hr⟩
theorem RepL.weaken {S S' : Nat → Prop} {w : World} (hk : ∀ b, S b → b < w.heap.size → S' b) :
    ∀ {ds : List D} {cs : List Value}, RepL S w ds cs → RepL S' w ds cs
  | [], cs, h => by unfold RepL at h ⊢; exact h
  | d :: ds, cs, h => by
    unfold RepL at h ⊢
    obtain ⟨c1, c2, rfl, h1, h2⟩ := h
    exact ⟨c1, c2, rfl, Rep.weaken hk h1, RepL.weaken hk h2⟩
end
theorem RepL.append {S : Nat → Prop} {w : World} : ∀ {ds es : List D} {cs ct : List Value}, RepL S w ds cs → RepL S w es ct → RepL S w (ds ++ es) (cs ++ ct)
  | [], es, cs, ct, h, k => by unfold RepL at h; subst h; simpa using k
  | d :: ds, es, cs, ct, h, k => by
    unfold RepL at h
    obtain ⟨c1, c2, rfl, h1, h2⟩ := h
    simp only [List.cons_append, List.append_assoc]
    unfold RepL
    exact ⟨c1, c2 ++ ct, rfl, h1, RepL.append h2 k⟩
def sizeOfD : D → Nat
  | .lit _ => 1
  | .slice _ => 1
  | .agg ds => sizeL ds
where sizeL : List D → Nat
  | [] => 0
  | d :: ds => sizeOfD d + sizeL ds
mutual
theorem Rep.length {S : Nat → Prop} {w : World} : ∀ {d : D} {cs : List Value}, Rep S w d cs → cs.length = sizeOfD d
  | .lit v, cs, h => by unfold Rep at h; simp [h.1, sizeOfD]
  | .agg ds, cs, h => by unfold Rep at h; simpa [sizeOfD] using RepL.length h
  | .slice ds, cs, h => by unfold Rep at h; obtain ⟨A, c, rfl, _⟩ := h; simp [sizeOfD]
theorem RepL.length {S : Nat → Prop} {w : World} : ∀ {ds : List D} {cs : List Value}, RepL S w ds cs → cs.length = sizeOfD.sizeL ds
  | [], cs, h => by unfold RepL at h; simp [h, sizeOfD.sizeL]
  | d :: ds, cs, h => by
    unfold RepL at h
    obtain ⟨c1, c2, rfl, h1, h2⟩ := h
    simp [sizeOfD.sizeL, Rep.length h1, RepL.length h2]
end
theorem RepL.get {S : Nat → Prop} {w : World} {sz : Nat} : ∀ {ds : List D} {cs : List Value}, RepL S w ds cs → (∀ d ∈ ds, sizeOfD d = sz) → ∀ i (hi : i < ds.length),
    Rep S w ds[i] ((cs.drop (i * sz)).take sz) ∧ (i + 1) * sz ≤ cs.length
  | [], _, _, _, i, hi => absurd hi (by simp)
  | d :: ds, cs, h, hs, i, hi => by
    unfold RepL at h
    obtain ⟨c1, c2, rfl, h1, h2⟩ := h
    have l1 : c1.length = sz := (Rep.length h1).trans (hs d (by simp))
    cases i with
    | zero => exact ⟨by simpa [l1] using h1, by simp [l1]⟩
    | succ i =>
      obtain ⟨g, gl⟩ := RepL.get h2 (fun d hd => hs d (by simp [hd])) i (by simpa using hi)
      have e : (i + 1) * sz = sz + i * sz := by rw [Nat.add_mul, Nat.one_mul, Nat.add_comm]
      refine ⟨?_, by rw [Nat.add_mul, Nat.one_mul]; simp [l1]; omega⟩
      have e2 : (c1 ++ c2).drop ((i + 1) * sz) = c2.drop (i * sz) := by
        rw [e, List.drop_append, List.drop_eq_nil_of_le (by omega), l1, Nat.add_sub_cancel_left, List.nil_append]
      rw [e2]
      simpa using g
structure Same (Ds : List Nat) (w w' : World) : Prop where
  os : w'.os = w.os
  tape : w'.tape = w.tape
  output : w'.output = w.output
  size : w.heap.size ≤ w'.heap.size
  block : ∀ b, b < w.heap.size → b ∉ Ds → w'.heap[b]? = w.heap[b]?
theorem Same.refl (Ds : List Nat) (w : World) : Same Ds w w := ⟨rfl, rfl, rfl, Nat.le_refl _, fun _ _ _ => rfl⟩
theorem Same.trans {Ds : List Nat} {a b c : World} (h : Same Ds a b) (k : Same Ds b c) : Same Ds a c :=
  ⟨k.os.trans h.os, k.tape.trans h.tape, k.output.trans h.output, Nat.le_trans h.size k.size,
    fun i hi hn => (k.block i (Nat.lt_of_lt_of_le hi h.size) hn).trans (h.block i hi hn)⟩
theorem Same.mono {Ds Ds' : List Nat} {w w' : World} (h : Same Ds w w') (hd : ∀ b ∈ Ds, b < w.heap.size → b ∈ Ds') : Same Ds' w w' :=
  ⟨h.os, h.tape, h.output, h.size, fun b hb hn => h.block b hb (fun hi => hn (hd b hi hb))⟩
theorem Same.below {w w' : World} (h : Same [] w w') : Below w.heap.size w w' :=
  ⟨h.os, h.tape, h.output, h.size, fun b hb => h.block b hb (by simp)⟩
theorem Same.of_below {w w' : World} (h : Below w.heap.size w w') : Same [] w w' :=
  ⟨h.os, h.tape, h.output, h.size, fun b hb _ => h.block b hb⟩
theorem Same.alloc (w : World) (o : Obj) : Same [] w (w.alloc o) := .of_below ((Below.refl _ _).alloc (Nat.le_refl _) o)
theorem Same.drew (w : World) : Same [] w w.drew := .of_below (Below.refl _ _).drew
theorem Same.setCell (w : World) (a : Addr) (v : Value) : Same [a.block] w (w.setCell a v) :=
  ⟨rfl, rfl, rfl, by simp, fun b _ hn => Below.heap_setCell _ _ _ _ (by simpa using hn)⟩
theorem Rep.same {S : Nat → Prop} {Ds : List Nat} {w w' : World} {d : D} {cs : List Value} (h : Rep S w d cs) (hs : Same Ds w w') (hd : ∀ b ∈ Ds, ¬ S b) : Rep S w' d cs :=
  h.keep fun b hb hl => hs.block b hl (fun hi => hd b hi hb)
theorem Rep.ext {S : Nat → Prop} {w w' : World} {d : D} {cs : List Value} (h : Rep S w d cs) (hs : Same [] w w') : Rep S w' d cs := h.same hs (by simp)
theorem RepL.same {S : Nat → Prop} {Ds : List Nat} {w w' : World} {ds : List D} {cs : List Value} (h : RepL S w ds cs) (hs : Same Ds w w') (hd : ∀ b ∈ Ds, ¬ S b) : RepL S w' ds cs :=
  h.keep fun b hb hl => hs.block b hl (fun hi => hd b hi hb)
theorem CellsAt.same {S : Nat → Prop} {Ds : List Nat} {w w' : World} {ad : Addr} {cs : List Value} (h : CellsAt S w ad cs) (hs : Same Ds w w') (hd : ∀ b ∈ Ds, ¬ S b) : CellsAt S w' ad cs :=
  h.keep fun b hb hl => hs.block b hl (fun hi => hd b hi hb)
structure FR (w0 : World) (Ds : List Nat) (bs : List (Nat × Obj)) (w : World) : Prop where
  same : Same Ds w0 w
  own : ∀ p ∈ bs, w.heap[p.1]? = some p.2 ∧ (w0.heap.size ≤ p.1 ∨ p.1 ∈ Ds)
  desc : bs.Pairwise (fun p q => q.1 ≠ p.1)
theorem FR.start (w : World) (Ds : List Nat) : FR w Ds [] w := ⟨.refl _ _, by simp, by simp⟩
section
variable {w0 w : World} {Ds : List Nat} {bs : List (Nat × Obj)}
theorem lt_of_some {w : World} {b : Nat} {o : Obj} (h : w.heap[b]? = some o) : b < w.heap.size := by
  rcases Nat.lt_or_ge b w.heap.size with h' | h'
  · exact h'
  · rw [Array.getElem?_eq_none h'] at h; cases h
theorem FR.lt (h : FR w0 Ds bs w) {i : Nat} {b : Nat} {o : Obj} (hi : bs[i]? = some (b, o)) : b < w.heap.size :=
  lt_of_some (h.own (b, o) (List.mem_of_getElem? hi)).1
theorem FR.geD (h : FR w0 Ds bs w) {i : Nat} {b : Nat} {o : Obj} (hi : bs[i]? = some (b, o)) : w0.heap.size ≤ b ∨ b ∈ Ds :=
  (h.own (b, o) (List.mem_of_getElem? hi)).2
theorem FR.ge (h : FR w0 [] bs w) {i : Nat} {b : Nat} {o : Obj} (hi : bs[i]? = some (b, o)) : w0.heap.size ≤ b := by
  rcases h.geD hi with h | h
  · exact h
  · cases h
theorem FR.open_ {bs : List (Nat × Obj)} (h : ∀ p ∈ bs, w.heap[p.1]? = some p.2 ∧ p.1 ∈ Ds) (hd : bs.Pairwise (fun p q => q.1 ≠ p.1)) : FR w Ds bs w :=
  ⟨.refl _ _, fun p hp => ⟨(h p hp).1, .inr (h p hp).2⟩, hd⟩
theorem FR.heap (h : FR w0 Ds bs w) {i : Nat} {b : Nat} {o : Obj} (hi : bs[i]? = some (b, o)) : w.heap[b]? = some o :=
  (h.own (b, o) (List.mem_of_getElem? hi)).1
theorem FR.drew (h : FR w0 Ds bs w) : FR w0 Ds bs w.drew := ⟨h.same.trans ((Same.drew w).mono (by simp)), h.own, h.desc⟩
theorem FR.alloc (h : FR w0 Ds bs w) (o : Obj) : FR w0 Ds ((w.heap.size, o) :: bs) (w.alloc o) := by
  refine ⟨h.same.trans ((Same.alloc w o).mono (by simp)), fun p hp => ?_, ?_⟩
  · rcases List.mem_cons.1 hp with rfl | hp
    · exact ⟨heap_alloc_new w o, .inl h.same.size⟩
    · have := h.own p hp
      exact ⟨(Below.heap_alloc w o p.1 (lt_of_some this.1)).trans this.1, this.2⟩
  · exact List.pairwise_cons.2 ⟨fun q hq => by have := lt_of_some (h.own q hq).1; show q.1 ≠ w.heap.size; omega, h.desc⟩
theorem FR.ext {w' : World} (h : FR w0 Ds bs w) (hs : Same [] w w') : FR w0 Ds bs w' :=
  ⟨h.same.trans (hs.mono (by simp)), fun p hp => by
    have := h.own p hp
    exact ⟨(hs.block p.1 (lt_of_some this.1) (by simp)).trans this.1, this.2⟩, h.desc⟩
theorem FR.touch {w' : World} {E : List Nat} (h : FR w0 Ds bs w) (hs : Same E w w') (he : ∀ b ∈ E, (b < w0.heap.size → b ∈ Ds) ∧ ∀ p ∈ bs, p.1 ≠ b) : FR w0 Ds bs w' := by
  refine ⟨⟨hs.os.trans h.same.os, hs.tape.trans h.same.tape, hs.output.trans h.same.output, Nat.le_trans h.same.size hs.size, fun b hb hn => ?_⟩, fun p hp => ?_, h.desc⟩
  · exact (hs.block b (Nat.lt_of_lt_of_le hb h.same.size) (fun hi => hn ((he b hi).1 hb))).trans (h.same.block b hb hn)
  · have := h.own p hp
    exact ⟨(hs.block p.1 (lt_of_some this.1) (fun hi => (he p.1 hi).2 p hp rfl)).trans this.1, this.2⟩
theorem FR.clear (h : FR w0 Ds bs w) : FR w0 Ds [] w := ⟨h.same, by simp, by simp⟩
theorem FR.drop (h : FR w0 Ds bs w) (k : Nat) : FR w0 Ds (bs.drop k) w :=
  ⟨h.same, fun p hp => h.own p (List.mem_of_mem_drop hp), h.desc.sublist (List.drop_sublist k bs)⟩
theorem FR.erase (h : FR w0 Ds bs w) (k : Nat) : FR w0 Ds (bs.eraseIdx k) w :=
  ⟨h.same, fun p hp => h.own p (List.mem_of_mem_eraseIdx hp), h.desc.sublist (List.eraseIdx_sublist bs k)⟩
theorem front_perm {α : Type} : ∀ (l : List α) (k : Nat) {p : α}, l[k]? = some p → (p :: l.eraseIdx k).Perm l
  | [], k, p, h => by simp at h
  | x :: l, 0, p, h => by simp at h; subst h; exact .refl _
  | x :: l, k + 1, p, h => by
    have h' : l[k]? = some p := by simpa using h
    have := front_perm l k h'
    exact (List.Perm.swap x p _).trans (this.cons x)
theorem FR.front (h : FR w0 Ds bs w) (k : Nat) {p : Nat × Obj} (hk : bs[k]? = some p) : FR w0 Ds (p :: bs.eraseIdx k) w := by
  have hp : (p :: bs.eraseIdx k).Perm bs := front_perm bs k hk
  exact ⟨h.same, fun q hq => h.own q (hp.mem_iff.1 hq), (hp.pairwise_iff (fun {a b} hab e => hab e.symm)).2 h.desc⟩
theorem FR.perm {bs' : List (Nat × Obj)} (h : FR w0 Ds bs w) (hp : bs'.Perm bs) : FR w0 Ds bs' w :=
  ⟨h.same, fun q hq => h.own q (hp.mem_iff.1 hq), (hp.pairwise_iff (fun {a b} hab e => hab e.symm)).2 h.desc⟩
theorem FR.toseg (h : FR w0 Ds bs w) (k : Nat) {p : Nat × Obj} (hk : bs[k]? = some p) : FR w0 Ds (bs.eraseIdx k ++ ([p] ++ [])) w :=
  h.perm (by
    have h1 : (bs.eraseIdx k ++ [p]).Perm (p :: bs.eraseIdx k) := List.perm_append_comm
    exact h1.trans (front_perm bs k hk))
theorem desc_ne {bs : List (Nat × Obj)} (h : bs.Pairwise (fun p q => q.1 ≠ p.1)) {i j : Nat} {p q : Nat × Obj} (hi : bs[i]? = some p) (hj : bs[j]? = some q) (hne : i ≠ j) : p.1 ≠ q.1 := by
  obtain ⟨hi', rfl⟩ := List.getElem?_eq_some_iff.1 hi
  obtain ⟨hj', rfl⟩ := List.getElem?_eq_some_iff.1 hj
  rcases Nat.lt_or_ge i j with hlt | hge
  · exact fun e => List.pairwise_iff_getElem.1 h i j hi' hj' hlt e.symm
  · exact List.pairwise_iff_getElem.1 h j i hj' hi' (by omega)
theorem FR.change {w' : World} (h : FR w0 Ds bs w) (i : Nat) {b : Nat} {o o' : Obj} (hi : bs[i]? = some (b, o)) (hs : Same [b] w w') (hn : w'.heap[b]? = some o') :
    FR w0 Ds (bs.set i (b, o')) w' := by
  have hge := h.geD hi
  obtain ⟨hi', he⟩ := List.getElem?_eq_some_iff.1 hi
  refine ⟨⟨hs.os.trans h.same.os, hs.tape.trans h.same.tape, hs.output.trans h.same.output, Nat.le_trans h.same.size hs.size, fun c hc hnn => ?_⟩, fun p hp => ?_, ?_⟩
  · exact (hs.block c (Nat.lt_of_lt_of_le hc h.same.size) (fun hm => by
      simp only [List.mem_singleton] at hm
      subst hm
      rcases hge with h1 | h1
      · omega
      · exact hnn h1)).trans (h.same.block c hc hnn)
  · rw [List.mem_iff_getElem?] at hp
    obtain ⟨j, hj⟩ := hp
    rw [List.getElem?_set] at hj
    split at hj
    · rename_i hij
      subst hij
      simp at hj
      subst hj
      exact ⟨hn, hge⟩
    · rename_i hij
      have := h.own p (List.mem_of_getElem? hj)
      refine ⟨?_, this.2⟩
      refine (hs.block p.1 (lt_of_some this.1) ?_).trans this.1
      have hne := desc_ne h.desc hj hi (fun e => hij e.symm)
      simpa using hne
  · refine List.pairwise_iff_getElem.2 fun a c ha hc hac => ?_
    have ha' : a < bs.length := by simpa using ha
    have hc' : c < bs.length := by simpa using hc
    have e1 : ((bs.set i (b, o'))[a]'ha).1 = (bs[a]).1 := by
      rw [List.getElem_set]; split
      · rename_i hia; subst hia; rw [he]
      · rfl
    have e2 : ((bs.set i (b, o'))[c]'hc).1 = (bs[c]).1 := by
      rw [List.getElem_set]; split
      · rename_i hic; subst hic; rw [he]
      · rfl
    rw [e1, e2]
    exact List.pairwise_iff_getElem.1 h.desc a c ha' hc' hac
theorem cell_of_heap {w : World} {b : Nat} {cs : Array Value} {T : TypeId} {fz : Nat × Nat} (h : w.heap[b]? = some (.cells cs T fz)) (i : Nat) : w.cell? ⟨b, i, none⟩ = cs[i]? :=
  cell_of_row w b i cs T fz h
theorem FR.cell (h : FR w0 Ds bs w) (i : Nat) {b off : Nat} {cs : Array Value} {T : TypeId} {fz : Nat × Nat} {v : Value} (hi : bs[i]? = some (b, .cells cs T fz)) (hv : cs[off]? = some v) :
    w.cell? ⟨b, off, none⟩ = some v := (cell_of_heap (h.heap hi) off).trans hv
end
end Go.Scarf
