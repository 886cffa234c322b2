/- A part of the proof. -/
import Derived.Test.YtehmojdjpmliaaaGreatDoorFr
set_option linter.all false
namespace Go.Scarf
open Go.RowKit
inductive Tree where
  | node (kind : Int) (text : Str) (keys : List Str) (items : List Tree)
namespace Tree
def kind : Tree → Int | .node k _ _ _ => k
def text : Tree → Str | .node _ t _ _ => t
def keys : Tree → List Str | .node _ _ ks _ => ks
def items : Tree → List Tree | .node _ _ _ xs => xs
end Tree
def strD (s : Str) : D := .lit (.string (bs s))
def intD (n : Int) : D := .lit (.int .i64 n)
def strsD (ks : List Str) : D := .slice (ks.map strD)
mutual
def treeD : Tree → D
  | .node k t ks xs => .agg [intD k, strD t, strsD ks, .slice (treesD xs)]
def treesD : List Tree → List D
  | [] => []
  | x :: xs => treeD x :: treesD xs
end
theorem treesD_eq : ∀ xs : List Tree, treesD xs = xs.map treeD
  | [] => rfl
  | x :: xs => by simp [treesD, treesD_eq xs]
@[simp] theorem treesD_length (xs : List Tree) : (treesD xs).length = xs.length := by simp [treesD_eq]
theorem size_treeD : ∀ t : Tree, sizeOfD (treeD t) = 4
  | .node _ _ _ _ => by simp [treeD, sizeOfD, sizeOfD.sizeL, intD, strD, strsD]
section
variable {S : Nat → Prop} {w : World}
theorem RepL.nil_inv {cs : List Value} (h : RepL S w [] cs) : cs = [] := by unfold RepL at h; exact h
theorem RepL.cons_inv {d : D} {ds : List D} {cs : List Value} (h : RepL S w (d :: ds) cs) : ∃ c1 c2, cs = c1 ++ c2 ∧ Rep S w d c1 ∧ RepL S w ds c2 := by unfold RepL at h; exact h
theorem RepL.cons_mk {d : D} {ds : List D} {c1 c2 : List Value} (h : Rep S w d c1) (k : RepL S w ds c2) : RepL S w (d :: ds) (c1 ++ c2) := by unfold RepL; exact ⟨c1, c2, rfl, h, k⟩
theorem RepL.nil_mk : RepL S w [] [] := by unfold RepL; rfl
theorem Rep.agg_inv {ds : List D} {cs : List Value} (h : Rep S w (.agg ds) cs) : RepL S w ds cs := by unfold Rep at h; exact h
theorem Rep.agg_mk {ds : List D} {cs : List Value} (h : RepL S w ds cs) : Rep S w (.agg ds) cs := by unfold Rep; exact h
theorem Rep.lit_inv {v : Value} {cs : List Value} (h : Rep S w (.lit v) cs) : cs = [v] ∧ okLit v := by unfold Rep at h; exact h
theorem Rep.lit_mk {v : Value} (h : okLit v) : Rep S w (.lit v) [v] := by unfold Rep; exact ⟨rfl, h⟩
theorem Rep.int_inv {n : Int} {cs : List Value} (h : Rep S w (intD n) cs) : cs = [.int .i64 n] ∧ -9223372036854775808 ≤ n ∧ n ≤ 9223372036854775807 := by
  obtain ⟨h1, h2⟩ := Rep.lit_inv h
  exact ⟨h1, h2.1, h2.2⟩
theorem Rep.str_inv {t : Str} {cs : List Value} (h : Rep S w (strD t) cs) : cs = [.string (bs t)] ∧ t.length ≤ 9223372036854775807 := Rep.lit_inv h
theorem Rep.slice_inv {ds : List D} {cs : List Value} (h : Rep S w (.slice ds) cs) : ∃ (A : Option Addr) (c : Nat), cs = [.slice A ds.length c] ∧ ds.length ≤ c ∧ c ≤ 9223372036854775807 ∧
    (ds ≠ [] → ∃ ad, A = some ad ∧ ∃ es, CellsAt S w ad es ∧ RepL S w ds es) := by unfold Rep at h; exact h
theorem Rep.slice_mk {ds : List D} {A : Option Addr} {n c : Nat} (hn : n = ds.length) (h1 : n ≤ c) (h2 : c ≤ 9223372036854775807)
    (h : ds ≠ [] → ∃ ad, A = some ad ∧ ∃ es, CellsAt S w ad es ∧ RepL S w ds es) : Rep S w (.slice ds) [.slice A n c] := by
  subst hn; unfold Rep; exact ⟨A, c, rfl, h1, h2, h⟩
theorem Rep.nil_slice (c : Nat) (hc : c ≤ 9223372036854775807) (A : Option Addr) : Rep S w (.slice []) [.slice A 0 c] := Rep.slice_mk rfl (Nat.zero_le _) hc (fun h => absurd rfl h)
theorem CellsAt.get {ad : Addr} {es : List Value} (h : CellsAt S w ad es) (i m : Nat) (hi : i + m ≤ es.length) : ∀ j (hj : j < ((es.drop i).take m).length), w.cell? ((ad.add i).add j) = some ((es.drop i).take m)[j] := by
  intro j hj
  have hj' : i + j < es.length := by simp at hj; omega
  rw [add_of_add, (h (i + j) hj').1]
  simp
theorem Rep.elem {ds : List D} {A : Option Addr} {len c : Nat} {sz : Nat} (h : Rep S w (.slice ds) [.slice A len c]) (hs : ∀ d ∈ ds, sizeOfD d = sz) {i : Nat} (hi : i < ds.length) :
    ∃ ad cs, A = some ad ∧ cs.length = sz ∧ (∀ j (hj : j < cs.length), w.cell? ((ad.add (i * sz)).add j) = some cs[j]) ∧ Rep S w ds[i] cs := by
  obtain ⟨A', c', hA, _, _, hr⟩ := Rep.slice_inv h
  simp only [List.cons.injEq, Value.slice.injEq, and_true] at hA
  obtain ⟨rfl, _, _⟩ := hA
  obtain ⟨ad, rfl, es, hc, hl⟩ := hr (by intro e; subst e; simp at hi)
  obtain ⟨g, gl⟩ := hl.get hs i hi
  have e : (i + 1) * sz = i * sz + sz := by rw [Nat.add_mul, Nat.one_mul]
  refine ⟨ad, (es.drop (i * sz)).take sz, rfl, by simp; omega, ?_, g⟩
  exact hc.get (i * sz) sz (by omega)
theorem Rep.slice_len {ds : List D} {A : Option Addr} {len c : Nat} (h : Rep S w (.slice ds) [.slice A len c]) : len = ds.length ∧ len ≤ c ∧ c ≤ 9223372036854775807 := by
  obtain ⟨A', c', hA, h1, h2, _⟩ := Rep.slice_inv h
  simp only [List.cons.injEq, Value.slice.injEq, and_true] at hA
  obtain ⟨rfl, rfl, rfl⟩ := hA
  exact ⟨rfl, h1, h2⟩
theorem Rep.str_elem {ks : List Str} {A : Option Addr} {len c : Nat} (h : Rep S w (strsD ks) [.slice A len c]) {i : Nat} (hi : i < ks.length) :
    ∃ ad, A = some ad ∧ w.cell? (ad.add (i * 1)) = some (.string (bs ks[i])) ∧ ks[i].length ≤ 9223372036854775807 := by
  obtain ⟨ad, cs, hA, _, hc, hr⟩ := Rep.elem (sz := 1) h (fun d hd => by obtain ⟨k, _, rfl⟩ := List.mem_map.1 hd; rfl) (i := i) (by simpa using hi)
  rw [List.getElem_map] at hr
  obtain ⟨rfl, hs⟩ := Rep.str_inv hr
  have := hc 0 (by simp)
  simp only [add_zero_, List.getElem_cons_zero] at this
  exact ⟨ad, hA, this, hs⟩
theorem Rep.tree_inv {k : Int} {t : Str} {ks : List Str} {xs : List Tree} {cs : List Value} (h : Rep S w (treeD (.node k t ks xs)) cs) :
    ∃ (A : Option Addr) (c : Nat) (B : Option Addr) (e : Nat), cs = [.int .i64 k, .string (bs t), .slice A ks.length c, .slice B xs.length e] ∧ (-9223372036854775808 ≤ k ∧ k ≤ 9223372036854775807) ∧ t.length ≤ 9223372036854775807 ∧
      Rep S w (strsD ks) [.slice A ks.length c] ∧ Rep S w (.slice (treesD xs)) [.slice B xs.length e] := by
  unfold treeD at h
  obtain ⟨c1, r1, rfl, h1, h⟩ := RepL.cons_inv (Rep.agg_inv h)
  obtain ⟨c2, r2, rfl, h2, h⟩ := RepL.cons_inv h
  obtain ⟨c3, r3, rfl, h3, h⟩ := RepL.cons_inv h
  obtain ⟨c4, r4, rfl, h4, h⟩ := RepL.cons_inv h
  obtain rfl := RepL.nil_inv h
  obtain ⟨rfl, hk⟩ := Rep.int_inv h1
  obtain ⟨rfl, ht⟩ := Rep.str_inv h2
  obtain ⟨A, c, rfl, _⟩ := Rep.slice_inv h3
  obtain ⟨B, e, rfl, _⟩ := Rep.slice_inv h4
  simp only [List.length_map, treesD_length] at h3 h4
  exact ⟨A, c, B, e, by simp, hk, ht, h3, h4⟩
theorem Rep.tree_mk {k : Int} {t : Str} {ks : List Str} {xs : List Tree} {v u : Value} (hk : -9223372036854775808 ≤ k ∧ k ≤ 9223372036854775807) (ht : t.length ≤ 9223372036854775807)
    (h3 : Rep S w (strsD ks) [v]) (h4 : Rep S w (.slice (treesD xs)) [u]) : Rep S w (treeD (.node k t ks xs)) [.int .i64 k, .string (bs t), v, u] := by
  unfold treeD
  have h1 : Rep S w (intD k) [.int .i64 k] := Rep.lit_mk ⟨hk.1, hk.2⟩
  have h2 : Rep S w (strD t) [.string (bs t)] := Rep.lit_mk ht
  exact Rep.agg_mk (RepL.cons_mk h1 (RepL.cons_mk h2 (RepL.cons_mk h3 (RepL.cons_mk h4 RepL.nil_mk))))
theorem Rep.tree_elem {xs : List Tree} {A : Option Addr} {len c : Nat} (h : Rep S w (.slice (treesD xs)) [.slice A len c]) {i : Nat} (hi : i < xs.length) :
    ∃ ad cs, A = some ad ∧ cs.length = 4 ∧ (∀ j (hj : j < cs.length), w.cell? ((ad.add (i * 4)).add j) = some cs[j]) ∧ Rep S w (treeD xs[i]) cs := by
  obtain ⟨ad, cs, hA, hl, hc, hr⟩ := Rep.elem (sz := 4) h (fun d hd => by rw [treesD_eq] at hd; obtain ⟨k, _, rfl⟩ := List.mem_map.1 hd; exact size_treeD k) (i := i) (by simpa using hi)
  refine ⟨ad, cs, hA, hl, hc, ?_⟩
  simpa [treesD_eq] using hr
end
section
variable {S : Nat → Prop} {w w0 : World} {Ds : List Nat} {bs : List (Nat × Obj)}
theorem FR.rep {d : D} {cs : List Value} (hF : FR w0 [] bs w) (h : Rep S w0 d cs) : Rep S w d cs := h.same hF.same (by simp)
theorem FR.cells0 {ad : Addr} {cs : List Value} (hF : FR w0 [] bs w) (h : ∀ j (hj : j < cs.length), w0.cell? (ad.add j) = some cs[j]) : ∀ j (hj : j < cs.length), w.cell? (ad.add j) = some cs[j] := fun j hj => by
  have h1 := h j hj
  rw [← h1]
  exact World.cell?_of_block (w := w0) (hF.same.block _ (World.block_lt_of_cell? _ _ h1) (by simp))
theorem FR.cell0 {ad : Addr} {v : Value} (hF : FR w0 [] bs w) (h : w0.cell? ad = some v) : w.cell? ad = some v := by
  rw [← h]
  exact World.cell?_of_block (w := w0) (hF.same.block _ (World.block_lt_of_cell? _ _ h) (by simp))
end
end Go.Scarf
namespace Go.Scarf
open Go.RowKit
section
variable {S : Nat → Prop} {w : World}
theorem okLit_one {v : Value} (h : okLit v) : one v = true := by cases v <;> first | rfl | exact h.elim
mutual
theorem Rep.one_ : ∀ {d : D} {cs : List Value}, Rep S w d cs → ∀ v ∈ cs, one v = true
  | .lit u, cs, h => by
    obtain ⟨rfl, h2⟩ := Rep.lit_inv h
    intro v hv
    obtain rfl : v = u := by simpa using hv
    exact okLit_one h2
  | .agg ds, cs, h => RepL.one_ (Rep.agg_inv h)
  | .slice ds, cs, h => by
    obtain ⟨A, c, rfl, _⟩ := Rep.slice_inv h
    intro v hv
    obtain rfl : v = _ := by simpa using hv
    rfl
theorem RepL.one_ : ∀ {ds : List D} {cs : List Value}, RepL S w ds cs → ∀ v ∈ cs, one v = true
  | [], cs, h => by have := RepL.nil_inv h; subst this; intro v hv; cases hv
  | d :: ds, cs, h => by
    obtain ⟨c1, c2, rfl, h1, h2⟩ := RepL.cons_inv h
    intro v hv
    rcases List.mem_append.1 hv with hv | hv
    · exact Rep.one_ h1 v hv
    · exact RepL.one_ h2 v hv
end
def wr (n : Int) : Int := IntKind.i64.wrap n
theorem wr_wr_add (a b : Int) : IntKind.i64.wrap (wr a + wr b) = wr (a + b) := by
  unfold wr; rw [IntKind.wrap_i64, IntKind.wrap_i64, IntKind.wrap_i64, IntKind.wrap_i64]; omega
theorem wr_add (a b : Int) : IntKind.i64.wrap (wr a + b) = wr (a + b) := by
  unfold wr; rw [IntKind.wrap_i64, IntKind.wrap_i64, IntKind.wrap_i64]; omega
theorem wrap_id {x : Int} (h1 : -9223372036854775808 ≤ x) (h2 : x ≤ 9223372036854775807) : IntKind.i64.wrap x = x := by
  rw [IntKind.wrap_i64]; omega
theorem wrap_to {x c : Int} (h : x = c) (h1 : -9223372036854775808 ≤ c) (h2 : c ≤ 9223372036854775807) : IntKind.i64.wrap x = c := by
  subst h; exact wrap_id h1 h2
end
section
variable {P : Program} {R : Exit → Act → World → Prop} {n : Nat} {k : Kt} {s : Nat → Value} {w : World} {ops rest : List Oper}
variable {d : Nat} {dst : Option Nat} {ty : TypeId} {pos : String} {aft : Array Edge} {g : Option (Nat × Bool)} {ρ : Operand → Value}
variable {w0 : World} {Ds : List Nat} {bs : List (Nat × Obj)}
theorem Cg.slots {c : Code} {l : List (Nat × Value)} (hs : AllEq s l) (h : ∀ s', Cg P R n c k (upds s' l) w) : Cg P R n c k s w := by
  have := h s
  rwa [← hs.eq] at this
theorem Eg.slots {e : Exit} {l : List (Nat × Value)} (hs : AllEq s l) (h : ∀ s', Eg P R n e k (upds s' l) w) : Eg P R n e k s w := by
  have := h s
  rwa [← hs.eq] at this
theorem x_indexAddrA {t e m : Nat} {x y : Operand} {kk : IntKind} {A : Option Addr} {ad : Addr} {len cap : Nat} {i : Int} (ht : SliceOf P t e m) (hx : ρ x = .slice A len cap) (hA : A = some ad) (hy : ρ y = .int kk i) (h0 : 0 ≤ i) (h1 : i < len) :
    (execOp ρ ⟨dst, .indexAddr t x y, ty, pos, aft, g⟩).run P w = .ok (.value (.pointer (some (ad.add (i.toNat * m))))) w := by
  subst hA; exact x_indexAddr ht hx hy h0 h1
theorem c_drawF {id : Nat} (zs : List Nat) (order : Ord) (hm : P.follows .mixedOrders = true) (hF : FR w0 Ds bs w) (hs : Region.noSelect ops.toArray = true)
    (hB : ordOk .any ops.toArray zs true ops.toArray.size order (Array.replicate ops.toArray.size false) = true)
    (h : ∀ w', FR w0 Ds bs w' → Same [] w w' → ∃ C : World → Prop, C w' ∧ Dg P R n ops k zs order C s w') : Cg P R n (.region id ops.toArray true) k s w := by
  obtain ⟨C, hC, hD⟩ := h w.drew hF.drew (Same.drew w)
  exact c_draw order zs C hm hs hB hC hD
end
end Go.Scarf
