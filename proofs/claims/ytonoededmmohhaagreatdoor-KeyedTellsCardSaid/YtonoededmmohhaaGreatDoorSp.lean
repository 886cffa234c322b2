/- A part of the proof. -/
import Derived.Test.YtonoededmmohhaaGreatDoorW19
set_option linter.all false
namespace Go.Scarf
open Go.RowKit Go.Proofs
inductive Kin : Value → Value → Prop where
  | same (v : Value) : Kin v v
  | int (n m : Int) : -9223372036854775808 ≤ m → m ≤ 9223372036854775807 → Kin (.int .i64 n) (.int .i64 m)
  | str (s t : ByteArray) : t.size ≤ 9223372036854775807 → Kin (.string s) (.string t)
theorem Kin.trans {a b c : Value} (h : Kin a b) (k : Kin b c) : Kin a c := by
  cases h with
  | same => exact k
  | int n m h1 h2 =>
    cases k with
    | same => exact .int n m h1 h2
    | int _ q h3 h4 => exact .int n q h3 h4
  | str s t h1 =>
    cases k with
    | same => exact .str s t h1
    | str _ q h3 => exact .str s q h3
inductive KinL : List Value → List Value → Prop where
  | nil : KinL [] []
  | cons {a b : Value} {l m : List Value} : Kin a b → KinL l m → KinL (a :: l) (b :: m)
theorem KinL.refl : ∀ l : List Value, KinL l l
  | [] => .nil
  | a :: l => .cons (.same a) (KinL.refl l)
theorem KinL.split : ∀ {c1 c2 d : List Value}, KinL (c1 ++ c2) d → ∃ d1 d2, d = d1 ++ d2 ∧ KinL c1 d1 ∧ KinL c2 d2
  | [], c2, d, h => ⟨[], d, rfl, .nil, h⟩
  | a :: c1, c2, d, h => by
    cases h with
    | cons h1 h2 =>
      obtain ⟨d1, d2, rfl, k1, k2⟩ := KinL.split h2
      exact ⟨_ :: d1, d2, rfl, .cons h1 k1, k2⟩
theorem KinL.of : ∀ {l m : List Value}, l.length = m.length → (∀ i (h : i < l.length) (h' : i < m.length), Kin l[i] m[i]) → KinL l m
  | [], [], _, _ => .nil
  | a :: l, b :: m, hl, h => .cons (h 0 (by simp) (by simp)) (KinL.of (by simpa using hl) fun i hi hi' => h (i + 1) (by simpa using hi) (by simpa using hi'))
def Mold (w w' : World) : Prop := ∀ a v, w.cell? a = some v → ∃ v', w'.cell? a = some v' ∧ Kin v v'
theorem Mold.refl (w : World) : Mold w w := fun a v h => ⟨v, h, .same v⟩
theorem Mold.trans {a b c : World} (h : Mold a b) (k : Mold b c) : Mold a c := fun x v hx => by
  obtain ⟨v1, h1, k1⟩ := h x v hx
  obtain ⟨v2, h2, k2⟩ := k x v1 h1
  exact ⟨v2, h2, k1.trans k2⟩
theorem Mold.same {w w' : World} (h : Same [] w w') : Mold w w' := fun a v hc => ⟨v, ((FR.start w []).ext h).cell0 hc, .same v⟩
theorem Mold.set {w : World} {a : Addr} {u v : Value} (hc : w.cell? a = some u) (hk : Kin u v) : Mold w (w.setCell a v) := fun b x hb => by
  have key : ∀ c e f, w.heap[a.block]? = some (.cells c e f) → (w.setCell a v).heap[a.block]? = some (.cells (c.setIfInBounds a.off v) e f) := by
    intro c e f hh
    have hs : a.spot.isSome = false := by
      unfold World.cell? at hc
      rw [hh] at hc
      simp only at hc
      split at hc
      · cases hc
      · rename_i h; simpa using h
    simp [World.setCell, Array.getElem?_modify, hh, hs]
  by_cases hbl : b.block = a.block
  · unfold World.cell? at hb hc ⊢
    rw [hbl] at hb ⊢
    cases hh : w.heap[a.block]? with
    | none => rw [hh] at hb; cases hb
    | some o =>
      rw [hh] at hb hc
      cases o with
      | cells c e f =>
        rw [key c e f hh]
        simp only at hb hc ⊢
        split at hb
        · cases hb
        · rename_i hsp
          rw [if_neg hsp]
          split at hc
          · cases hc
          · by_cases ho : b.off = a.off
            · rw [ho] at hb ⊢
              have hx : x = u := by rw [hc] at hb; exact (Option.some.inj hb).symm
              subst hx
              have hlt : a.off < c.size := by
                rcases Nat.lt_or_ge a.off c.size with h | h
                · exact h
                · rw [Array.getElem?_eq_none h] at hc; cases hc
              exact ⟨v, by simp [hlt], hk⟩
            · exact ⟨x, by rw [Array.getElem?_setIfInBounds_ne (fun e => ho e.symm)]; exact hb, .same x⟩
      | _ => cases hb
  · refine ⟨x, ?_, .same x⟩
    rw [← hb]
    exact World.cell?_of_block (w := w) (Below.heap_setCell _ _ _ _ hbl)
theorem CellsAt.mold {S : Nat → Prop} {w w' : World} {ad : Addr} {cs : List Value} (h : CellsAt S w ad cs) (hm : Mold w w') : ∃ cs', CellsAt S w' ad cs' ∧ KinL cs cs' := by
  have key : ∀ n, n ≤ cs.length → ∃ l : List Value, l.length = n ∧ ∀ i (hi : i < l.length), w'.cell? (ad.add i) = some l[i] ∧ ∀ h' : i < cs.length, Kin cs[i] l[i] := by
    intro n
    induction n with
    | zero => exact fun _ => ⟨[], rfl, fun i hi => absurd hi (by simp)⟩
    | succ n ih =>
      intro hn
      obtain ⟨l, hl, h1⟩ := ih (by omega)
      obtain ⟨v', h2, h3⟩ := hm _ _ (h n (by omega)).1
      refine ⟨l ++ [v'], by simp [hl], fun i hi => ?_⟩
      by_cases hin : i < l.length
      · rw [List.getElem_append_left hin]; exact h1 i hin
      · have hi2 : i = n := by simp at hi; omega
        subst hi2
        rw [List.getElem_append_right (by omega)]
        simp only [hl, Nat.sub_self, List.getElem_cons_zero]
        exact ⟨h2, fun _ => h3⟩
  obtain ⟨l, hl, h1⟩ := key cs.length (Nat.le_refl _)
  refine ⟨l, fun i hi => ⟨(h1 i hi).1, (h i (by omega)).2⟩, KinL.of hl.symm fun i hi hi' => (h1 i hi').2 hi⟩
theorem kin_int {n : Int} {d : List Value} (h : KinL [.int .i64 n] d) (hn : -9223372036854775808 ≤ n ∧ n ≤ 9223372036854775807) : ∃ m : Int, d = [.int .i64 m] ∧ -9223372036854775808 ≤ m ∧ m ≤ 9223372036854775807 := by
  cases h with
  | cons h1 h2 =>
    cases h2
    cases h1 with
    | same => exact ⟨n, rfl, hn⟩
    | int _ m h3 h4 => exact ⟨m, rfl, h3, h4⟩
theorem kin_str {s : Str} {d : List Value} (h : KinL [.string (bs s)] d) (hs : s.length ≤ 9223372036854775807) : ∃ t : Str, d = [.string (bs t)] ∧ t.length ≤ 9223372036854775807 := by
  cases h with
  | cons h1 h2 =>
    cases h2
    cases h1 with
    | same => exact ⟨s, rfl, hs⟩
    | str _ t h3 =>
      refine ⟨t.data.toList, ?_, by rw [Array.length_toList]; exact h3⟩
      have : t = bs t.data.toList := by cases t; rfl
      rw [← this]
theorem kin_slice {A : Option Addr} {n c : Nat} {d : List Value} (h : KinL [.slice A n c] d) : d = [.slice A n c] := by
  cases h with
  | cons h1 h2 => cases h2; cases h1; rfl
theorem strs_mold {S : Nat → Prop} {w w' : World} : ∀ {ks : List Str} {cs cs' : List Value}, RepL S w (ks.map strD) cs → KinL cs cs' → ∃ ks' : List Str, ks'.length = ks.length ∧ RepL S w' (ks'.map strD) cs'
  | [], cs, cs', h, k => by
    have := RepL.nil_inv h
    subst this
    cases k
    exact ⟨[], rfl, RepL.nil_mk⟩
  | s :: ks, cs, cs', h, k => by
    obtain ⟨c1, c2, rfl, h1, h2⟩ := RepL.cons_inv h
    obtain ⟨d1, d2, rfl, k1, k2⟩ := k.split
    obtain ⟨rfl, hs⟩ := Rep.str_inv h1
    obtain ⟨t, rfl, ht⟩ := kin_str k1 hs
    obtain ⟨ks', hl, hr⟩ := strs_mold h2 k2
    exact ⟨t :: ks', by simp [hl], RepL.cons_mk (Rep.lit_mk (v := .string (bs t)) ht) hr⟩
theorem keys_mold {S : Nat → Prop} {w w' : World} {ks : List Str} {A : Option Addr} {n c : Nat} (h : Rep S w (strsD ks) [.slice A n c]) (hm : Mold w w') : ∃ ks' : List Str, ks'.length = ks.length ∧ Rep S w' (strsD ks') [.slice A n c] := by
  have hl := h.slice_len
  obtain ⟨A', c', hA, h1, h2, h3⟩ := Rep.slice_inv h
  simp only [List.cons.injEq, Value.slice.injEq, and_true] at hA
  obtain ⟨rfl, _, rfl⟩ := hA
  by_cases hne : ks = []
  · subst hne
    exact ⟨[], rfl, Rep.slice_mk (by simpa using hl.1) hl.2.1 hl.2.2 (fun h => absurd rfl h)⟩
  · obtain ⟨ad, rfl, es, hc, hr⟩ := h3 (by simpa using hne)
    obtain ⟨es', hc', hk⟩ := hc.mold hm
    obtain ⟨ks', hl', hr'⟩ := strs_mold hr hk
    exact ⟨ks', hl', Rep.slice_mk (by rw [hl.1]; simp [hl']) hl.2.1 hl.2.2 (fun _ => ⟨ad, rfl, es', hc', hr'⟩)⟩
def MoldT (x : Tree) : Prop := ∀ (S : Nat → Prop) (w w' : World) (cs cs' : List Value), Rep S w (treeD x) cs → Mold w w' → KinL cs cs' → ∃ x', sizeT x' = sizeT x ∧ Rep S w' (treeD x') cs'
theorem trees_mold {S : Nat → Prop} {w w' : World} (hm : Mold w w') : ∀ {xs : List Tree} {cs cs' : List Value}, (∀ x ∈ xs, MoldT x) → RepL S w (treesD xs) cs → KinL cs cs' → ∃ xs' : List Tree, xs'.length = xs.length ∧ sizeTs xs' = sizeTs xs ∧ RepL S w' (treesD xs') cs'
  | [], cs, cs', _, h, k => by
    have := RepL.nil_inv h
    subst this
    cases k
    exact ⟨[], rfl, rfl, RepL.nil_mk⟩
  | x :: xs, cs, cs', hx, h, k => by
    obtain ⟨c1, c2, rfl, h1, h2⟩ := RepL.cons_inv h
    obtain ⟨d1, d2, rfl, k1, k2⟩ := k.split
    obtain ⟨x', e1, r1⟩ := hx x (by simp) S w w' c1 d1 h1 hm k1
    obtain ⟨xs', hl, e2, r2⟩ := trees_mold hm (fun y hy => hx y (by simp [hy])) h2 k2
    exact ⟨x' :: xs', by simp [hl], by rw [sizeTs, sizeTs, e1, e2], RepL.cons_mk r1 r2⟩
theorem items_mold {S : Nat → Prop} {w w' : World} {xs : List Tree} {A : Option Addr} {n c : Nat} (hx : ∀ x ∈ xs, MoldT x) (h : Rep S w (.slice (treesD xs)) [.slice A n c]) (hm : Mold w w') : ∃ xs' : List Tree, xs'.length = xs.length ∧ sizeTs xs' = sizeTs xs ∧ Rep S w' (.slice (treesD xs')) [.slice A n c] := by
  have hl := h.slice_len
  obtain ⟨A', c', hA, h1, h2, h3⟩ := Rep.slice_inv h
  simp only [List.cons.injEq, Value.slice.injEq, and_true] at hA
  obtain ⟨rfl, _, rfl⟩ := hA
  by_cases hne : xs = []
  · subst hne
    exact ⟨[], rfl, rfl, Rep.slice_mk (by simpa using hl.1) hl.2.1 hl.2.2 (fun h => absurd rfl h)⟩
  · obtain ⟨ad, rfl, es, hc, hr⟩ := h3 (fun e => hne (List.eq_nil_of_length_eq_zero (by rw [← treesD_length, e]; rfl)))
    obtain ⟨es', hc', hk⟩ := hc.mold hm
    obtain ⟨xs', hl', e', hr'⟩ := trees_mold hm hx hr hk
    exact ⟨xs', hl', e', Rep.slice_mk (by rw [hl.1]; simp [hl']) hl.2.1 hl.2.2 (fun _ => ⟨ad, rfl, es', hc', hr'⟩)⟩
theorem moldT (x : Tree) : MoldT x := Tree.ind (Q := MoldT) (fun k t ks xs ih S w w' cs cs' hR hm hk => by
  obtain ⟨A, c, B, e, rfl, h1, h2, hK, hX⟩ := hR.tree_inv
  obtain ⟨d1, d', rfl, k1, hk⟩ := KinL.split (c1 := [_]) hk
  obtain ⟨d2, d', rfl, k2, hk⟩ := KinL.split (c1 := [_]) hk
  obtain ⟨d3, d4, rfl, k3, k4⟩ := KinL.split (c1 := [_]) hk
  obtain ⟨m, rfl, hm1, hm2⟩ := kin_int k1 h1
  obtain ⟨u, rfl, hu⟩ := kin_str k2 h2
  obtain rfl := kin_slice k3
  obtain rfl := kin_slice k4
  obtain ⟨ks', -, hK'⟩ := keys_mold hK hm
  obtain ⟨xs', hl', e', hX'⟩ := items_mold ih hX hm
  exact ⟨.node m u ks' xs', by rw [sizeT, sizeT, e'], Rep.tree_mk ⟨hm1, hm2⟩ hu hK' hX'⟩) x
noncomputable def Sb (S : Nat → Prop) (w : World) : List Nat := by classical exact (List.range w.heap.size).filter fun b => decide (S b)
theorem mem_Sb {S : Nat → Prop} {w : World} {b : Nat} : b ∈ Sb S w ↔ b < w.heap.size ∧ S b := by simp [Sb]
structure Over (S : Nat → Prop) (w w' : World) : Prop where
  same : Same (Sb S w) w w'
  mold : Mold w w'
  soft : ∀ b, Soft w b → Soft w' b
theorem Over.refl (S : Nat → Prop) (w : World) : Over S w w := ⟨.refl _ _, .refl _, fun _ h => h⟩
theorem soft_same {Ds : List Nat} {w w' : World} (h : Same Ds w w') {b : Nat} (hb : b ∉ Ds) (hs : Soft w b) : Soft w' b := by
  obtain ⟨cs, T, hh⟩ := hs
  exact ⟨cs, T, (h.block b (lt_of_some hh) hb).trans hh⟩
theorem soft_set {w : World} {a : Addr} {v : Value} {b : Nat} (h : Soft w b) : Soft (w.setCell a v) b := by
  obtain ⟨cs, T, hh⟩ := h
  by_cases e : a.block = b
  · refine ⟨if a.spot.isSome then cs else cs.setIfInBounds a.off v, T, ?_⟩
    simp [World.setCell, Array.getElem?_modify, hh, e]
  · exact ⟨cs, T, (Below.heap_setCell _ _ _ _ (fun h => e h.symm)).trans hh⟩
theorem soft_frozen {w : World} {a : Addr} (h : Soft w a.block) : w.frozen? a = false := by
  obtain ⟨cs, T, hh⟩ := h
  simp [World.frozen?, hh]
theorem Over.next {S : Nat → Prop} {w0 w w' : World} {b : Nat} (h : Over S w0 w) (hs : Same [b] w w') (hb : b ∈ Sb S w0) (hm : Mold w w') (ho : ∀ x, Soft w x → Soft w' x) : Over S w0 w' :=
  ⟨h.same.trans (hs.mono fun x hx _ => by obtain rfl := List.mem_singleton.1 hx; exact hb), h.mold.trans hm, fun x hx => ho x (h.soft x hx)⟩
theorem Over.trans {S : Nat → Prop} {w0 w w' : World} (hS : ∀ b, S b → b < w0.heap.size) (h : Over S w0 w) (k : Over S w w') : Over S w0 w' :=
  ⟨h.same.trans (k.same.mono fun x hx _ => by have := (mem_Sb.1 hx).2; exact mem_Sb.2 ⟨hS x this, this⟩), h.mold.trans k.mold, fun x hx => k.soft x (h.soft x hx)⟩
def TreeAt (S : Nat → Prop) (w : World) (A : Option Addr) (nk c : Nat) (B : Option Addr) (nx e m : Nat) : Prop :=
  ∃ (ks : List Str) (xs : List Tree), ks.length = nk ∧ xs.length = nx ∧ sizeTs xs = m ∧ Rep S w (strsD ks) [.slice A nk c] ∧ Rep S w (.slice (treesD xs)) [.slice B nx e]
theorem TreeAt.mold {S : Nat → Prop} {w w' : World} {A B : Option Addr} {nk c nx e m : Nat} (h : TreeAt S w A nk c B nx e m) (hm : Mold w w') : TreeAt S w' A nk c B nx e m := by
  obtain ⟨ks, xs, h1, h2, h3, hK, hX⟩ := h
  obtain ⟨ks', l1, r1⟩ := keys_mold hK hm
  obtain ⟨xs', l2, e2, r2⟩ := items_mold (fun x _ => moldT x) hX hm
  exact ⟨ks', xs', l1.trans h1, l2.trans h2, e2.trans h3, r1, r2⟩
theorem TreeAt.key {S : Nat → Prop} {w : World} {A B : Option Addr} {nk c nx e m : Nat} (h : TreeAt S w A nk c B nx e m) {i : Nat} (hi : i < nk) : ∃ ad s, A = some ad ∧ w.cell? (ad.add (i * 1)) = some (.string s) ∧ S (ad.add (i * 1)).block := by
  obtain ⟨ks, xs, h1, h2, h3, hK, hX⟩ := h
  have hne : ks ≠ [] := by rintro rfl; simp at h1; omega
  obtain ⟨A', c', hA, _, _, h4⟩ := Rep.slice_inv hK
  simp only [List.cons.injEq, Value.slice.injEq, and_true] at hA
  obtain ⟨rfl, _, rfl⟩ := hA
  obtain ⟨ad, rfl, es, hc, hr⟩ := h4 (by simpa using hne)
  obtain ⟨ad', hA', hcell, -⟩ := hK.str_elem (i := i) (by omega)
  obtain rfl := Option.some.inj hA'
  have hlen : es.length = ks.length := by
    have := hr.length
    have e : ∀ l : List Str, sizeOfD.sizeL (l.map strD) = l.length := by
      intro l
      induction l with
      | nil => rfl
      | cons a l ih => rw [List.map_cons, sizeOfD.sizeL, ih, List.length_cons]; simp [strD, sizeOfD]; omega
    rw [e] at this; exact this
  exact ⟨ad, _, rfl, hcell, by rw [block_of_add]; exact (hc 0 (by omega)).2⟩
theorem TreeAt.item {S : Nat → Prop} {w : World} {A B : Option Addr} {nk c nx e m : Nat} (h : TreeAt S w A nk c B nx e m) {j : Nat} (hj : j < nx) :
    ∃ ad cs x, B = some ad ∧ cs.length = 4 ∧ (∀ q (hq : q < cs.length), w.cell? ((ad.add (j * 4)).add q) = some cs[q]) ∧ Rep S w (treeD x) cs ∧ sizeT x ≤ m ∧ S (ad.add (j * 4)).block ∧ ∃ n : Int, w.cell? ((ad.add (j * 4)).add 0) = some (.int .i64 n) := by
  obtain ⟨ks, xs, h1, h2, h3, hK, hX⟩ := h
  obtain ⟨ad, cs, rfl, hl, hc, hr⟩ := hX.tree_elem (i := j) (by omega)
  have hjx : j < xs.length := by omega
  obtain ⟨A', c', hA, _, _, h4⟩ := Rep.slice_inv hX
  simp only [List.cons.injEq, Value.slice.injEq, and_true] at hA
  obtain ⟨rfl, _, rfl⟩ := hA
  obtain ⟨ad', hA', es, hce, hre⟩ := h4 (fun hz => by have h0 : (treesD xs).length = 0 := (by rw [hz]; rfl); rw [treesD_length] at h0; omega)
  obtain rfl := Option.some.inj hA'
  have hpos : 0 < es.length := by
    rcases Nat.eq_zero_or_pos es.length with h | h
    · have : es = [] := List.eq_nil_of_length_eq_zero h
      subst this
      have h5 := hre.get (sz := 4) (fun d hd => by rw [treesD_eq] at hd; obtain ⟨k, _, rfl⟩ := List.mem_map.1 hd; exact size_treeD k) j (by simpa using hjx)
      have := h5.2
      simp at this
    · exact h
  refine ⟨ad, cs, xs[j], rfl, hl, hc, hr, by rw [← h3]; exact sizeTs_mem (List.getElem_mem hjx), by rw [block_of_add]; exact (hce 0 hpos).2, ?_⟩
  have h0 := hc 0 (by omega)
  generalize hx : xs[j] = x at hr
  obtain ⟨k, t, ks', ys⟩ := x
  obtain ⟨_, _, _, _, rfl, _⟩ := hr.tree_inv
  exact ⟨k, h0⟩
section
variable {P : Program} {R : Exit → Act → World → Prop} {n : Nat} {k : Kt} {s : Nat → Value} {w w0 : World} {ops rest : List Oper} {Ds : List Nat} {bs_ : List (Nat × Obj)}
variable {ty : TypeId} {pos : String} {aft : Array Edge} {g : Option (Nat × Bool)}
theorem o_storeF {t : TypeId} {x y : Operand} {a : Addr} {u v : Value} (hF : FR w0 Ds bs_ w) (hs : ∀ w, (sizeOf t).run P w = .ok 1 w) (hx : ev n s x = .pointer (some a)) (hy : ev n s y = v) (hl : v.cells = #[v]) (h1 : one v = true)
    (hc : w.cell? a = some u) (hso : Soft w a.block) (hD : a.block ∈ Ds) (hn : ∀ p ∈ bs_, p.1 ≠ a.block) (hk : Kin u v)
    (h : ∀ w', FR w0 Ds bs_ w' → Same [a.block] w w' → Mold w w' → (∀ b, Soft w b → Soft w' b) → Og P R n ops k rest s w')
    (hw : wantedB ops n s ⟨none, .store t x y, ty, pos, aft, g⟩ = true := by rfl) : Og P R n ops k (⟨none, .store t x y, ty, pos, aft, g⟩ :: rest) s w := by
  have e0 : putCells w a 0 [v] = w.setCell a v := by simp only [putCells, add_zero_]
  refine o_unit (x_store (l := [v]) hs hx hy hl (by simpa using h1) fun j hj => ?_) ?_ hw
  · obtain rfl : j = 0 := by simp at hj; omega
    rw [add_zero_]
    exact ⟨⟨u, hc⟩, soft_frozen hso⟩
  · rw [e0]
    exact h _ (hF.touch (Same.setCell w a v) fun b hb => by
      obtain rfl := List.mem_singleton.1 hb
      exact ⟨fun _ => hD, hn⟩) (Same.setCell w a v) (Mold.set hc hk) (fun _ h => soft_set h)
end
end Go.Scarf
namespace Go.Scarf
open Go.RowKit Go.Proofs
def SpoilC (x : Tree) : Prop := ∀ (S : Nat → Prop) (w0 : World) (cs : List Value), Rep S w0 (treeD x) cs → (∀ b, S b → Soft w0 b) → Calls Tryz.prog 18 #[.agg cs.toArray] w0 (Ret fun v w' => v = .tuple #[] ∧ Over S w0 w')
theorem soft_lt {w : World} {b : Nat} (h : Soft w b) : b < w.heap.size := by obtain ⟨cs, T, hh⟩ := h; exact lt_of_some hh
set_option maxHeartbeats 1000000 in
set_option maxRecDepth 10000 in
theorem spoil_step (k : Int) (t : Str) (A B : Option Addr) (nk c nx e m : Nat) (S : Nat → Prop) (w0 : World) (hT : TreeAt S w0 A nk c B nx e m) (hSo : ∀ b, S b → Soft w0 b) (ih : ∀ x, sizeT x ≤ m → SpoilC x) (hb1_ : nk ≤ 9223372036854775807) (hb2_ : nx ≤ 9223372036854775807) : Calls Tryz.prog 18 #[.agg #[.int .i64 (k), .string (bs (t)), .slice (A) (nk) (c), .slice (B) (nx) (e)]] w0 (Ret fun v w' => v = .tuple #[] ∧ Over S w0 w') := by
 have hO := Over.refl S w0
 refine calls_start Tryz.func18 rfl Tryz.ntmps18 (Nat.le_of_ble_eq_true rfl) (args_1 _) ?_
 have hF := FR.start w0 (Sb S w0)
 refine c_seq (c_region ?_)
 refine o_box (v := .agg #[.int .i64 (k), .string (bs (t)), .slice (A) (nk) (c), .slice (B) (nx) (e)]) (cs := #[.int .i64 (k), .string (bs (t)), .slice (A) (nk) (c), .slice (B) (nx) (e)]) hF rfl rfl ?_
 clear hF; intro b1 w hb1 hF hE
 replace hT := hT.mold (Mold.same hE)
 replace hO : Over S w0 w := ⟨hO.same.trans (hE.mono (by simp)), hO.mold.trans (Mold.same hE), fun x hx => soft_same hE (by simp) (hO.soft x hx)⟩
 clear hE
 refine o_nil (e_seq (c_seq (c_seq (c_region (o_val (x_assign rfl) (o_nil (e_seq (c_block ?_))))))))
 refine c_loop (fun μ σ w => ∃ (i : Nat), μ = nk - i ∧ (i ≤ nk) ∧ (TreeAt S w A nk c B nx e m) ∧ (Over S w0 w) ∧ AllEq σ [(1, .pointer (some ⟨b1, 0, none⟩)), (2, .int .i64 ((i : Int)))] ∧ FR w0 (Sb S w0) [(b1, .cells #[.int .i64 (k), .string (bs (t)), .slice (A) (nk) (c), .slice (B) (nx) (e)] 32)] w) _ ⟨0, rfl, (Nat.zero_le _), (hT), (hO), ⟨rfl, rfl, trivial⟩, hF⟩ ?_
 clear hF; rintro μ σ w ⟨i, rfl, hi, hT, hO, hs, hF⟩
 refine Cg.slots hs ?_
 clear hs; intro σ
 refine c_seq (c_seq (c_region (o_val (x_move rfl) (o_val (v := .pointer (some ⟨b1, 2, none⟩)) (x_fieldAddrO fa_32_2 rfl) (o_val (v := .slice (A) (nk) (c)) (x_load Tryz.isAgg22 rfl (hF.cell 0 rfl rfl)) (o_val (v := .int .i64 ((nk : Nat))) (x_len_slice Tryz.underlying22 rfl) (o_val (v := .bool (decide (((i : Int) : Int) < ((nk : Nat) : Int)))) (x_lss rfl rfl) (o_nil (e_seq ?_)))))))))
 refine c_splitd (d := 8) (p := ((i : Int) : Int) < ((nk : Nat) : Int)) rfl (fun hc0 => ?_) (fun hc0 => ?_)
 refine c_ift rfl (c_skip (e_seq (c_seq (c_block (c_region (o_val (v := .pointer (some ⟨b1, 2, none⟩)) (x_fieldAddrO fa_32_2 rfl) (o_val (v := .slice (A) (nk) (c)) (x_load Tryz.isAgg22 rfl (hF.cell 0 rfl rfl)) (o_val (x_move rfl) ?_))))))))
 obtain ⟨ad, sk, hA, hkc, hSb⟩ := hT.key (show i < nk by omega)
 refine o_val (v := .pointer (some (ad.add (i * 1)))) (x_indexAddrA (i := (i : Int)) sl_22 rfl hA rfl (by omega) (by omega)) ?_
 refine o_storeF (a := ad.add (i * 1)) (u := .string sk) hF Tryz.sizeOf9 rfl (v := .string (bs [115, 112, 111, 105, 108, 116])) rfl rfl rfl (hkc) (hO.soft _ (hSo _ hSb)) (mem_Sb.2 ⟨soft_lt (hSo _ hSb), hSb⟩) (by have h1 := soft_lt (hSo _ hSb); intro p hp; obtain rfl := List.mem_singleton.1 hp; show b1 ≠ _; omega) (.str _ _ (by decide)) ?_
 clear hF; intro w hF hE hM hSo2
 replace hO := hO.next hE (mem_Sb.2 ⟨soft_lt (hSo _ hSb), hSb⟩) hM hSo2
 replace hT := hT.mold hM
 clear hE hM hSo2
 refine o_nil (e_block (e_seq (c_region (o_val (x_move rfl) (o_val (v := .int .i64 (((i : Int) : Int) + 1)) (x_add rfl rfl (wrap_id (by omega) (by omega))) (o_val (x_assign rfl) (o_nil ?_)))))))
 refine e_inv ⟨_, ?_, i + 1, rfl, (by omega), (hT), (hO), ⟨rfl, rfl, trivial⟩, hF⟩
 omega
 refine c_iff rfl ?_
 refine c_exit (e_exit rfl ?_)
 refine e_seq (c_seq (c_region (o_val (x_assign rfl) (o_nil (e_seq (c_block ?_))))))
 refine c_loop (fun μ σ w => ∃ (j : Nat), μ = nx - j ∧ (j ≤ nx) ∧ (TreeAt S w A nk c B nx e m) ∧ (Over S w0 w) ∧ AllEq σ [(1, .pointer (some ⟨b1, 0, none⟩)), (3, .int .i64 ((j : Int)))] ∧ FR w0 (Sb S w0) [(b1, .cells #[.int .i64 (k), .string (bs (t)), .slice (A) (nk) (c), .slice (B) (nx) (e)] 32)] w) _ ⟨0, rfl, (Nat.zero_le _), (hT), (hO), ⟨rfl, rfl, trivial⟩, hF⟩ ?_
 clear hF; rintro μ σ w ⟨j, rfl, hj, hT, hO, hs, hF⟩
 refine Cg.slots hs ?_
 clear hs; intro σ
 refine c_seq (c_seq (c_region (o_val (x_move rfl) (o_val (v := .pointer (some ⟨b1, 3, none⟩)) (x_fieldAddrO fa_32_3 rfl) (o_val (v := .slice (B) (nx) (e)) (x_load Tryz.isAgg30 rfl (hF.cell 0 rfl rfl)) (o_val (v := .int .i64 ((nx : Nat))) (x_len_slice Tryz.underlying30 rfl) (o_val (v := .bool (decide (((j : Int) : Int) < ((nx : Nat) : Int)))) (x_lss rfl rfl) (o_nil (e_seq ?_)))))))))
 refine c_splitd (d := 19) (p := ((j : Int) : Int) < ((nx : Nat) : Int)) rfl (fun hc1 => ?_) (fun hc1 => ?_)
 refine c_ift rfl (c_skip (e_seq (c_seq (c_block (c_seq (c_region (o_val (v := .pointer (some ⟨b1, 3, none⟩)) (x_fieldAddrO fa_32_3 rfl) (o_val (v := .slice (B) (nx) (e)) (x_load Tryz.isAgg30 rfl (hF.cell 0 rfl rfl)) (o_val (x_move rfl) ?_)))))))))
 obtain ⟨ad, cy, y, hB, hly, hcy, hry, hsy, hSb, -⟩ := hT.item (show j < nx by omega)
 have hoy := hry.one_
 refine o_val (v := .pointer (some (ad.add (j * 4)))) (x_indexAddrA (i := (j : Int)) sl_30 rfl hB rfl (by omega) (by omega)) (o_val (v := .agg (List.toArray cy)) (x_loadS (l := cy) Tryz.isAgg32 Tryz.sizeOf32 rfl hly hcy) ?_)
 refine o_call (ih y hsy S _ cy hry (fun b hb => hO.soft b (hSo b hb))) (x_call1 en_18 rfl rfl) ?_
 rintro _ w ⟨rfl, hO2⟩
 replace hF := hF.touch hO2.same (fun b hb => by have hSb2 := (mem_Sb.1 hb).2; have h1 := soft_lt (hSo b hSb2); exact ⟨fun h => mem_Sb.2 ⟨h1, hSb2⟩, fun p hp => by obtain rfl := List.mem_singleton.1 hp; show b1 ≠ b; omega⟩)
 replace hT := hT.mold hO2.mold
 replace hO := hO.trans (fun b hb => soft_lt (hSo b hb)) hO2
 clear hO2
 refine o_nil (e_seq (c_region (o_val (v := .pointer (some ⟨b1, 3, none⟩)) (x_fieldAddrO fa_32_3 rfl) (o_val (v := .slice (B) (nx) (e)) (x_load Tryz.isAgg30 rfl (hF.cell 0 rfl rfl)) (o_val (x_move rfl) ?_)))))
 obtain ⟨ad, cz, z, hB, -, -, -, -, hSb, n_, hn_⟩ := hT.item (show j < nx by omega)
 refine o_val (v := .pointer (some (ad.add (j * 4)))) (x_indexAddrA (i := (j : Int)) sl_30 rfl hB rfl (by omega) (by omega)) (o_val (v := .pointer (some ((ad.add (j * 4)).add 0))) (x_fieldAddr (a := ad.add (j * 4)) fa_32_0 rfl) ?_)
 refine o_storeF (a := (ad.add (j * 4)).add 0) (u := .int .i64 n_) hF Tryz.sizeOf3 rfl (v := .int .i64 (-7)) rfl rfl rfl (hn_) (hO.soft _ (hSo _ (show S ((ad.add (j * 4)).add 0).block by rw [block_of_add]; exact hSb))) (mem_Sb.2 ⟨soft_lt (hSo _ (show S ((ad.add (j * 4)).add 0).block by rw [block_of_add]; exact hSb)), (show S ((ad.add (j * 4)).add 0).block by rw [block_of_add]; exact hSb)⟩) (by have h1 := soft_lt (hSo _ (show S ((ad.add (j * 4)).add 0).block by rw [block_of_add]; exact hSb)); intro p hp; obtain rfl := List.mem_singleton.1 hp; show b1 ≠ _; omega) (.int _ _ (by omega) (by omega)) ?_
 clear hF; intro w hF hE hM hSo2
 replace hO := hO.next hE (mem_Sb.2 ⟨soft_lt (hSo _ (show S ((ad.add (j * 4)).add 0).block by rw [block_of_add]; exact hSb)), (show S ((ad.add (j * 4)).add 0).block by rw [block_of_add]; exact hSb)⟩) hM hSo2
 replace hT := hT.mold hM
 clear hE hM hSo2
 refine o_nil (e_block (e_seq (c_region (o_val (x_move rfl) (o_val (v := .int .i64 (((j + 1 : Nat) : Int))) (x_add rfl rfl (wrap_to (by omega) (by omega) (by omega))) (o_val (x_assign rfl) (o_nil ?_)))))))
 refine e_inv ⟨_, ?_, j + 1, rfl, (by omega), (hT), (hO), ⟨rfl, rfl, trivial⟩, hF⟩
 omega
 refine c_iff rfl ?_
 refine c_exit (e_exit rfl ?_)
 refine e_done (post_end (res_0 rfl) ?_)
 exact ⟨rfl, hO⟩
theorem spoil_c (x : Tree) : SpoilC x := by
  have key : ∀ N x, sizeT x ≤ N → SpoilC x := by
    intro N
    induction N with
    | zero => intro x hx; have := sizeT_pos x; omega
    | succ N ih =>
      intro x hx S w0 cs hR hS
      obtain ⟨k, t, ks, xs⟩ := x
      obtain ⟨A, c, B, e, rfl, -, -, hK, hX⟩ := hR.tree_inv
      have h1 := hK.slice_len
      have h2 := hX.slice_len
      rw [sizeT] at hx
      exact spoil_step k t A B ks.length c xs.length e (sizeTs xs) S w0 ⟨ks, xs, rfl, rfl, rfl, hK, hX⟩ hS (fun y hy => ih y (by omega)) (by omega) (by omega)
  exact key _ x (Nat.le_refl _)
end Go.Scarf
