/- A part of the proof. -/
import Derived.Test.YtepbomjpbdbejaaGreatDoorA5
set_option linter.all false
set_option maxHeartbeats 8000000
set_option maxRecDepth 10000
namespace Go.Scarf
open Go.RowKit Go.Proofs Go.Proofs.Tryz
def Zb (m : List (Nat × Nat)) : List (Int × Int) := m.map fun z => ((z.1 : Int), (z.2 : Int))
theorem Jl (m : List (Nat × Nat)) : (Zb m).length = m.length := by simp [Zb]
theorem Fl {m : List (Nat × Nat)} {i : Nat} (h : i < (Zb m).length) (h2 : i < m.length) : (Zb m)[i] = ((m[i].1 : Int), (m[i].2 : Int)) := by simp [Zb]
def Sq {β : Type} (f : Nat → β) (k : Nat) (v : β) : Nat → β := fun x => if x = k then v else f x
theorem Gh {β : Type} (f : Nat → β) (k : Nat) (v : β) : Sq f k v k = v := if_pos rfl
theorem Vg {β : Type} {f : Nat → β} {k x : Nat} {v : β} (h : x ≠ k) : Sq f k v x = f x := if_neg h
def Fe (n size : Nat) : List (Nat × Nat) → Nat → (Nat → List Int) → Nat → List Int
  | [], j, gp => Sq gp n (gp n ++ rng j size)
  | z :: m, j, gp => Fe n size m (z.2 + 1) (Sq gp z.1 (gp z.1 ++ rng j z.2))
structure Gp (w0 w : World) (N ob jb vb : Nat) (hd : Nat → Value) (gp : Nat → List Int) (sg : Nat → List (Nat × Obj)) (j : Nat) : Prop where
  top : w.heap[ob]? = some (.cells (Tf N hd) 39)
  cj : w.heap[jb]? = some (.cells #[.int .i64 (j : Nat)] 3)
  cv : w.heap[vb]? = some (.cells #[.slice (some ⟨ob, 0, none⟩) N N] 36)
  row : ∀ g, g < N → ∃ A c, hd g = .slice A (gp g).length c ∧ SlB 3 1 A (gp g).length c (Fr (gp g)) (sg g)
  mem : ∀ g, g < N → ∀ z ∈ sg g, w.heap[z.1]? = some z.2 ∧ w0.heap.size ≤ z.1 ∧ z.1 ≠ ob ∧ z.1 ≠ jb ∧ z.1 ≠ vb
  apart : ∀ g g', g < N → g' < N → g ≠ g' → ∀ z ∈ sg g, ∀ y ∈ sg g', z.1 ≠ y.1
  new : w0.heap.size ≤ ob ∧ w0.heap.size ≤ jb ∧ w0.heap.size ≤ vb
  ne : jb ≠ ob ∧ vb ≠ ob ∧ vb ≠ jb
section
variable {w0 w w' : World} {N ob jb vb j : Nat} {hd : Nat → Value} {gp : Nat → List Int} {sg : Nat → List (Nat × Obj)}
theorem Gp.keep (h : Gp w0 w N ob jb vb hd gp sg j) {E : List Nat} (hs : Same E w w') (h1 : ob ∉ E) (h2 : jb ∉ E) (h3 : vb ∉ E) (h4 : ∀ g, g < N → ∀ z ∈ sg g, z.1 ∉ E) : Gp w0 w' N ob jb vb hd gp sg j :=
  ⟨(hs.block _ (Da h.top) h1).trans h.top, (hs.block _ (Da h.cj) h2).trans h.cj, (hs.block _ (Da h.cv) h3).trans h.cv, h.row,
    fun g hg z hz => ⟨(hs.block _ (Da (h.mem g hg z hz).1) (h4 g hg z hz)).trans (h.mem g hg z hz).1, (h.mem g hg z hz).2⟩, h.apart, h.new, h.ne⟩
theorem Gp.ext (h : Gp w0 w N ob jb vb hd gp sg j) (hs : Same [] w w') : Gp w0 w' N ob jb vb hd gp sg j := h.keep hs Ga Ga Ga (fun _ _ _ _ => by simp)
theorem Gp.setj (h : Gp w0 w N ob jb vb hd gp sg j) {k : Nat} (hs : Same [jb] w w') (hn : w'.heap[jb]? = some (.cells #[.int .i64 (k : Nat)] 3)) : Gp w0 w' N ob jb vb hd gp sg k :=
  ⟨(hs.block _ (Da h.top) (by simpa using fun e => h.ne.1 e.symm)).trans h.top, hn, (hs.block _ (Da h.cv) (by simpa using h.ne.2.2)).trans h.cv, h.row,
    fun g hg z hz => ⟨(hs.block _ (Da (h.mem g hg z hz).1) (by simpa using (h.mem g hg z hz).2.2.2.1)).trans (h.mem g hg z hz).1, (h.mem g hg z hz).2⟩, h.apart, h.new, h.ne⟩
theorem Gp.fill (h : Gp w0 w N ob jb vb hd gp sg j) {g k j' : Nat} (hg : g < N) {A' : Option Addr} {c' : Nat} {sg' : List (Nat × Obj)} (h1 : w'.heap[ob]? = some (.cells (Tf N (Ul hd g (.slice A' (gp g ++ rng j k).length c'))) 39)) (h2 : w'.heap[jb]? = some (.cells #[.int .i64 (j' : Nat)] 3))
    (h3 : w'.heap[vb]? = some (.cells #[.slice (some ⟨ob, 0, none⟩) N N] 36)) (h4 : SlB 3 1 A' (gp g ++ rng j k).length c' (Fr (gp g ++ rng j k)) sg') (h5 : ∀ z ∈ sg', w'.heap[z.1]? = some z.2 ∧ z.1 ≠ ob ∧ z.1 ≠ jb ∧ z.1 ≠ vb ∧ (z.1 ∈ (sg g).map (·.1) ∨ w.heap.size ≤ z.1))
    (hs : Same ([ob, jb, vb] ++ (sg g).map (·.1)) w w') (hw : w0.heap.size ≤ w.heap.size) : Gp w0 w' N ob jb vb (Ul hd g (.slice A' (gp g ++ rng j k).length c')) (Sq gp g (gp g ++ rng j k)) (Sq sg g sg') j' := by
  have hnew : ∀ z ∈ sg', w0.heap.size ≤ z.1 := fun z hz => (h5 z hz).2.2.2.2.elim (fun hm => by obtain ⟨y, hy, e⟩ := List.mem_map.1 hm; rw [← e]; exact (h.mem g hg y hy).2.1) (fun hl => Nat.le_trans hw hl)
  have hoff : ∀ g', g' < N → g' ≠ g → ∀ y ∈ sg g', ∀ z ∈ sg', y.1 ≠ z.1 := fun g' hg' hne y hy z hz e => (h5 z hz).2.2.2.2.elim (fun hm => by obtain ⟨x, hx, e2⟩ := List.mem_map.1 hm; exact h.apart g' g hg' hg hne y hy x hx (e.trans e2.symm)) (fun hl => by have := Da (h.mem g' hg' y hy).1; omega)
  refine ⟨h1, h2, h3, fun g' hg' => ?_, fun g' hg' z hz => ?_, fun a b ha hb hab z hz y hy => ?_, h.new, h.ne⟩
  · by_cases e : g' = g
    · subst e; rw [F1, Gh, Gh]; exact ⟨A', c', rfl, h4⟩
    · rw [C9 e, Vg e, Vg e]; exact h.row g' hg'
  · by_cases e : g' = g
    · subst e; rw [Gh] at hz; exact ⟨(h5 z hz).1, hnew z hz, (h5 z hz).2.1, (h5 z hz).2.2.1, (h5 z hz).2.2.2.1⟩
    · rw [Vg e] at hz
      have hm := h.mem g' hg' z hz
      refine ⟨(hs.block _ (Da hm.1) fun hx => ?_).trans hm.1, hm.2⟩
      rcases List.mem_append.1 hx with hx | hx
      · simp only [List.mem_cons, List.not_mem_nil, or_false] at hx
        rcases hx with hx | hx | hx
        · exact hm.2.2.1 hx
        · exact hm.2.2.2.1 hx
        · exact hm.2.2.2.2 hx
      · obtain ⟨y, hy, e2⟩ := List.mem_map.1 hx
        exact h.apart g' g hg' hg e z hz y hy e2.symm
  · by_cases ea : a = g
    · subst ea
      rw [Gh] at hz
      rw [Vg (fun q => hab q.symm)] at hy
      exact fun e => hoff b hb (fun q => hab q.symm) y hy z hz e.symm
    · rw [Vg ea] at hz
      by_cases eb : b = g
      · subst eb; rw [Gh] at hy; exact hoff a ha ea z hz y hy
      · rw [Vg eb] at hy; exact h.apart a b ha hb hab z hz y hy
def Io (N : Nat) (gp : Nat → List Int) : D := .slice ((List.range N).map fun g => .slice ((gp g).map Me))
theorem Ir {S : Nat → Prop} : ∀ (N : Nat) (d : Nat → D) (f : Nat → Value), (∀ g, g < N → Rep S w (d g) [f g]) → RepL S w ((List.range N).map d) ((List.range N).map f)
  | 0, d, f, _ => RepL.nil_mk
  | N + 1, d, f, h => by
    rw [List.range_succ, List.map_append, List.map_append]
    exact RepL.append (Ir N d f fun g hg => h g by_Om) (by rw [List.map_cons, List.map_nil, List.map_cons, List.map_nil, RepL]; exact ⟨[f N], [], rfl, h N by_Om, RepL.nil_mk⟩)
theorem Gp.rep (h : Gp w0 w N ob jb vb hd gp sg j) (hN : N ≤ 1000) (hb : ∀ g, g < N → ∀ z ∈ gp g, -9223372036854775808 ≤ z ∧ z ≤ 9223372036854775807) : Rep (Btw w0 w) w (Io N gp) [.slice (some ⟨ob, 0, none⟩) N N] := by
  refine Rep.slice_mk Ga (Nat.le_refl _) by_Om fun _ => ⟨_, rfl, (List.range N).map hd, fun i hi => ⟨?_, h.new.1, Da h.top, _, _, h.top⟩, Ir N _ _ fun g hg => ?_⟩
  · have hi' : i < N := by simpa using hi
    rw [Nh, Nat.zero_add, Ib h.top, Tp hi']
    simp
  · obtain ⟨A, c, e, hS⟩ := h.row g hg
    rw [e]
    refine hS.repOf (fun z hz => ?_) (Pj (hb g hg)) Ga
    have hm := h.mem g hg z hz
    obtain ⟨cur, he⟩ := hS.typ.2 z hz
    exact ⟨hm.1, hm.2.1, Da hm.1, cur, 3, by rw [hm.1, he]⟩
end
theorem Jv {n size B : Nat} (hs : size ≤ B) : ∀ (m : List (Nat × Nat)) (j : Nat) (gp : Nat → List Int), (∀ z ∈ m, z.2 ≤ B) → (∀ g, ∀ z ∈ gp g, (0 : Int) ≤ z ∧ z < (B : Int)) → ∀ g, ∀ z ∈ Fe n size m j gp g, (0 : Int) ≤ z ∧ z < (B : Int)
  | [], j, gp, _, h, g, z, hz => by
    rw [Fe] at hz
    by_cases e : g = n
    · subst e
      rw [Gh] at hz
      rcases List.mem_append.1 hz with hz | hz
      · exact h g z hz
      · have := ID z hz; omega
    · rw [Vg e] at hz; exact h g z hz
  | y :: m, j, gp, hm, h, g, z, hz => by
    rw [Fe] at hz
    refine Jv hs m _ _ (fun x hx => hm x (by simp [hx])) (fun g' x hx => ?_) g z hz
    have hy := hm y Ga
    by_cases e : g' = y.1
    · subst e
      rw [Gh] at hx
      rcases List.mem_append.1 hx with hx | hx
      · exact h _ x hx
      · have := ID x hx; omega
    · rw [Vg e] at hx; exact h g' x hx
section
variable {P : Program} {R : Exit → Act → World → Prop} {n : Nat} {k : Kt} {s : Nat → Value} {w : World} {ops rest : List Oper}
variable {ty : TypeId} {pos : String} {aft : Array Edge} {g : Option (Nat × Bool)} {w0 : World} {Ds : List Nat} {bs : List (Nat × Obj)}
theorem DD {t T : TypeId} {x y : Operand} {b off : Nat} {l l' : List Value} {u : Value} (v : Value) (hF : FR w0 Ds bs w) (hs : ∀ w, (sizeOf t).run P w = .ok 1 w) (hx : ev n s x = .pointer (some ⟨b, off, none⟩)) (hy : ev n s y = v) (hh : w.heap[b]? = some (.cells l.toArray T)) (hc : AtI off l u v l') (hD : b ∈ Ds ∨ w0.heap.size ≤ b) (hn : ∀ p ∈ bs, p.1 ≠ b)
    (h : ∀ w', FR w0 Ds bs w' → Same [b] w w' → w'.heap[b]? = some (.cells l'.toArray T) → Og P R n ops k rest s w') (hv : v.cells = #[v] := by rfl) (ho : one v = true := by rfl)
    (hw : Sb ops n s ⟨none, .store t x y, ty, pos, aft, g⟩ = true := by rfl) : Og P R n ops k (⟨none, .store t x y, ty, pos, aft, g⟩ :: rest) s w := by
  have hsp := Bh b off (fz := (0, 0)) [v] 0 w l.toArray hh
  rw [Nat.add_zero, Xw, hc.set] at hsp
  refine Yv (Zs (l := [v]) hs hx hy hv (by simpa using ho) fun i hi => ?_) (h (putCells w ⟨b, off, none⟩ 0 [v]) (hF.touch hsp.2 fun b' hb => ?_) hsp.2 hsp.1) hw
  · obtain rfl : i = 0 := by simp at hi; omega
    rw [Hl, Ib hh]
    exact ⟨⟨u, by simpa using hc.get⟩, Oh hh _⟩
  · obtain rfl := List.mem_singleton.1 hb
    exact ⟨fun h => hD.resolve_right by_Om, hn⟩
end
def Oi (n : Int) (m : List (Int × Int)) (size : Int) : Bool := Hh n m && (!decide (size < 0) && (!decide ((64 : Int) < size) && (match m.getLast? with | none => true | some z => !decide (size ≤ z.2))))
def Dh (n : Int) (m : List (Int × Int)) : Bool := Hh n m && (match m.getLast? with | none => true | some z => !decide (z.2 = 9223372036854775807))
theorem Xj {m : List (Int × Int)} (h : 0 < m.length) : m.getLast? = some m[m.length - 1] := by rw [List.getLast?_eq_getElem?, List.getElem?_eq_getElem]
theorem Te {m : List (Int × Int)} (h : ¬ 0 < m.length) : m.getLast? = none := by rw [List.eq_nil_of_length_eq_zero (show m.length = 0 by omega)]; rfl
theorem HG (S : Nat → Prop) (w0 : World) (n : Int) (m : List (Int × Int)) (A : Option Addr) (c : Nat) (hX : Rep S w0 (Re m) [.slice A m.length c]) (size : Int) (hno : Oi n m size = false) : Calls prog 15 #[.int .i64 n, .slice A m.length c, .int .i64 size] w0 (Md fun v w' => v = .tuple #[.slice none 0 0, .bool false] ∧ Same [] w0 w') := by
 have hXl := hX.pairs_len
 refine Ka func15 rfl ntmps15 Gb (Pi _ _ _) ?_
 have hF := FR.start w0 []
 refine Ma (Ca (Mh rfl) (Ca (Hc rfl) (Fa (Ja (Ma (Ca (Hb rfl) (Ca (Pd rfl) ?_)))))))
 refine Rb hF (Vs _ _ n m A c (hF.rep hX)) (Mb F9 rfl rfl rfl) ?_
 clear hF; intro w hF
 refine Ca (On rfl) (Ca (Kd rfl) ?_)
 refine Pf (d := 17) rfl (fun hg0 => ?_) (fun hg0 => ?_)
 ·
  refine Ra (Ra (Ca (Rc rfl rfl) (Ca (Kd rfl) (Ra (Ra (Ca (Rc rfl rfl) (Ca (Kd rfl) (Ra (Ra (Ra (Ra (Ra (Ra ?_)))))))))))))
  refine Ra (Ra (Ra (Ra (Ra (Ra (Ra (Ra (Ca (Rc rfl rfl) (Fa ?_)))))))))
  refine Rd (by change Value.bool _ = Value.bool true; have hxx := hno; unfold Oi at hxx; first | rfl | (exfalso; have h0 : Hh n m = true := (by simpa using hg0); rw [Te (m := m) by_Om, h0] at hxx; (first | (simp [hg1, hg2] at hxx; done) | (simp at hxx; done))) | (rw [Xj (m := m) by_Om] at hxx; simp_all; done) | (rw [Te (m := m) by_Om] at hxx; simp_all; done) | (simp_all; done) | (simp_all; omega)) ?_
  refine Ma (Ca (Mh rfl) (Ca (Hc rfl) (Fa ?_)))
  refine Xb (Wb (Va (Od (v := .slice _ _ _) (x := .bool false) rfl rfl rfl) ?_))
  exact ⟨rfl, hF.same⟩
 ·
  refine Ca (Hb rfl) (Ca (Yk rfl rfl) (Ca (Fd rfl rfl) (Ca (Kd rfl) ?_)))
  refine Gd (d := 21) rfl (fun hg1 => ?_) (fun hg1 => ?_)
  ·
   refine Ra (Ra (Ca (Rc rfl rfl) (Ca (Kd rfl) (Ra (Ra (Ra (Ra (Ra (Ra (Ra (Ra (Ra (Ra ?_)))))))))))))
   refine Ra (Ra (Ra (Ra (Ca (Rc rfl rfl) (Fa ?_)))))
   refine Rd (by change Value.bool _ = Value.bool true; have hxx := hno; unfold Oi at hxx; first | rfl | (exfalso; have h0 : Hh n m = true := (by simpa using hg0); rw [Te (m := m) by_Om, h0] at hxx; (first | (simp [hg1, hg2] at hxx; done) | (simp at hxx; done))) | (rw [Xj (m := m) by_Om] at hxx; simp_all; done) | (rw [Te (m := m) by_Om] at hxx; simp_all; done) | (simp_all; done) | (simp_all; omega)) ?_
   refine Ma (Ca (Mh rfl) (Ca (Hc rfl) (Fa ?_)))
   refine Xb (Wb (Va (Od (v := .slice _ _ _) (x := .bool false) rfl rfl rfl) ?_))
   exact ⟨rfl, hF.same⟩
  ·
   refine Ca (Hb rfl) (Ca (Ey rfl rfl) (Ca (Fd rfl rfl) (Ca (Kd rfl) ?_)))
   refine Gd (d := 25) rfl (fun hg2 => ?_) (fun hg2 => ?_)
   ·
    refine Ra (Ra (Ra (Ra (Ra (Ra (Ra (Ra (Ra (Ra (Ra (Ra (Ra (Ra ?_)))))))))))))
    refine Ca (Rc rfl rfl) (Fa ?_)
    refine Rd (by change Value.bool _ = Value.bool true; have hxx := hno; unfold Oi at hxx; first | rfl | (exfalso; have h0 : Hh n m = true := (by simpa using hg0); rw [Te (m := m) by_Om, h0] at hxx; (first | (simp [hg1, hg2] at hxx; done) | (simp at hxx; done))) | (rw [Xj (m := m) by_Om] at hxx; simp_all; done) | (rw [Te (m := m) by_Om] at hxx; simp_all; done) | (simp_all; done) | (simp_all; omega)) ?_
    refine Ma (Ca (Mh rfl) (Ca (Hc rfl) (Fa ?_)))
    refine Xb (Wb (Va (Od (v := .slice _ _ _) (x := .bool false) rfl rfl rfl) ?_))
    exact ⟨rfl, hF.same⟩
   ·
    refine Ca (Pd rfl) (Ca (Lf underlying29 rfl) (Ca (Ey rfl rfl) (Ca (Kd rfl) ?_)))
    refine Gd (d := 29) rfl (fun hg3 => ?_) (fun hg3 => ?_)
    ·
     refine Ca (Pd rfl) (Ca (Pd rfl) (Ca (Lf underlying29 rfl) (Ca (Kr (((m.length - 1 : Nat) : Int)) rfl rfl) ?_)))
     obtain ⟨ad4, hA4, hk4, hx4⟩ := hX.pair_elem (i := (m.length - 1)) by_Om
     refine Ia (v := .pointer (some (ad4.add ((m.length - 1) * 2)))) (Pa (i := ((m.length - 1 : Nat) : Int)) Bi rfl hA4 rfl by_Om by_Om) (Ia (v := .pointer (some ((ad4.add ((m.length - 1) * 2)).add 1))) (Tc (a := ad4.add ((m.length - 1) * 2)) Jg rfl) (Ia (v := .int .i64 ((m[m.length - 1]).2)) (Wa isAgg3 rfl (hF.cell0 (hk4 1 Gb))) (Ca (Hb rfl) (Ca (X8 rfl rfl) (Ca (Rc rfl rfl) (Ca (Fd rfl rfl) (Fa ?_)))))))
     refine Rd (by change Value.bool _ = Value.bool true; have hxx := hno; unfold Oi at hxx; first | rfl | (exfalso; have h0 : Hh n m = true := (by simpa using hg0); rw [Te (m := m) by_Om, h0] at hxx; (first | (simp [hg1, hg2] at hxx; done) | (simp at hxx; done))) | (rw [Xj (m := m) by_Om] at hxx; simp_all; done) | (rw [Te (m := m) by_Om] at hxx; simp_all; done) | (simp_all; done) | (simp_all; omega)) ?_
     refine Ma (Ca (Mh rfl) (Ca (Hc rfl) (Fa ?_)))
     refine Xb (Wb (Va (Od (v := .slice _ _ _) (x := .bool false) rfl rfl rfl) ?_))
     exact ⟨rfl, hF.same⟩
    ·
     refine Ra (Ra (Ra (Ra (Ra (Ra (Ra (Ra (Ra (Ca (Fd rfl rfl) (Ca (Fd rfl rfl) (Fa ?_)))))))))))
     refine Rd (by change Value.bool _ = Value.bool true; have hxx := hno; unfold Oi at hxx; first | rfl | (exfalso; have h0 : Hh n m = true := (by simpa using hg0); rw [Te (m := m) by_Om, h0] at hxx; (first | (simp [hg1, hg2] at hxx; done) | (simp at hxx; done))) | (rw [Xj (m := m) by_Om] at hxx; simp_all; done) | (rw [Te (m := m) by_Om] at hxx; simp_all; done) | (simp_all; done) | (simp_all; omega)) ?_
     refine Ma (Ca (Mh rfl) (Ca (Hc rfl) (Fa ?_)))
     refine Xb (Wb (Va (Od (v := .slice _ _ _) (x := .bool false) rfl rfl rfl) ?_))
     exact ⟨rfl, hF.same⟩
theorem LE (S : Nat → Prop) (w0 : World) (n : Int) (m : List (Int × Int)) (A : Option Addr) (c : Nat) (hX : Rep S w0 (Re m) [.slice A m.length c]) (hno : Dh n m = false) : Calls prog 17 #[.int .i64 n, .slice A m.length c] w0 (Md fun v w' => v = .tuple #[.slice none 0 0, .bool false] ∧ Same [] w0 w') := by
 have hXl := hX.pairs_len
 refine Ka func17 rfl ntmps17 Gb (Sd _ _) ?_
 have hF := FR.start w0 []
 refine Ma (Ca (Mh rfl) (Ca (Hc rfl) (Fa (Ja (Ma (Ca (Hb rfl) (Ca (Pd rfl) ?_)))))))
 refine Rb hF (Vs _ _ n m A c (hF.rep hX)) (Mb F9 rfl rfl rfl) ?_
 clear hF; intro w hF
 refine Ca (On rfl) (Ca (Kd rfl) ?_)
 refine Pf (d := 14) rfl (fun hg0 => ?_) (fun hg0 => ?_)
 ·
  refine Ra (Ra (Ra (Ra (Ra (Ra (Ra (Ra (Ra (Ra (Ra (Ra (Ra (Ca (Rc rfl rfl) ?_)))))))))))))
  refine Fa ?_
  refine Rd (by change Value.bool _ = Value.bool true; have hxx := hno; unfold Dh at hxx; first | rfl | (exfalso; have h0 : Hh n m = true := (by simpa using hg0); rw [Te (m := m) by_Om, h0] at hxx; (first | (simp [hg1, hg2] at hxx; done) | (simp at hxx; done))) | (rw [Xj (m := m) by_Om] at hxx; simp_all; done) | (rw [Te (m := m) by_Om] at hxx; simp_all; done) | (simp_all; done) | (simp_all; omega)) ?_
  refine Ma (Ca (Mh rfl) (Ca (Hc rfl) (Fa ?_)))
  refine Xb (Wb (Va (Od (v := .slice _ _ _) (x := .bool false) rfl rfl rfl) ?_))
  exact ⟨rfl, hF.same⟩
 ·
  refine Ca (Pd rfl) (Ca (Lf underlying29 rfl) (Ca (Ey rfl rfl) (Ca (Kd rfl) ?_)))
  refine Gd (d := 18) rfl (fun hg1 => ?_) (fun hg1 => ?_)
  ·
   refine Ca (Pd rfl) (Ca (Pd rfl) (Ca (Lf underlying29 rfl) (Ca (Kr (((m.length - 1 : Nat) : Int)) rfl rfl) ?_)))
   obtain ⟨ad2, hA2, hk2, hx2⟩ := hX.pair_elem (i := (m.length - 1)) by_Om
   refine Ia (v := .pointer (some (ad2.add ((m.length - 1) * 2)))) (Pa (i := ((m.length - 1 : Nat) : Int)) Bi rfl hA2 rfl by_Om by_Om) (Ia (v := .pointer (some ((ad2.add ((m.length - 1) * 2)).add 1))) (Tc (a := ad2.add ((m.length - 1) * 2)) Jg rfl) (Ia (v := .int .i64 ((m[m.length - 1]).2)) (Wa isAgg3 rfl (hF.cell0 (hk2 1 Gb))) (Ca (Ho rfl rfl) (Ca (Rc rfl rfl) (Ca (Fd rfl rfl) (Fa ?_))))))
   refine Rd (by change Value.bool _ = Value.bool true; have hxx := hno; unfold Dh at hxx; first | rfl | (exfalso; have h0 : Hh n m = true := (by simpa using hg0); rw [Te (m := m) by_Om, h0] at hxx; (first | (simp [hg1, hg2] at hxx; done) | (simp at hxx; done))) | (rw [Xj (m := m) by_Om] at hxx; simp_all; done) | (rw [Te (m := m) by_Om] at hxx; simp_all; done) | (simp_all; done) | (simp_all; omega)) ?_
   refine Ma (Ca (Mh rfl) (Ca (Hc rfl) (Fa ?_)))
   refine Xb (Wb (Va (Od (v := .slice _ _ _) (x := .bool false) rfl rfl rfl) ?_))
   exact ⟨rfl, hF.same⟩
  ·
   refine Ra (Ra (Ra (Ra (Ra (Ra (Ra (Ra (Ca (Fd rfl rfl) (Ca (Fd rfl rfl) (Fa ?_))))))))))
   refine Rd (by change Value.bool _ = Value.bool true; have hxx := hno; unfold Dh at hxx; first | rfl | (exfalso; have h0 : Hh n m = true := (by simpa using hg0); rw [Te (m := m) by_Om, h0] at hxx; (first | (simp [hg1, hg2] at hxx; done) | (simp at hxx; done))) | (rw [Xj (m := m) by_Om] at hxx; simp_all; done) | (rw [Te (m := m) by_Om] at hxx; simp_all; done) | (simp_all; done) | (simp_all; omega)) ?_
   refine Ma (Ca (Mh rfl) (Ca (Hc rfl) (Fa ?_)))
   refine Xb (Wb (Va (Od (v := .slice _ _ _) (x := .bool false) rfl rfl rfl) ?_))
   exact ⟨rfl, hF.same⟩
end Go.Scarf
namespace Go.Scarf
open Go.RowKit Go.Proofs Go.Proofs.Tryz
def Im : List (Nat × Nat) → (Nat → Int) → Nat → Int
  | [], f => f
  | z :: m, f => Im m (Ee f z.1 (z.2 : Int))
theorem W0 {B : Int} : ∀ (m : List (Nat × Nat)) (f : Nat → Int), (∀ z ∈ m, (z.2 : Int) < B) → (∀ k, -1 ≤ f k ∧ f k < B) → ∀ k, -1 ≤ Im m f k ∧ Im m f k < B
  | [], f, _, h, k => h k
  | z :: m, f, hm, h, k => W0 m _ (fun y hy => hm y (by simp [hy])) (fun k' => by
    have hz := hm z Ga
    by_cases e : k' = z.1
    · subst e; rw [Jn]; omega
    · rw [Kp e]; exact h k') k
theorem Zv {w0 w : World} {b n : Nat} {f : Nat → Int} (h : w.heap[b]? = some (.cells (Za n f) 3)) (hb : w0.heap.size ≤ b) (hn : n ≤ 1000000) (hf : ∀ k, k < n → -9223372036854775808 ≤ f k ∧ f k ≤ 9223372036854775807) : Rep (Btw w0 w) w (.slice (((List.range n).map f).map Me)) [.slice (some ⟨b, 0, none⟩) n n] := by
  refine Rep.slice_mk Ga (Nat.le_refl _) by_Om fun _ => ⟨_, rfl, ((List.range n).map f).map fun s => Value.int .i64 s, fun i hi => ⟨?_, hb, Da h, _, _, h⟩, Pj fun s hs => ?_⟩
  · have hi' : i < n := by simpa using hi
    rw [Nh, Nat.zero_add, Ib h, Kj hi']
    simp
  · obtain ⟨k, hk, rfl⟩ := List.mem_map.1 hs
    exact hf k (List.mem_range.1 hk)
theorem Is (S : Nat → Prop) (w0 : World) (n : Nat) (mp : List (Nat × Nat)) (A : Option Addr) (c : Nat) (hX : Rep S w0 (Re (Zb mp)) [.slice A (Zb mp).length c]) (hr : Hh n (Zb mp) = true) (hn : n ≤ 64) (hm : mp.length ≤ 100) (size : Nat) (hs : size ≤ 64) (hmp : ∀ z ∈ mp, z.1 < n ∧ z.2 < size) : Calls prog 15 #[.int .i64 ((n : Nat) : Int), .slice A (Zb mp).length c, .int .i64 ((size : Nat) : Int)] w0 (Md fun v w' => ∃ ob : Nat, v = .tuple #[.slice (some ⟨ob, 0, none⟩) (n + 1) (n + 1), .bool true] ∧ Rep (Btw w0 w') w' (Io (n + 1) (Fe n size mp 0 fun _ => [])) [.slice (some ⟨ob, 0, none⟩) (n + 1) (n + 1)] ∧ Same [] w0 w') := by
 have hcl := Jl mp
 have hXl := hX.pairs_len
 refine Ka func15 rfl ntmps15 Gb (Pi _ _ _) ?_
 have hF := FR.start w0 []
 refine Ma (Ca (Mh rfl) (Ca (Hc rfl) (Fa (Ja (Ja ?_)))))
 refine St (fun σ w => AllEq σ [(0, .int .i64 ((n : Nat))), (1, .slice (A) ((Zb mp).length) (c)), (2, .int .i64 ((size : Nat))), (40, .bool false)] ∧ FR w0 [] [] w) ?_ ?_
 refine Ea (Ca (Hb rfl) (Ca (Pd rfl) ?_))
 refine Rb hF (Oe (v' := .bool true) (Vs _ _ (n : Int) (Zb mp) A c (hF.rep hX)) (by rw [hr])) (Mb F9 rfl rfl rfl) ?_
 clear hF; intro w hF
 refine Ca (On (b := true) rfl) (Ca (Kd rfl) (Ca (Hb rfl) (Ia (v := .bool false) (Ld (L5 rfl rfl) by_Om) (Ca (Fd rfl rfl) (Ca (Kd rfl) (Ca (Hb rfl) (Ia (v := .bool false) (Ld (Ox rfl rfl) by_Om) (Ca (Fd rfl rfl) (Ca (Kd rfl) (Ca (Pd rfl) (Ca (Lf underlying29 rfl) (Ca (Ey rfl rfl) (Ca (Kd rfl) ?_)))))))))))))
 refine Gd (d := 29) rfl (fun hg0 => ?_) (fun hg0 => ?_)
 refine Ca (Pd rfl) (Ca (Pd rfl) (Ca (Lf underlying29 rfl) (Ca (Kr ((((Zb mp).length - 1 : Nat) : Int)) rfl rfl) ?_)))
 obtain ⟨ad1, hA1, hk1, hx1⟩ := hX.pair_elem (i := ((Zb mp).length - 1)) by_Om
 refine Ia (v := .pointer (some (ad1.add (((Zb mp).length - 1) * 2)))) (Pa (i := (((Zb mp).length - 1 : Nat) : Int)) Bi rfl hA1 rfl by_Om by_Om) (Ia (v := .pointer (some ((ad1.add (((Zb mp).length - 1) * 2)).add 1))) (Tc (a := ad1.add (((Zb mp).length - 1) * 2)) Jg rfl) (Ia (v := .int .i64 (((Zb mp)[(Zb mp).length - 1]).2)) (Wa isAgg3 rfl (hF.cell0 (hk1 1 Gb))) (Ca (Hb rfl) ?_)))
 refine Ia (v := .bool false) (Ld (KH rfl rfl) (by have h1 := hmp _ (List.getElem_mem (l := mp) (n := mp.length - 1) by_Om); have h2 := Fl (m := mp) (i := mp.length - 1) by_Om by_Om; have h3 : (Zb mp)[(Zb mp).length - 1] = (Zb mp)[mp.length - 1] := (by congr 1; omega); rw [h3, h2]; simp only; omega)) ?_
 refine Ca (Rc rfl rfl) (Ca (Fd rfl rfl) (Fb ?_))
 exact Dc ⟨Dq, hF⟩
 refine Ra (Ra (Ra (Ra (Ra (Ra (Ra (Ra (Ra (Ca (Fd rfl rfl) (Ca (Fd rfl rfl) (Fb ?_)))))))))))
 exact Dc ⟨Dq, hF⟩
 clear hF; rintro σ w ⟨hs, hF⟩
 refine Eg.slots hs ?_
 clear hs; intro σ
 refine Ha (Jr rfl (Ma (Ca (Hb rfl) (Ca (Di (((n + 1 : Nat) : Int)) rfl rfl) ?_))))
 refine So (v := fun b => .slice (some ⟨b, 0, none⟩) (n + 1) (n + 1)) (o := .cells (List.replicate (n + 1) (.slice none 0 0)).toArray 39) hF (Ev (z := .slice none 0 0) Rh Db rfl rfl rfl by_Om Ta) ?_
 clear hF; rintro b1 w hb1 hF -
 refine SK (.slice _ _ _) hF zeroValue36 sizeOf36 rfl ?_
 clear hF; rintro b2 w hb2 hF -
 refine Cc ?_
 refine SK (.int _ _) hF zeroValue3 sizeOf3 rfl ?_
 clear hF; rintro b3 w hb3 hF -
 refine Cc (Ia (v := .func (.func 31) #[] #[.pointer (some ⟨b3, 0, none⟩), .pointer (some ⟨b2, 0, none⟩)]) (Pk rfl rfl) (Ca (Zy) (Fa (Ja (Ja ?_)))))
 rw [Gz (n + 1)] at hF
 have hG_ : Gp w0 w (n + 1) b1 b3 b2 (fun _ => .slice none 0 0) (fun _ => []) (fun _ => []) 0 := ⟨hF.heap (i := 2) rfl, hF.heap (i := 0) rfl, hF.heap (i := 1) rfl, fun g _ => ⟨none, 0, rfl, SlB.nil _ _⟩, fun g _ z hz => (by cases hz), fun _ _ _ _ _ z hz => (by cases hz), ⟨hF.ge (i := 2) rfl, hF.ge (i := 0) rfl, hF.ge (i := 1) rfl⟩, ⟨Kg hF.desc (i := 0) (j := 2) rfl rfl Ta, Kg hF.desc (i := 1) (j := 2) rfl rfl Ta, Kg hF.desc (i := 1) (j := 0) rfl rfl Ta⟩⟩
 replace hF := hF.clear
 refine Ea (Ca (Pd rfl) (Ca (Lf underlying29 rfl) (Ca (Hb rfl) (Fa (Ya ?_)))))
 refine Uc (fun μ σ w => ∃ (t : Nat), ∃ (hd : Nat → Value), ∃ (gp : Nat → List Int), ∃ (sg : Nat → List (Nat × Obj)), ∃ (j : Nat), μ = mp.length - t ∧ (t ≤ mp.length) ∧ (Gp w0 w (n + 1) b1 b3 b2 hd gp sg j) ∧ (Fe n size (mp.drop t) j gp = Fe n size mp 0 fun _ => []) ∧ (∀ g, g < n + 1 → (gp g).length ≤ 64 * t) ∧ (j ≤ 64) ∧ AllEq σ [(0, .int .i64 ((n : Nat))), (2, .int .i64 ((size : Nat))), (8, .pointer (some ⟨b2, 0, none⟩)), (9, .pointer (some ⟨b3, 0, none⟩)), (10, .func (.func 31) #[] #[.pointer (some ⟨b3, 0, none⟩), .pointer (some ⟨b2, 0, none⟩)]), (45, .slice (A) ((Zb mp).length) (c)), (46, .int .i64 (((Zb mp).length : Nat))), (47, .int .i64 ((t : Int)))] ∧ FR w0 [] [] w) _ ⟨0, _, _, _, 0, rfl, (Nat.zero_le _), (hG_), (rfl), (fun g _ => by simp), by_Om, R7, hF⟩ ?_
 clear hF; rintro μ σ w ⟨t, hd, gp, sg, j, rfl, ht, hG_, hrun, hlen, hj, hs, hF⟩
 refine Cg.slots hs ?_
 clear hs; intro σ
 refine Ma (Ca (Yk rfl rfl) (Fa (Ja ?_)))
 refine Kc rfl rfl (fun hc1 => ?_) (fun hc1 => ?_)
 refine Cb (Ha (Ja (Ya (Ja ?_))))
 obtain ⟨a, b, hmt⟩ : ∃ a b : Nat, mp[t] = (a, b) := ⟨_, _, rfl⟩
 have hab : (Zb mp)[t] = ((a : Int), (b : Int)) := by rw [Fl by_Om by_Om, hmt]
 have hab1 := hmp _ (List.getElem_mem (l := mp) (n := t) by_Om)
 rw [hmt] at hab1
 refine Ea ?_
 obtain ⟨ad2, hA2, hk2, hx2⟩ := hX.pair_elem (i := t) by_Om
 rw [hab] at hk2 hx2
 refine Ia (v := .pointer (some (ad2.add (t * 2)))) (Pa (i := (t : Int)) Bi rfl hA2 rfl by_Om by_Om) (Ia (v := .agg #[.int .i64 ((((a : Int), (b : Int))).1), .int .i64 ((((a : Int), (b : Int))).2)]) (Ic (l := Ai ((a : Int), (b : Int))) isAgg49 sizeOf49 rfl rfl (hF.cells0 hk2)) ?_)
 refine Rm hF zeroValue49 sizeOf49 rfl ?_
 clear hF; intro b4 w hb4 hF hE
 have hn_ : b1 ≠ b4 ∧ b3 ≠ b4 ∧ b2 ≠ b4 ∧ ∀ z ∈ sg a, z.1 ≠ b4 := by have e1 := Da hG_.top; have e2 := Da hG_.cj; have e3 := Da hG_.cv; exact ⟨by omega, by omega, by omega, fun z hz => by have := Da (hG_.mem a by_Om z hz).1; omega⟩
 replace hG_ := hG_.ext hE
 clear hE
 refine Cc (Ca (F6) (Ca (Gc Aj rfl) (Vd (At isAgg3 rfl hF.F 0 rfl rfl) (Ca (Gc Jg rfl) (Vd (At isAgg3 rfl hF.F 0 rfl rfl) ?_)))))
 obtain ⟨Ax, cx, hrow⟩ := hG_.row (a) by_Om
 have hF0 := hF.same.size
 refine Eb (LF _ (n + 1) (a) b1 b3 b2 (b) j hd (gp (a)) Ax cx (sg (a)) by_Om by_Om by_Om by_Om (by have := hlen (a) by_Om; omega) hG_.top hG_.cj hG_.cv hrow.1 hrow.2 (fun z hz => by have h := hG_.mem (a) by_Om z hz; exact ⟨h.1, h.2.2⟩) hG_.ne) (I5 rfl NH rfl rfl rfl) ?_
 rintro _ w ⟨A2, c2, sg2, rfl, h1, h2, h3, h4, h5, hE⟩
 have hG2 := hG_.fill (g := a) by_Om h1 h2 h3 h4 h5 hE hF0
 replace hF := hF.touch hE (fun y hy => by rcases List.mem_append.1 hy with hy | hy; (simp only [List.mem_cons, List.not_mem_nil, or_false] at hy; have hnw := hG_.new; refine ⟨fun h => absurd h (by rcases hy with rfl | rfl | rfl <;> omega), ?_⟩; intro z hz; obtain rfl := List.mem_singleton.1 hz; rcases hy with rfl | rfl | rfl; (exact fun e => hn_.1 e.symm); (exact fun e => hn_.2.1 e.symm); (exact fun e => hn_.2.2.1 e.symm)); (obtain ⟨x, hx, rfl⟩ := List.mem_map.1 hy; have hmx := hG_.mem (a) by_Om x hx; refine ⟨fun h => absurd h by_Om, ?_⟩; intro z hz; obtain rfl := List.mem_singleton.1 hz; exact fun e => hn_.2.2.2 x hx e.symm))
 clear hG_ h1 h2 h3 h4 h5 hE hrow hF0
 have hG_ := hG2
 clear hG2
 refine Fa (Ea (Ca (Gc Jg rfl) (Vd (At isAgg3 rfl hF.F 0 rfl rfl) (Ca (Di (((b + 1 : Nat) : Int)) rfl rfl) ?_))))
 refine DD (.int _ _) hF sizeOf3 rfl rfl hG_.cj Tl (.inr hG_.new.2.1) (by simpa using fun e => hn_.2.1 e.symm) ?_
 clear hF; intro w hF hE hnew
 replace hG_ := hG_.setj hE hnew
 clear hE hnew
 refine Fb (Kb (Ha (Ea (Ca (Di (((t + 1 : Nat) : Int)) rfl rfl) (Ca (Hb rfl) (Fb ?_))))))
 refine Dc ⟨_, ?_, t + 1, _, _, _, b + 1, rfl, by_Om, (hG_), (by rw [← hrun, List.drop_eq_getElem_cons (show t < mp.length by omega), Fe, hmt]), (fun g hg => by by_cases e : g = a; (subst e; rw [Gh, List.length_append, J1]; have := hlen g hg; omega); (rw [Vg e]; have := hlen g hg; omega)), by_Om, R7, hF.drop 1⟩
 omega
 refine Lc (Jc rfl ?_)
 refine Ha (Ma (Ca (F6) (Ca (Hb rfl) (Ca (Hb rfl) ?_))))
 obtain ⟨Ax, cx, hrow⟩ := hG_.row (n) by_Om
 have hF0 := hF.same.size
 refine Eb (LF _ (n + 1) (n) b1 b3 b2 (size) j hd (gp (n)) Ax cx (sg (n)) by_Om by_Om by_Om by_Om (by have := hlen (n) by_Om; omega) hG_.top hG_.cj hG_.cv hrow.1 hrow.2 (fun z hz => by have h := hG_.mem (n) by_Om z hz; exact ⟨h.1, h.2.2⟩) hG_.ne) (I5 rfl NH rfl rfl rfl) ?_
 rintro _ w ⟨A2, c2, sg2, rfl, h1, h2, h3, h4, h5, hE⟩
 have hG2 := hG_.fill (g := n) by_Om h1 h2 h3 h4 h5 hE hF0
 replace hF := hF.touch hE (fun y hy => by rcases List.mem_append.1 hy with hy | hy; (simp only [List.mem_cons, List.not_mem_nil, or_false] at hy; have hnw := hG_.new; refine ⟨fun h => absurd h (by rcases hy with rfl | rfl | rfl <;> omega), ?_⟩; simp); (obtain ⟨x, hx, rfl⟩ := List.mem_map.1 hy; have hmx := hG_.mem (n) by_Om x hx; refine ⟨fun h => absurd h by_Om, ?_⟩; simp))
 clear hG_ h1 h2 h3 h4 h5 hE hrow hF0
 have hG_ := hG2
 clear hG2
 refine Cc ?_
 refine Ia (v := .slice (some ⟨b1, 0, none⟩) (n + 1) (n + 1)) (Wa isAgg36 rfl (by rw [Ib hG_.cv]; rfl)) ?_
 refine Ca (Mh rfl) (Ca (Hc rfl) (Fa ?_))
 refine Xb (Wb (Va (Od (v := .slice _ _ _) (x := .bool true) rfl rfl rfl) ?_))
 obtain rfl : t = mp.length := by omega
 rw [List.drop_length, Fe] at hrun
 rw [hrun] at hG_
 exact ⟨b1, rfl, hG_.rep by_Om (fun g _ z hz => by have := Jv (B := 64) hs mp 0 (fun _ => []) (fun y hy => by have := hmp y hy; omega) (fun _ z hz => by cases hz) g z hz; omega), hF.same⟩
theorem Up (S : Nat → Prop) (w0 : World) (n : Nat) (mp : List (Nat × Nat)) (A : Option Addr) (c : Nat) (hX : Rep S w0 (Re (Zb mp)) [.slice A (Zb mp).length c]) (hr : Hh n (Zb mp) = true) (hn : n ≤ 64) (hm : mp.length ≤ 100) (hmp : ∀ z ∈ mp, z.1 < n ∧ (z.2 : Int) < 9223372036854775807) : Calls prog 17 #[.int .i64 ((n : Nat) : Int), .slice A (Zb mp).length c] w0 (Md fun v w' => ∃ ob : Nat, v = .tuple #[.slice (some ⟨ob, 0, none⟩) n n, .bool true] ∧ Rep (Btw w0 w') w' (.slice (((List.range n).map (Im mp fun _ => -1)).map Me)) [.slice (some ⟨ob, 0, none⟩) n n] ∧ Same [] w0 w') := by
 have hcl := Jl mp
 have hXl := hX.pairs_len
 refine Ka func17 rfl ntmps17 Gb (Sd _ _) ?_
 have hF := FR.start w0 []
 refine Ma (Ca (Mh rfl) (Ca (Hc rfl) (Fa (Ja (Ja ?_)))))
 refine St (fun σ w => AllEq σ [(0, .int .i64 ((n : Nat))), (1, .slice (A) ((Zb mp).length) (c)), (28, .bool false)] ∧ FR w0 [] [] w) ?_ ?_
 refine Ea (Ca (Hb rfl) (Ca (Pd rfl) ?_))
 refine Rb hF (Oe (v' := .bool true) (Vs _ _ (n : Int) (Zb mp) A c (hF.rep hX)) (by rw [hr])) (Mb F9 rfl rfl rfl) ?_
 clear hF; intro w hF
 refine Ca (On (b := true) rfl) (Ca (Kd rfl) (Ca (Pd rfl) (Ca (Lf underlying29 rfl) (Ca (Ey rfl rfl) (Ca (Kd rfl) ?_)))))
 refine Gd (d := 18) rfl (fun hg0 => ?_) (fun hg0 => ?_)
 refine Ca (Pd rfl) (Ca (Pd rfl) (Ca (Lf underlying29 rfl) (Ca (Kr ((((Zb mp).length - 1 : Nat) : Int)) rfl rfl) ?_)))
 obtain ⟨ad1, hA1, hk1, hx1⟩ := hX.pair_elem (i := ((Zb mp).length - 1)) by_Om
 refine Ia (v := .pointer (some (ad1.add (((Zb mp).length - 1) * 2)))) (Pa (i := (((Zb mp).length - 1 : Nat) : Int)) Bi rfl hA1 rfl by_Om by_Om) (Ia (v := .pointer (some ((ad1.add (((Zb mp).length - 1) * 2)).add 1))) (Tc (a := ad1.add (((Zb mp).length - 1) * 2)) Jg rfl) (Ia (v := .int .i64 (((Zb mp)[(Zb mp).length - 1]).2)) (Wa isAgg3 rfl (hF.cell0 (hk1 1 Gb))) ?_))
 refine Ia (v := .bool false) (Ld (Ui rfl rfl) (by have h1 := hmp _ (List.getElem_mem (l := mp) (n := mp.length - 1) by_Om); have h2 := Fl (m := mp) (i := mp.length - 1) by_Om by_Om; have h3 : (Zb mp)[(Zb mp).length - 1] = (Zb mp)[mp.length - 1] := (by congr 1; omega); rw [h3, h2]; simp only; omega)) ?_
 refine Ca (Rc rfl rfl) (Ca (Fd rfl rfl) (Fb ?_))
 exact Dc ⟨VH, hF⟩
 refine Ra (Ra (Ra (Ra (Ra (Ra (Ra (Ra (Ca (Fd rfl rfl) (Ca (Fd rfl rfl) (Fb ?_))))))))))
 exact Dc ⟨VH, hF⟩
 clear hF; rintro σ w ⟨hs, hF⟩
 refine Eg.slots hs ?_
 clear hs; intro σ
 refine Ha (Jr rfl (Ma (Ca (Hb rfl) ?_)))
 refine So (v := fun b => .slice (some ⟨b, 0, none⟩) n n) (o := .cells (Za (n) fun _ => 0) 3) hF (Mi Xg Db rfl rfl by_Om) ?_
 clear hF; rintro b1 w hb1 hF -
 refine Ca (Mh rfl) (Fa (Ja (Ma (Ca (Pd rfl) (Ca (Lf underlying39 rfl) (Ca (Hb rfl) (Fa (Ya ?_))))))))
 refine Uc (fun μ σ w => ∃ (i : Nat), ∃ (f : Nat → Int), μ = n - i ∧ (i ≤ n) ∧ (∀ k, k < i → f k = -1) ∧ AllEq σ [(1, .slice (A) ((Zb mp).length) (c)), (6, .slice (some ⟨b1, 0, none⟩) n n), (32, .int .i64 ((n : Nat))), (33, .int .i64 ((i : Int)))] ∧ FR w0 [] [(b1, .cells (Za (n) (f)) 3)] w) _ ⟨0, fun _ => 0, rfl, (Nat.zero_le _), (fun k hk => by omega), Dq, hF⟩ ?_
 clear hF; rintro μ σ w ⟨i, f, rfl, hi, hf, hs, hF⟩
 refine Cg.slots hs ?_
 clear hs; intro σ
 refine Ma (Ca (Yk rfl rfl) (Fa (Ja ?_)))
 refine Kc rfl rfl (fun hc1 => ?_) (fun hc1 => ?_)
 refine Cb (Ha (Ja (Ya (Ma (Ca (Hb rfl) (Ca (Pc rfl) (Fa (Ea (Ca (Pd rfl) (Ca (Hb rfl) (Ia (v := .pointer (some ⟨b1, i, none⟩)) (Pb (i := (i : Int)) (i) Ke rfl rfl by_Om by_Om by_Om) ?_)))))))))))
 refine Af 0 (l := [.int .i64 ((-1))]) (cs' := Za (n) (Ee (f) (i) ((-1)))) hF sizeOf3 rfl (v := .int .i64 ((-1))) rfl rfl Zc rfl (by rw [Se]; simp only [List.length_singleton]; exact Nat.succ_le_of_lt by_Om) (Qe _) ?_
 clear hF; rintro w hF -
 replace hF : FR w0 [] [(b1, .cells (Za (n) (Ee (f) (i) ((-1)))) 3)] w := hF
 refine Fb (Kb (Ha (Ea (Ca (Di (((i + 1 : Nat) : Int)) rfl rfl) (Ca (Hb rfl) (Fb ?_))))))
 refine Dc ⟨_, ?_, i + 1, Ee (f) (i) ((-1)), rfl, by_Om, (fun k hk => by by_cases e : k = i; (subst e; exact Jn _ _ _); (rw [Kp e]; exact hf k by_Om)), Dq, hF⟩
 omega
 refine Lc (Jc rfl ?_)
 refine Ha (Ja (Ja ?_))
 rw [F4 (N := n) (f := f) (g := fun _ => -1) (fun k hk => hf k by_Om)] at hF
 refine Ea (Ca (Pd rfl) (Ca (Lf underlying29 rfl) (Ca (Hb rfl) (Fa (Ya ?_)))))
 refine Uc (fun μ σ w => ∃ (t : Nat), ∃ (f : Nat → Int), μ = mp.length - t ∧ (t ≤ mp.length) ∧ (Im (mp.drop t) f = Im mp fun _ => -1) ∧ AllEq σ [(6, .slice (some ⟨b1, 0, none⟩) n n), (40, .slice (A) ((Zb mp).length) (c)), (41, .int .i64 (((Zb mp).length : Nat))), (42, .int .i64 ((t : Int)))] ∧ FR w0 [] [(b1, .cells (Za (n) (f)) 3)] w) _ ⟨0, fun _ => -1, rfl, (Nat.zero_le _), (rfl), Dq, hF⟩ ?_
 clear hF; rintro μ σ w ⟨t, f, rfl, ht, hrun, hs, hF⟩
 refine Cg.slots hs ?_
 clear hs; intro σ
 refine Ma (Ca (Yk rfl rfl) (Fa (Ja ?_)))
 refine Kc rfl rfl (fun hc2 => ?_) (fun hc2 => ?_)
 refine Cb (Ha (Ja (Ya (Ja ?_))))
 obtain ⟨a, b, hmt⟩ : ∃ a b : Nat, mp[t] = (a, b) := ⟨_, _, rfl⟩
 have hab : (Zb mp)[t] = ((a : Int), (b : Int)) := by rw [Fl by_Om by_Om, hmt]
 have hab1 := hmp _ (List.getElem_mem (l := mp) (n := t) by_Om)
 rw [hmt] at hab1
 refine Ea ?_
 obtain ⟨ad2, hA2, hk2, hx2⟩ := hX.pair_elem (i := t) by_Om
 rw [hab] at hk2 hx2
 refine Ia (v := .pointer (some (ad2.add (t * 2)))) (Pa (i := (t : Int)) Bi rfl hA2 rfl by_Om by_Om) (Ia (v := .agg #[.int .i64 ((((a : Int), (b : Int))).1), .int .i64 ((((a : Int), (b : Int))).2)]) (Ic (l := Ai ((a : Int), (b : Int))) isAgg49 sizeOf49 rfl rfl (hF.cells0 hk2)) ?_)
 refine Rm hF zeroValue49 sizeOf49 rfl ?_
 clear hF; rintro b2 w hb2 hF -
 refine Fa (Ea (Ca (Pd rfl) (Ca (Gc Aj rfl) (Vd (At isAgg3 rfl hF.F 0 rfl rfl) (Ca (Gc Jg rfl) (Vd (At isAgg3 rfl hF.F 0 rfl rfl) (Ia (v := .pointer (some ⟨b1, a, none⟩)) (Pb (i := (((a : Int), (b : Int))).1) (a) Ke rfl rfl by_Om by_Om by_Om) ?_)))))))
 refine Af 1 (l := [.int .i64 ((((a : Int), (b : Int))).2)]) (cs' := Za (n) (Ee (f) (a) ((((a : Int), (b : Int))).2))) hF sizeOf3 rfl (v := .int .i64 ((((a : Int), (b : Int))).2)) rfl rfl Zc rfl (by rw [Se]; simp only [List.length_singleton]; exact Nat.succ_le_of_lt by_Om) (Qe _) ?_
 clear hF; rintro w hF -
 replace hF : FR w0 [] [_, (b1, .cells (Za (n) (Ee (f) (a) ((((a : Int), (b : Int))).2))) 3)] w := hF
 refine Fb (Kb (Ha (Ea (Ca (Di (((t + 1 : Nat) : Int)) rfl rfl) (Ca (Hb rfl) (Fb ?_))))))
 refine Dc ⟨_, ?_, t + 1, Ee (f) (a) ((((a : Int), (b : Int))).2), rfl, by_Om, (by rw [← hrun, List.drop_eq_getElem_cons (show t < mp.length by omega), Im, hmt]), Dq, hF.drop 1⟩
 omega
 refine Lc (Jc rfl ?_)
 refine Ha (Ma (Ca (Pd rfl) (Ca (Mh rfl) (Ca (Hc rfl) (Fa ?_)))))
 refine Xb (Wb (Va (Od (v := .slice _ _ _) (x := .bool true) rfl rfl rfl) ?_))
 obtain rfl : t = mp.length := by omega
 rw [List.drop_length, Im] at hrun
 rw [hrun] at hF
 exact ⟨b1, rfl, Zv (hF.heap (i := 0) rfl) (hF.ge (i := 0) rfl) by_Om (fun k _ => by have := W0 (B := 9223372036854775807) mp (fun _ => -1) (fun z hz => (hmp z hz).2) (fun _ => by omega) k; omega), hF.same⟩
end Go.Scarf
