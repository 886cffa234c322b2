/- A part of the proof. -/
import Derived.Test.YtepbomjpbdbejaaGreatDoorW4
set_option linter.all false
set_option maxHeartbeats 8000000
set_option maxRecDepth 10000
namespace Go.Scarf
open Go.RowKit Go.Proofs Go.Proofs.Tryz
def MapRep (S : Nat → Prop) (w : World) (xs : List Tree) (l : MapL) : Prop := ∀ i (h : i < l.length), ∃ cs : List Value, l[i].2 = .agg cs.toArray ∧ ∃ h2 : i < xs.length, Rep S w (Ed xs[i]) cs
theorem MapRep.nil (S : Nat → Prop) (w : World) (xs : List Tree) : MapRep S w xs [] := fun i h => absurd h Ga
theorem MapRep.snoc {S : Nat → Prop} {w : World} {xs : List Tree} {l : MapL} {k : Str} {cs : List Value} (h : MapRep S w xs l) (hl : l.length < xs.length) (hr : Rep S w (Ed xs[l.length]) cs) : MapRep S w xs (l ++ [(k, .agg cs.toArray)]) := by
  intro i hi
  rw [List.length_append, List.length_singleton] at hi
  by_cases he : i < l.length
  · obtain ⟨c, h1, h2, h3⟩ := h i he
    exact ⟨c, by rw [List.getElem_append_left he]; exact h1, h2, h3⟩
  · obtain rfl : i = l.length := by omega
    exact ⟨cs, by simp, hl, hr⟩
theorem W6 {l : MapL} {ks : List Str} {j : Nat} (h : j < ks.length) (hl : l.map (·.1) = ks.take j) (hn : ks.Nodup) : Qh l ks[j] = none := by
  have hnot : ¬ ks[j] ∈ ks.take j := fun hm => Xs h hm hn
  rw [← hl] at hnot
  unfold Qh
  rw [Option.map_eq_none_iff, List.find?_eq_none]
  intro x hx he
  exact hnot (List.mem_map.2 ⟨x, hx, by simpa using he⟩)
theorem Q_ {l : MapL} {ks : List Str} {j : Nat} {v : Value} (h : j < ks.length) (hl : l.map (·.1) = ks.take j) : (l ++ [(ks[j], v)]).map (·.1) = ks.take (j + 1) := by
  rw [List.map_append, hl, List.take_succ_eq_append_getElem h]; rfl
theorem CC {l : MapL} {ks : List Str} {j : Nat} (h : j ≤ ks.length) (hl : l.map (·.1) = ks.take j) : l.length = j := by
  have := congrArg List.length hl
  rw [List.length_map, List.length_take] at this; omega
theorem YA (k : Int) (t : Str) (ks : List Str) (xs : List Tree) (hn : ks.Nodup) (hlen : ks.length = xs.length) (S : Nat → Prop) (w0 : World) (cs : List Value) (hR : Rep S w0 (Ed (.node k t ks xs)) cs) : Calls prog 53 #[.agg cs.toArray] w0 (Md fun v w' => ∃ (b : Nat) (l : MapL), v = .map (some b) ∧ w0.heap.size ≤ b ∧ w'.heap[b]? = some (Rj l) ∧ l.map (·.1) = ks ∧ MapRep S w' xs l ∧ Same [] w0 w') := by
 obtain ⟨A, c, B, e, rfl, -, -, hK, hX⟩ := hR.tree_inv
 have hXl := hX.slice_len
 have hKl := hK.slice_len
 refine Ka func53 rfl ntmps53 Gb (Dd _) ?_
 have hF := FR.start w0 []
 refine Ma ?_
 refine Kk hF rfl ?_
 clear hF; rintro b1 w hb1 hF -
 refine Ca (Zy) (Cc (Ca (Gc Fm rfl) (Vd (Ij isAgg25 rfl hF.F 0 rfl rfl) (Ca (Lf underlying25 rfl) ?_))))
 refine So (v := fun b => .map (some b)) hF (O0 underlying81 rfl) ?_
 clear hF; rintro b2 w hb2 hF -
 refine Ca (Zy) (Fa (Ja (Ma (Ca (Gc Fm rfl) (Vd (Ij isAgg25 rfl hF.F 1 rfl rfl) (Ca (Lf underlying25 rfl) (Ca (Hb rfl) (Fa (Ya ?_)))))))))
 refine Uc (fun μ σ w => ∃ (j : Nat), ∃ (l : MapL), μ = ks.length - j ∧ (j ≤ ks.length) ∧ (l.map (·.1) = ks.take j) ∧ (MapRep S w0 xs l) ∧ AllEq σ [(1, .pointer (some ⟨b1, 0, none⟩)), (3, .map (some b2)), (11, .slice A ks.length c), (12, .int .i64 ((ks.length : Nat))), (13, .int .i64 ((j : Int)))] ∧ FR w0 [] [(b2, Rj (l)), (b1, .cells #[.int .i64 k, .string (bs t), .slice A ks.length c, .slice B xs.length e] 27)] w) _ ⟨0, [], rfl, (Nat.zero_le _), Ga, (MapRep.nil _ _ _), Kq, hF⟩ ?_
 clear hF; rintro μ σ w ⟨j, l, rfl, hj, hl, hr, hs, hF⟩
 refine Cg.slots hs ?_
 clear hs; intro σ
 have hll := CC hj hl
 refine Ma (Ca (Yk rfl rfl) (Fa (Ja ?_)))
 refine Kc rfl rfl (fun hc0 => ?_) (fun hc0 => ?_)
 refine Cb (Ha (Ja (Ya (Ma (Ca (Hb rfl) ?_)))))
 obtain ⟨ad0, hA0, hk0, hx0⟩ := hK.str_elem (i := j) by_Om
 refine Ia (v := .pointer (some (ad0.add (j * 1)))) (Pa (i := (j : Int)) Wx rfl hA0 rfl by_Om by_Om) (Ia (v := .string (bs (ks[j]))) (Wa isAgg9 rfl (hF.cell0 hk0)) (Ca (Pc rfl) (Ca (Zi rfl) (Fa (Ea (Ca (F6) (Ca (Bf rfl) (Ca (Gc Xe rfl) (Vd (Ij isAgg22 rfl hF.F 1 rfl rfl) (Ca (Hb rfl) ?_))))))))))
 obtain ⟨ad1, cs1, hA1, hl1, hk1, hx1⟩ := hX.tree_elem (i := j) by_Om
 have ho1 := hx1.one_
 refine Ia (v := .pointer (some (ad1.add (j * 4)))) (Pa (i := (j : Int)) Do rfl hA1 rfl by_Om by_Om) (Ia (v := .agg (List.toArray cs1)) (Ic (l := cs1) isAgg27 sizeOf27 rfl hl1 (hF.cells0 hk1)) ?_)
 refine Pu 0 (v := .agg (List.toArray cs1)) hF underlying81 underlying9 rfl rfl rfl rfl (W6 by_Om hl hn) ?_
 clear hF; rintro w hF -
 replace hF : FR w0 [] [(b2, Rj (l ++ [(ks[j], .agg (List.toArray cs1))])), (b1, .cells #[.int .i64 k, .string (bs t), .slice A ks.length c, .slice B xs.length e] 27)] w := hF
 refine Fb (Kb (Ha (Ea (Ca (To rfl rfl) (Ca (Hb rfl) (Fb ?_))))))
 refine Dc ⟨_, ?_, j + 1, l ++ [(ks[j], .agg (List.toArray cs1))], rfl, by_Om, (Q_ by_Om hl), (hr.snoc by_Om (by simpa only [hll] using hx1)), Kq, hF⟩
 omega
 refine Lc (Jc rfl ?_)
 refine Ha (Ma (Ca (F6) (Ca (Zy) (Fa ?_))))
 refine Ie (v := .map (some b2)) rfl rfl ?_
 refine ⟨b2, l, rfl, by have := hF.ge (i := 0) rfl; exact this, hF.heap (i := 0) rfl, ?_, ?_, hF.same⟩
 rw [hl]; exact List.take_of_length_le by_Om
 intro i hi; obtain ⟨cs, h1, h2, h3⟩ := hr i hi; exact ⟨cs, h1, h2, hF.rep h3⟩
end Go.Scarf
namespace Go.Scarf
open Go.RowKit Go.Proofs Go.Proofs.Tryz
def Fh : List Str → List Tree → Str → Option Tree
  | k :: ks, x :: xs, key => if k = key then some x else Fh ks xs key
  | _, _, _ => none
theorem MapRep.tail {S : Nat → Prop} {w : World} {x : Tree} {xs : List Tree} {p : Str × Value} {l : MapL} (h : MapRep S w (x :: xs) (p :: l)) : MapRep S w xs l := by
  intro i hi
  obtain ⟨cs, h1, h2, h3⟩ := h (i + 1) (by simpa using hi)
  exact ⟨cs, by simpa using h1, by simpa using h2, by simpa using h3⟩
theorem Cx {S : Nat → Prop} {w : World} (key : Str) : ∀ {ks : List Str} {xs : List Tree} {l : MapL}, l.map (·.1) = ks → MapRep S w xs l →
    (Qh l key = none ∧ Fh ks xs key = none) ∨ ∃ (cs : List Value) (y : Tree), Qh l key = some (.agg cs.toArray) ∧ Fh ks xs key = some y ∧ y ∈ xs ∧ Rep S w (Ed y) cs
  | ks, xs, [], hk, _ => by
    left
    simp only [List.map_nil] at hk
    subst hk
    exact ⟨rfl, by cases xs <;> rfl⟩
  | ks, [], p :: l, hk, hm => by
    obtain ⟨cs, h1, h2, h3⟩ := hm 0 Ga
    simp at h2
  | ks, x :: xs, p :: l, hk, hm => by
    rw [List.map_cons] at hk
    subst hk
    by_cases h : p.1 = key
    · right
      obtain ⟨cs, h1, h2, h3⟩ := hm 0 Ga
      refine ⟨cs, x, ?_, by simp [Fh, h], by simp, h3⟩
      simp only [List.getElem_cons_zero] at h1
      simp [Qh, h, h1]
    · have e1 : Qh (p :: l) key = Qh l key := by simp [Qh, h]
      have e2 : Fh (p.1 :: l.map (·.1)) (x :: xs) key = Fh (l.map (·.1)) xs key := by simp [Fh, h]
      rw [e1, e2]
      rcases Cx key rfl hm.tail with h | ⟨cs, y, h1, h2, h3, h4⟩
      · exact .inl h
      · exact .inr ⟨cs, y, h1, h2, by simp [h3], h4⟩
def BothC (w0 : World) (g : Nat) (xs ys : List Tree) (q : Tree → Tree → Bool) : Prop := ∀ x, x ∈ xs → ∀ y, y ∈ ys → ∀ S S' w cs ct, Same [] w0 w → Rep S w (Ed x) cs → Rep S' w (Ed y) ct → Calls prog g #[.agg cs.toArray, .agg ct.toArray] w (Md fun v w' => v = .bool (q x y) ∧ Same [] w w')
theorem BothC.ext {w0 w : World} {g : Nat} {xs ys : List Tree} {q : Tree → Tree → Bool} (h : BothC w0 g xs ys q) (hs : Same [] w0 w) : BothC w g xs ys q := fun x hx y hy S S' w' cs ct hw => h x hx y hy S S' w' cs ct (hs.trans hw)
end Go.Scarf
namespace Go.Scarf
open Go.RowKit Go.Proofs Go.Proofs.Tryz
theorem MapRep.ext {S : Nat → Prop} {w w' : World} {xs : List Tree} {l : MapL} (h : MapRep S w xs l) (hs : Same [] w w') : MapRep S w' xs l := fun i hi => by
  obtain ⟨cs, h1, h2, h3⟩ := h i hi
  exact ⟨cs, h1, h2, h3.ext hs⟩
theorem Same.heap {w w' : World} {b : Nat} {o : Obj} (hs : Same [] w w') (h : w.heap[b]? = some o) : w'.heap[b]? = some o := (hs.block b (Da h) Ga).trans h
theorem Ty {q : Tree → Bool} : ∀ {xs : List Tree}, Qm q xs = true → ∀ x ∈ xs, Xd q x = true
  | [], _, _, h => absurd h Ga
  | y :: ys, h, x, hx => by
    rw [Qm, Bool.and_eq_true] at h
    rcases List.mem_cons.1 hx with rfl | hx
    · exact h.1
    · exact Ty h.2 x hx
theorem Ng {q : Tree → Bool} {k : Int} {t : Str} {ks : List Str} {xs : List Tree} (h : Xd q (.node k t ks xs) = true) : q (.node k t ks xs) = true ∧ ∀ x ∈ xs, Xd q x = true := by
  rw [Xd, Bool.and_eq_true] at h
  exact ⟨h.1, Ty h.2⟩
theorem Nq {t : Str} {ks : List Str} {xs : List Tree} (h : nodeB (.node 6 t ks xs) = true) : ks.Nodup ∧ ks.length = xs.length := by
  simp only [nodeB, Zm] at h
  simp at h
  exact ⟨h.1.1.1, by omega⟩
end Go.Scarf
namespace Go.Scarf
open Go.RowKit Go.Proofs Go.Proofs.Tryz
def BothI (w0 : World) (g : Nat) (xs ys : List Tree) (q : Tree → Tree → Int) : Prop := ∀ x, x ∈ xs → ∀ y, y ∈ ys → ∀ S S' w cs ct, Same [] w0 w → Rep S w (Ed x) cs → Rep S' w (Ed y) ct → Calls prog g #[.agg cs.toArray, .agg ct.toArray] w (Md fun v w' => v = .int .i64 (q x y) ∧ Same [] w w')
theorem BothI.ext {w0 w : World} {g : Nat} {xs ys : List Tree} {q : Tree → Tree → Int} (h : BothI w0 g xs ys q) (hs : Same [] w0 w) : BothI w g xs ys q := fun x hx y hy S S' w' cs ct hw => h x hx y hy S S' w' cs ct (hs.trans hw)
end Go.Scarf
namespace Go.Scarf
open Go.RowKit Go.Proofs Go.Proofs.Tryz
end Go.Scarf
namespace Go.Scarf
open Go.RowKit Go.Proofs Go.Proofs.Tryz
theorem Ym {x : Tree} (h : Bj x = true) : Xd nodeB x = true := by unfold Bj at h; rw [Bool.and_eq_true] at h; exact h.2
theorem VM (s : Str) (w0 : World) : Calls prog 79 #[.string (bs s)] w0 (Md fun v w' => v = .agg #[.int .i64 4, .string (bs s), .slice none 0 0, .slice none 0 0] ∧ Same [] w0 w') := by
 refine Ka func79 rfl ntmps79 Gb (Dd _) ?_
 have hF := FR.start w0 []
 refine Ma ?_
 refine Lh (cs := #[.int .i64 0, .string (bs []), .slice none 0 0, .slice none 0 0]) hF zeroValue27 rfl ?_
 clear hF; rintro b1 w hb1 hF -
 refine Cc (Ca (Bf rfl) ?_)
 refine Ia (w' := w) (v := .agg #[.int .i64 4, .string (bs s), .slice none 0 0, .slice none 0 0]) Db ?_
 refine Vl hF sizeOf27 rfl rfl Tl ?_
 clear hF; rintro w hF -
 refine Fa ?_
 refine Xb (Wb (Va (Hx rfl (l := [.int .i64 4, .string (bs s), .slice none 0 0, .slice none 0 0]) rfl isAgg27 sizeOf27 rfl (hF.cellsAll 0 rfl)) ?_))
 exact ⟨rfl, hF.same⟩
theorem C6 (n : Int) (h1 : -9223372036854775808 ≤ n) (h2 : n ≤ 9223372036854775807) (w0 : World) (hG : Gl w0) : Calls prog 22 #[.int .i64 n] w0 (Md fun v w' => v = .agg #[.int .i64 3, .string (bs (Eo (GH n))), .slice none 0 0, .slice none 0 0] ∧ Same [] w0 w') := by
 refine Ka func22 rfl ntmps22 Gb (Dd _) ?_
 have hF := FR.start w0 []
 refine Ma ?_
 refine Lh (cs := #[.int .i64 0, .string (bs []), .slice none 0 0, .slice none 0 0]) hF zeroValue27 rfl ?_
 clear hF; rintro b1 w hb1 hF -
 refine Cc (Ca (Hb rfl) ?_)
 refine Rb hF (YG n h1 h2 _ (hG.ext hF.same)) (Ob BL rfl rfl) ?_
 clear hF; intro w hF
 refine Rb hF (ED (GH n) (by have := Rq (Lib.itoa n); exact Nat.le_trans this Ta) _ (hG.ext hF.same)) (Ob LH rfl rfl) ?_
 clear hF; intro w hF
 refine Ia (w' := w) (v := .agg #[.int .i64 3, .string (bs (Eo (GH n))), .slice none 0 0, .slice none 0 0]) Db ?_
 refine Vl hF sizeOf27 rfl rfl Tl ?_
 clear hF; rintro w hF -
 refine Fa ?_
 refine Xb (Wb (Va (Hx rfl (l := [.int .i64 3, .string (bs (Eo (GH n))), .slice none 0 0, .slice none 0 0]) rfl isAgg27 sizeOf27 rfl (hF.cellsAll 0 rfl)) ?_))
 exact ⟨rfl, hF.same⟩
end Go.Scarf
