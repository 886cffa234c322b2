/- A part of the proof. -/
import Derived.Test.YtehigfneiofjnaaGreatDoorW4
set_option linter.all false
set_option maxHeartbeats 8000000
set_option maxRecDepth 10000
namespace Go.Scarf
open Go.RowKit Go.Proofs Go.Proofs.Tryz
def MapRep (S : Nat → Prop) (w : World) (xs : List Tree) (l : MapL) : Prop := ∀ i (h : i < l.length), ∃ cs : List Value, l[i].2 = .agg cs.toArray ∧ ∃ h2 : i < xs.length, Rep S w (Gc xs[i]) cs
theorem MapRep.nil (S : Nat → Prop) (w : World) (xs : List Tree) : MapRep S w xs [] := fun i h => absurd h Sa
theorem MapRep.snoc {S : Nat → Prop} {w : World} {xs : List Tree} {l : MapL} {k : Str} {cs : List Value} (h : MapRep S w xs l) (hl : l.length < xs.length) (hr : Rep S w (Gc xs[l.length]) cs) : MapRep S w xs (l ++ [(k, .agg cs.toArray)]) := by
  intro i hi
  rw [List.length_append, List.length_singleton] at hi
  by_cases he : i < l.length
  · obtain ⟨c, h1, h2, h3⟩ := h i he
    exact ⟨c, by rw [List.getElem_append_left he]; exact h1, h2, h3⟩
  · obtain rfl : i = l.length := by omega
    exact ⟨cs, by simp, hl, hr⟩
theorem BA {l : MapL} {ks : List Str} {j : Nat} (h : j < ks.length) (hl : l.map (·.1) = ks.take j) (hn : ks.Nodup) : Jj l ks[j] = none := by
  have hnot : ¬ ks[j] ∈ ks.take j := fun hm => Wp h hm hn
  rw [← hl] at hnot
  unfold Jj
  rw [Option.map_eq_none_iff, List.find?_eq_none]
  intro x hx he
  exact hnot (List.mem_map.2 ⟨x, hx, by simpa using he⟩)
theorem ED {l : MapL} {ks : List Str} {j : Nat} {v : Value} (h : j < ks.length) (hl : l.map (·.1) = ks.take j) : (l ++ [(ks[j], v)]).map (·.1) = ks.take (j + 1) := by
  rw [List.map_append, hl, List.take_succ_eq_append_getElem h]; rfl
theorem SJ {l : MapL} {ks : List Str} {j : Nat} (h : j ≤ ks.length) (hl : l.map (·.1) = ks.take j) : l.length = j := by
  have := congrArg List.length hl
  rw [List.length_map, List.length_take] at this; omega
theorem OE (k : Int) (t : Str) (ks : List Str) (xs : List Tree) (hn : ks.Nodup) (hlen : ks.length = xs.length) (S : Nat → Prop) (w0 : World) (cs : List Value) (hR : Rep S w0 (Gc (.node k t ks xs)) cs) : Calls prog 56 #[.agg cs.toArray] w0 (Ce fun v w' => ∃ (b : Nat) (l : MapL), v = .map (some b) ∧ w0.heap.size ≤ b ∧ w'.heap[b]? = some (Ql l) ∧ l.map (·.1) = ks ∧ MapRep S w' xs l ∧ Same [] w0 w') := by
 obtain ⟨A, c, B, e, rfl, -, -, hK, hX⟩ := hR.tree_inv
 have hXl := hX.slice_len
 have hKl := hK.slice_len
 refine Ma func56 rfl ntmps56 Qb (Rc _) ?_
 have hF := FR.start w0 []
 refine Ha ?_
 refine Bh hF rfl ?_
 clear hF; rintro b1 w hb1 hF -
 refine Ca (V2) (Yb (Ca (Fc Nf rfl) (Uc (Mf isAgg22 rfl hF.F 0 rfl rfl) (Ca (Ji underlying22 rfl) ?_))))
 refine Ty (v := fun b => .map (some b)) hF (C2 underlying80 rfl) ?_
 clear hF; rintro b2 w hb2 hF -
 refine Ca (V2) (Da (Ia (Ha (Ca (Fc Nf rfl) (Uc (Mf isAgg22 rfl hF.F 1 rfl rfl) (Ca (Ji underlying22 rfl) (Ca (Za rfl) (Da (Db ?_)))))))))
 refine Xc (fun μ σ w => ∃ (j : Nat), ∃ (l : MapL), μ = ks.length - j ∧ (j ≤ ks.length) ∧ (l.map (·.1) = ks.take j) ∧ (MapRep S w0 xs l) ∧ AllEq σ [(1, .pointer (some ⟨b1, 0, none⟩)), (3, .map (some b2)), (11, .slice A ks.length c), (12, .int .i64 ((ks.length : Nat))), (13, .int .i64 ((j : Int)))] ∧ FR w0 [] [(b2, Ql (l)), (b1, .cells #[.int .i64 k, .string (bs t), .slice A ks.length c, .slice B xs.length e] 25)] w) _ ⟨0, [], rfl, (Nat.zero_le _), Sa, (MapRep.nil _ _ _), Fp, hF⟩ ?_
 clear hF; rintro μ σ w ⟨j, l, rfl, hj, hl, hr, hs, hF⟩
 refine Cg.slots hs ?_
 clear hs; intro σ
 have hll := SJ hj hl
 refine Ha (Ca (Fj rfl rfl) (Da (Ia ?_)))
 refine Bc rfl rfl (fun hc0 => ?_) (fun hc0 => ?_)
 refine Ra (Ja (Ia (Db (Ha (Ca (Za rfl) ?_)))))
 obtain ⟨ad0, hA0, hk0, hx0⟩ := hK.str_elem (i := j) by_Om
 refine Fa (v := .pointer (some (ad0.add (j * 1)))) (Ya (i := (j : Int)) Pj rfl hA0 rfl by_Om by_Om) (Fa (v := .string (bs (ks[j]))) (Vb isAgg9 rfl (hF.cell0 hk0)) (Ca (Kb rfl) (Ca (Ld rfl) (Da (Ga (Ca (EC) (Ca (Pc rfl) (Ca (Fc Vc rfl) (Uc (Mf isAgg23 rfl hF.F 1 rfl rfl) (Ca (Za rfl) ?_))))))))))
 obtain ⟨ad1, cs1, hA1, hl1, hk1, hx1⟩ := hX.tree_elem (i := j) by_Om
 have ho1 := hx1.one_
 refine Fa (v := .pointer (some (ad1.add (j * 4)))) (Ya (i := (j : Int)) Sj rfl hA1 rfl by_Om by_Om) (Fa (v := .agg (List.toArray cs1)) (Rb (l := cs1) isAgg25 sizeOf25 rfl hl1 (hF.cells0 hk1)) ?_)
 refine Cx 0 (v := .agg (List.toArray cs1)) hF underlying80 underlying9 rfl rfl rfl rfl (BA by_Om hl hn) ?_
 clear hF; rintro w hF -
 replace hF : FR w0 [] [(b2, Ql (l ++ [(ks[j], .agg (List.toArray cs1))])), (b1, .cells #[.int .i64 k, .string (bs t), .slice A ks.length c, .slice B xs.length e] 25)] w := hF
 refine Cb (Wb (Ja (Ga (Ca (El rfl rfl) (Ca (Za rfl) (Cb ?_))))))
 refine Gb ⟨_, ?_, j + 1, l ++ [(ks[j], .agg (List.toArray cs1))], rfl, by_Om, (ED by_Om hl), (hr.snoc by_Om (by simpa only [hll] using hx1)), Fp, hF⟩
 omega
 refine Oc (Nc rfl ?_)
 refine Ja (Ha (Ca (EC) (Ca (V2) (Da ?_))))
 refine Ud (v := .map (some b2)) rfl rfl ?_
 refine ⟨b2, l, rfl, by have := hF.ge (i := 0) rfl; exact this, hF.heap (i := 0) rfl, ?_, ?_, hF.same⟩
 rw [hl]; exact List.take_of_length_le by_Om
 intro i hi; obtain ⟨cs, h1, h2, h3⟩ := hr i hi; exact ⟨cs, h1, h2, hF.rep h3⟩
end Go.Scarf
namespace Go.Scarf
open Go.RowKit Go.Proofs Go.Proofs.Tryz
def Ai : List Str → List Tree → Str → Option Tree
  | k :: ks, x :: xs, key => if k = key then some x else Ai ks xs key
  | _, _, _ => none
theorem MapRep.tail {S : Nat → Prop} {w : World} {x : Tree} {xs : List Tree} {p : Str × Value} {l : MapL} (h : MapRep S w (x :: xs) (p :: l)) : MapRep S w xs l := by
  intro i hi
  obtain ⟨cs, h1, h2, h3⟩ := h (i + 1) (by simpa using hi)
  exact ⟨cs, by simpa using h1, by simpa using h2, by simpa using h3⟩
theorem Qz {S : Nat → Prop} {w : World} (key : Str) : ∀ {ks : List Str} {xs : List Tree} {l : MapL}, l.map (·.1) = ks → MapRep S w xs l →
    (Jj l key = none ∧ Ai ks xs key = none) ∨ ∃ (cs : List Value) (y : Tree), Jj l key = some (.agg cs.toArray) ∧ Ai ks xs key = some y ∧ y ∈ xs ∧ Rep S w (Gc y) cs
  | ks, xs, [], hk, _ => by
    left
    simp only [List.map_nil] at hk
    subst hk
    exact ⟨rfl, by cases xs <;> rfl⟩
  | ks, [], p :: l, hk, hm => by
    obtain ⟨cs, h1, h2, h3⟩ := hm 0 Sa
    simp at h2
  | ks, x :: xs, p :: l, hk, hm => by
    rw [List.map_cons] at hk
    subst hk
    by_cases h : p.1 = key
    · right
      obtain ⟨cs, h1, h2, h3⟩ := hm 0 Sa
      refine ⟨cs, x, ?_, by simp [Ai, h], by simp, h3⟩
      simp only [List.getElem_cons_zero] at h1
      simp [Jj, h, h1]
    · have e1 : Jj (p :: l) key = Jj l key := by simp [Jj, h]
      have e2 : Ai (p.1 :: l.map (·.1)) (x :: xs) key = Ai (l.map (·.1)) xs key := by simp [Ai, h]
      rw [e1, e2]
      rcases Qz key rfl hm.tail with h | ⟨cs, y, h1, h2, h3, h4⟩
      · exact .inl h
      · exact .inr ⟨cs, y, h1, h2, by simp [h3], h4⟩
def BothC (w0 : World) (g : Nat) (xs ys : List Tree) (q : Tree → Tree → Bool) : Prop := ∀ x, x ∈ xs → ∀ y, y ∈ ys → ∀ S S' w cs ct, Same [] w0 w → Rep S w (Gc x) cs → Rep S' w (Gc y) ct → Calls prog g #[.agg cs.toArray, .agg ct.toArray] w (Ce fun v w' => v = .bool (q x y) ∧ Same [] w w')
theorem BothC.ext {w0 w : World} {g : Nat} {xs ys : List Tree} {q : Tree → Tree → Bool} (h : BothC w0 g xs ys q) (hs : Same [] w0 w) : BothC w g xs ys q := fun x hx y hy S S' w' cs ct hw => h x hx y hy S S' w' cs ct (hs.trans hw)
end Go.Scarf
namespace Go.Scarf
open Go.RowKit Go.Proofs Go.Proofs.Tryz
theorem MapRep.ext {S : Nat → Prop} {w w' : World} {xs : List Tree} {l : MapL} (h : MapRep S w xs l) (hs : Same [] w w') : MapRep S w' xs l := fun i hi => by
  obtain ⟨cs, h1, h2, h3⟩ := h i hi
  exact ⟨cs, h1, h2, h3.ext hs⟩
theorem Same.heap {w w' : World} {b : Nat} {o : Obj} (hs : Same [] w w') (h : w.heap[b]? = some o) : w'.heap[b]? = some o := (hs.block b (Jb h) Sa).trans h
theorem J1 {q : Tree → Bool} : ∀ {xs : List Tree}, Jp q xs = true → ∀ x ∈ xs, Yd q x = true
  | [], _, _, h => absurd h Sa
  | y :: ys, h, x, hx => by
    rw [Jp, Bool.and_eq_true] at h
    rcases List.mem_cons.1 hx with rfl | hx
    · exact h.1
    · exact J1 h.2 x hx
theorem Uf {q : Tree → Bool} {k : Int} {t : Str} {ks : List Str} {xs : List Tree} (h : Yd q (.node k t ks xs) = true) : q (.node k t ks xs) = true ∧ ∀ x ∈ xs, Yd q x = true := by
  rw [Yd, Bool.and_eq_true] at h
  exact ⟨h.1, J1 h.2⟩
theorem Kq {t : Str} {ks : List Str} {xs : List Tree} (h : nodeB (.node 6 t ks xs) = true) : ks.Nodup ∧ ks.length = xs.length := by
  simp only [nodeB, Bl] at h
  simp at h
  exact ⟨h.1.1.1, by omega⟩
end Go.Scarf
namespace Go.Scarf
open Go.RowKit Go.Proofs Go.Proofs.Tryz
def BothI (w0 : World) (g : Nat) (xs ys : List Tree) (q : Tree → Tree → Int) : Prop := ∀ x, x ∈ xs → ∀ y, y ∈ ys → ∀ S S' w cs ct, Same [] w0 w → Rep S w (Gc x) cs → Rep S' w (Gc y) ct → Calls prog g #[.agg cs.toArray, .agg ct.toArray] w (Ce fun v w' => v = .int .i64 (q x y) ∧ Same [] w w')
theorem BothI.ext {w0 w : World} {g : Nat} {xs ys : List Tree} {q : Tree → Tree → Int} (h : BothI w0 g xs ys q) (hs : Same [] w0 w) : BothI w g xs ys q := fun x hx y hy S S' w' cs ct hw => h x hx y hy S S' w' cs ct (hs.trans hw)
end Go.Scarf
namespace Go.Scarf
open Go.RowKit Go.Proofs Go.Proofs.Tryz
end Go.Scarf
namespace Go.Scarf
open Go.RowKit Go.Proofs Go.Proofs.Tryz
theorem Tn {x : Tree} (h : Ti x = true) : Yd nodeB x = true := by unfold Ti at h; rw [Bool.and_eq_true] at h; exact h.2
theorem ST (s : Str) (w0 : World) : Calls prog 30 #[.string (bs s)] w0 (Ce fun v w' => v = .agg #[.int .i64 4, .string (bs s), .slice none 0 0, .slice none 0 0] ∧ Same [] w0 w') := by
 refine Ma func30 rfl ntmps30 Qb (Rc _) ?_
 have hF := FR.start w0 []
 refine Ha ?_
 refine Af (cs := #[.int .i64 0, .string (bs []), .slice none 0 0, .slice none 0 0]) hF zeroValue25 rfl ?_
 clear hF; rintro b1 w hb1 hF -
 refine Yb (Ca (Pc rfl) ?_)
 refine Fa (w' := w) (v := .agg #[.int .i64 4, .string (bs s), .slice none 0 0, .slice none 0 0]) Fb ?_
 refine Ij hF sizeOf25 rfl rfl Dl ?_
 clear hF; rintro w hF -
 refine Da ?_
 refine Pb (Ob (Qa (Qk rfl (l := [.int .i64 4, .string (bs s), .slice none 0 0, .slice none 0 0]) rfl isAgg25 sizeOf25 rfl (hF.cellsAll 0 rfl)) ?_))
 exact ⟨rfl, hF.same⟩
theorem FF (n : Int) (h1 : -9223372036854775808 ≤ n) (h2 : n ≤ 9223372036854775807) (w0 : World) (hG : Gl w0) : Calls prog 9 #[.int .i64 n] w0 (Ce fun v w' => v = .agg #[.int .i64 3, .string (bs (Uk (PN n))), .slice none 0 0, .slice none 0 0] ∧ Same [] w0 w') := by
 refine Ma func9 rfl ntmps9 Qb (Rc _) ?_
 have hF := FR.start w0 []
 refine Ha ?_
 refine Af (cs := #[.int .i64 0, .string (bs []), .slice none 0 0, .slice none 0 0]) hF zeroValue25 rfl ?_
 clear hF; rintro b1 w hb1 hF -
 refine Yb (Ca (Za rfl) ?_)
 refine Va hF (HK n h1 h2 _ (hG.ext hF.same)) (Ua MS rfl rfl) ?_
 clear hF; intro w hF
 refine Va hF (NJ (PN n) (by have := En (Lib.itoa n); exact Nat.le_trans this Oa) _ (hG.ext hF.same)) (Ua BN rfl rfl) ?_
 clear hF; intro w hF
 refine Fa (w' := w) (v := .agg #[.int .i64 3, .string (bs (Uk (PN n))), .slice none 0 0, .slice none 0 0]) Fb ?_
 refine Ij hF sizeOf25 rfl rfl Dl ?_
 clear hF; rintro w hF -
 refine Da ?_
 refine Pb (Ob (Qa (Qk rfl (l := [.int .i64 3, .string (bs (Uk (PN n))), .slice none 0 0, .slice none 0 0]) rfl isAgg25 sizeOf25 rfl (hF.cellsAll 0 rfl)) ?_))
 exact ⟨rfl, hF.same⟩
end Go.Scarf
