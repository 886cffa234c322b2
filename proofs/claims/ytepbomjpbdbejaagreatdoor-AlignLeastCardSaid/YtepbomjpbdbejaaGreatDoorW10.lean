/- A part of the proof. -/
import Derived.Test.YtepbomjpbdbejaaGreatDoorW4
set_option linter.all false
set_option maxHeartbeats 8000000
set_option maxRecDepth 10000
namespace Go.Scarf
open Go.RowKit Go.Proofs Go.Proofs.Tryz
def MapRep (S : Nat → Prop) (w : World) (xs : List Tree) (l : MapL) : Prop := ∀ i (h : i < l.length), ∃ cs : List Value, l[i].2 = .agg cs.toArray ∧ ∃ h2 : i < xs.length, Rep S w (Sc xs[i]) cs
theorem MapRep.nil (S : Nat → Prop) (w : World) (xs : List Tree) : MapRep S w xs [] := fun i h => absurd h Ga
theorem MapRep.snoc {S : Nat → Prop} {w : World} {xs : List Tree} {l : MapL} {k : Str} {cs : List Value} (h : MapRep S w xs l) (hl : l.length < xs.length) (hr : Rep S w (Sc xs[l.length]) cs) : MapRep S w xs (l ++ [(k, .agg cs.toArray)]) := by
  intro i hi
  rw [List.length_append, List.length_singleton] at hi
  by_cases he : i < l.length
  · obtain ⟨c, h1, h2, h3⟩ := h i he
    exact ⟨c, by rw [List.getElem_append_left he]; exact h1, h2, h3⟩
  · obtain rfl : i = l.length := by omega
    exact ⟨cs, by simp, hl, hr⟩
theorem ZB {l : MapL} {ks : List Str} {j : Nat} (h : j < ks.length) (hl : l.map (·.1) = ks.take j) (hn : ks.Nodup) : Ah l ks[j] = none := by
  have hnot : ¬ ks[j] ∈ ks.take j := fun hm => Zt h hm hn
  rw [← hl] at hnot
  unfold Ah
  rw [Option.map_eq_none_iff, List.find?_eq_none]
  intro x hx he
  exact hnot (List.mem_map.2 ⟨x, hx, by simpa using he⟩)
theorem WE {l : MapL} {ks : List Str} {j : Nat} {v : Value} (h : j < ks.length) (hl : l.map (·.1) = ks.take j) : (l ++ [(ks[j], v)]).map (·.1) = ks.take (j + 1) := by
  rw [List.map_append, hl, List.take_succ_eq_append_getElem h]; rfl
theorem LI {l : MapL} {ks : List Str} {j : Nat} (h : j ≤ ks.length) (hl : l.map (·.1) = ks.take j) : l.length = j := by
  have := congrArg List.length hl
  rw [List.length_map, List.length_take] at this; omega
theorem Vv (k : Int) (t : Str) (ks : List Str) (xs : List Tree) (hn : ks.Nodup) (hlen : ks.length = xs.length) (S : Nat → Prop) (w0 : World) (cs : List Value) (hR : Rep S w0 (Sc (.node k t ks xs)) cs) : Calls prog 53 #[.agg cs.toArray] w0 (Rd fun v w' => ∃ (b : Nat) (l : MapL), v = .map (some b) ∧ w0.heap.size ≤ b ∧ w'.heap[b]? = some (Sh l) ∧ l.map (·.1) = ks ∧ MapRep S w' xs l ∧ Same [] w0 w') := by
 obtain ⟨A, c, B, e, rfl, -, -, hK, hX⟩ := hR.tree_inv
 have hXl := hX.slice_len
 have hKl := hK.slice_len
 refine Ma func53 rfl ntmps53 Jb (Ed _) ?_
 have hF := FR.start w0 []
 refine Ka ?_
 refine Sj hF rfl ?_
 clear hF; rintro b1 w hb1 hF -
 refine Ca (C1) (Cc (Ca (Kc Zj rfl) (Qd (Vi isAgg25 rfl hF.F 0 rfl rfl) (Ca (Qe underlying25 rfl) ?_))))
 refine Xr (v := fun b => .map (some b)) hF (F4 underlying81 rfl) ?_
 clear hF; rintro b2 w hb2 hF -
 refine Ca (C1) (Ea (Ia (Ka (Ca (Kc Zj rfl) (Qd (Vi isAgg25 rfl hF.F 1 rfl rfl) (Ca (Qe underlying25 rfl) (Ca (Hb rfl) (Ea (Va ?_)))))))))
 refine Uc (fun μ σ w => ∃ (j : Nat), ∃ (l : MapL), μ = ks.length - j ∧ (j ≤ ks.length) ∧ (l.map (·.1) = ks.take j) ∧ (MapRep S w0 xs l) ∧ AllEq σ [(1, .pointer (some ⟨b1, 0, none⟩)), (3, .map (some b2)), (11, .slice A ks.length c), (12, .int .i64 ((ks.length : Nat))), (13, .int .i64 ((j : Int)))] ∧ FR w0 [] [(b2, Sh (l)), (b1, .cells #[.int .i64 k, .string (bs t), .slice A ks.length c, .slice B xs.length e] 27)] w) _ ⟨0, [], rfl, (Nat.zero_le _), Ga, (MapRep.nil _ _ _), Jr, hF⟩ ?_
 clear hF; rintro μ σ w ⟨j, l, rfl, hj, hl, hr, hs, hF⟩
 refine Cg.slots hs ?_
 clear hs; intro σ
 have hll := LI hj hl
 refine Ka (Ca (Nk rfl rfl) (Ea (Ia ?_)))
 refine Pc rfl rfl (fun hc0 => ?_) (fun hc0 => ?_)
 refine Wa (Ha (Ia (Va (Ka (Ca (Hb rfl) ?_)))))
 obtain ⟨ad0, hA0, hk0, hx0⟩ := hK.str_elem (i := j) by_Om
 refine Ja (v := .pointer (some (ad0.add (j * 1)))) (Oa (i := (j : Int)) Lw rfl hA0 rfl by_Om by_Om) (Ja (v := .string (bs (ks[j]))) (Cb isAgg9 rfl (hF.cell0 hk0)) (Ca (Gc rfl) (Ca (Qj rfl) (Ea (Da (Ca (Z0) (Ca (Lf rfl) (Ca (Kc Ce rfl) (Qd (Vi isAgg22 rfl hF.F 1 rfl rfl) (Ca (Hb rfl) ?_))))))))))
 obtain ⟨ad1, cs1, hA1, hl1, hk1, hx1⟩ := hX.tree_elem (i := j) by_Om
 have ho1 := hx1.one_
 refine Ja (v := .pointer (some (ad1.add (j * 4)))) (Oa (i := (j : Int)) Hi rfl hA1 rfl by_Om by_Om) (Ja (v := .agg (List.toArray cs1)) (Sb (l := cs1) isAgg27 sizeOf27 rfl hl1 (hF.cells0 hk1)) ?_)
 refine Xw 0 (v := .agg (List.toArray cs1)) hF underlying81 underlying9 rfl rfl rfl rfl (ZB by_Om hl hn) ?_
 clear hF; rintro w hF -
 replace hF : FR w0 [] [(b2, Sh (l ++ [(ks[j], .agg (List.toArray cs1))])), (b1, .cells #[.int .i64 k, .string (bs t), .slice A ks.length c, .slice B xs.length e] 27)] w := hF
 refine Ya (Mb (Ha (Da (Ca (Jn rfl rfl) (Ca (Hb rfl) (Ya ?_))))))
 refine Ic ⟨_, ?_, j + 1, l ++ [(ks[j], .agg (List.toArray cs1))], rfl, by_Om, (WE by_Om hl), (hr.snoc by_Om (by simpa only [hll] using hx1)), Jr, hF⟩
 omega
 refine Nc (Lc rfl ?_)
 refine Ha (Ka (Ca (Z0) (Ca (C1) (Ea ?_))))
 refine Xd (v := .map (some b2)) rfl rfl ?_
 refine ⟨b2, l, rfl, by have := hF.ge (i := 0) rfl; exact this, hF.heap (i := 0) rfl, ?_, ?_, hF.same⟩
 rw [hl]; exact List.take_of_length_le by_Om
 intro i hi; obtain ⟨cs, h1, h2, h3⟩ := hr i hi; exact ⟨cs, h1, h2, hF.rep h3⟩
end Go.Scarf
namespace Go.Scarf
open Go.RowKit Go.Proofs Go.Proofs.Tryz
def Me : List Str → List Tree → Str → Option Tree
  | k :: ks, x :: xs, key => if k = key then some x else Me ks xs key
  | _, _, _ => none
def S6 (q : Tree → Tree → Bool) (ks : List Str) (xs : List Tree) (ks' : List Str) (ys : List Tree) : Bool :=
  (ks.zip xs).all fun p => match Me ks' ys p.1 with | some y => q p.2 y | none => false
theorem MapRep.tail {S : Nat → Prop} {w : World} {x : Tree} {xs : List Tree} {p : Str × Value} {l : MapL} (h : MapRep S w (x :: xs) (p :: l)) : MapRep S w xs l := by
  intro i hi
  obtain ⟨cs, h1, h2, h3⟩ := h (i + 1) (by simpa using hi)
  exact ⟨cs, by simpa using h1, by simpa using h2, by simpa using h3⟩
theorem Ss {S : Nat → Prop} {w : World} (key : Str) : ∀ {ks : List Str} {xs : List Tree} {l : MapL}, l.map (·.1) = ks → MapRep S w xs l →
    (Ah l key = none ∧ Me ks xs key = none) ∨ ∃ (cs : List Value) (y : Tree), Ah l key = some (.agg cs.toArray) ∧ Me ks xs key = some y ∧ y ∈ xs ∧ Rep S w (Sc y) cs
  | ks, xs, [], hk, _ => by
    left
    simp only [List.map_nil] at hk
    subst hk
    exact ⟨rfl, by cases xs <;> rfl⟩
  | ks, [], p :: l, hk, hm => by
    obtain ⟨cs, h1, h2, h3⟩ := hm 0 Ga
    simp at h2
  | ks, x :: xs, p :: l, hk, hm => by
    rw [List.map_cons] at hk
    subst hk
    by_cases h : p.1 = key
    · right
      obtain ⟨cs, h1, h2, h3⟩ := hm 0 Ga
      refine ⟨cs, x, ?_, by simp [Me, h], by simp, h3⟩
      simp only [List.getElem_cons_zero] at h1
      simp [Ah, h, h1]
    · have e1 : Ah (p :: l) key = Ah l key := by simp [Ah, h]
      have e2 : Me (p.1 :: l.map (·.1)) (x :: xs) key = Me (l.map (·.1)) xs key := by simp [Me, h]
      rw [e1, e2]
      rcases Ss key rfl hm.tail with h | ⟨cs, y, h1, h2, h3, h4⟩
      · exact .inl h
      · exact .inr ⟨cs, y, h1, h2, by simp [h3], h4⟩
def BothC (w0 : World) (g : Nat) (xs ys : List Tree) (q : Tree → Tree → Bool) : Prop := ∀ x, x ∈ xs → ∀ y, y ∈ ys → ∀ S S' w cs ct, Same [] w0 w → Rep S w (Sc x) cs → Rep S' w (Sc y) ct → Calls prog g #[.agg cs.toArray, .agg ct.toArray] w (Rd fun v w' => v = .bool (q x y) ∧ Same [] w w')
theorem BothC.ext {w0 w : World} {g : Nat} {xs ys : List Tree} {q : Tree → Tree → Bool} (h : BothC w0 g xs ys q) (hs : Same [] w0 w) : BothC w g xs ys q := fun x hx y hy S S' w' cs ct hw => h x hx y hy S S' w' cs ct (hs.trans hw)
def DU (q : Tree → Tree → Bool) (ks : List Str) (xs : List Tree) (ks' : List Str) (ys : List Tree) (i : Nat) : Prop := ∀ (h : i < ks.length) (h2 : i < xs.length), ∃ y, Me ks' ys ks[i] = some y ∧ q xs[i] y = true
theorem GF {q : Tree → Tree → Bool} {ks ks' : List Str} {xs ys : List Tree} (h : ∀ i, i < ks.length → DU q ks xs ks' ys i) : S6 q ks xs ks' ys = true := by
  unfold S6
  rw [List.all_eq_true]
  intro p hp
  obtain ⟨i, hi, rfl⟩ := List.getElem_of_mem hp
  rw [List.length_zip] at hi
  obtain ⟨y, h1, h2⟩ := h i by_Om by_Om by_Om
  rw [List.getElem_zip]
  simp only [h1, h2]
theorem Yz {q : Tree → Tree → Bool} {ks ks' : List Str} {xs ys : List Tree} {i : Nat} (h : i < ks.length) (h2 : i < xs.length) (hn : ∀ y, Me ks' ys ks[i] = some y → q xs[i] y = false) : S6 q ks xs ks' ys = false := by
  unfold S6
  rw [Bool.eq_false_iff]
  intro ha
  have := List.all_eq_true.1 ha ((ks.zip xs)[i]'(by rw [List.length_zip]; omega)) (List.getElem_mem _)
  rw [List.getElem_zip] at this
  simp only at this
  cases hl : Me ks' ys ks[i] with
  | none => rw [hl] at this; cases this
  | some y => rw [hl] at this; simp only at this; rw [hn y hl] at this; cases this
theorem T8 (q : Tree → Tree → Bool) (ks ks' : List Str) (xs ys : List Tree) (m1 m2 : Nat) (l1 l2 : MapL) (S S' : Nat → Prop) (w0 : World) (h1 : w0.heap[m1]? = some (Sh l1)) (h2 : w0.heap[m2]? = some (Sh l2)) (hk1 : l1.map (·.1) = ks) (hk2 : l2.map (·.1) = ks') (hm1 : MapRep S w0 xs l1) (hm2 : MapRep S' w0 ys l2) (hq : BothC w0 34 xs ys q) : Calls prog 52 #[.map (some m1), .map (some m2), .func (.func 34) #[] #[]] w0 (Rd fun v w' => v = .bool (decide (ks.length = ks'.length) && S6 q ks xs ks' ys) ∧ Same [] w0 w') := by
 have e1 : l1.length = ks.length := by rw [← hk1, List.length_map]
 have e2 : l2.length = ks'.length := by rw [← hk2, List.length_map]
 refine Ma func52 rfl ntmps52 Jb (Yi _ _ _) ?_
 have hF := FR.start w0 []
 refine Ka (Ca (Ec rfl) (Ea (Ia (Ka (Ca (Z0) (Ja (v := .int .i64 (((l1).length : Nat))) (W3 underlying81 rfl (hF.heap0 h1)) (Ca (Z0) (Ja (v := .int .i64 (((l2).length : Nat))) (W3 underlying81 rfl (hF.heap0 h2)) (Ca (Ux rfl rfl) (Ya ?_))))))))))
 refine Ha ?_
 refine Pc rfl rfl (fun hc0 => ?_) (fun hc0 => ?_)
 refine Ka (Ca (Ec rfl) (Ea ?_))
 refine Xd (v := .bool false) rfl rfl ?_
 exact ⟨congrArg Value.bool (by rw [decide_eq_false by_Om]; rfl), hF.same⟩
 refine Wa (Ha (Ia (Ka (Ca (Z0) ?_))))
 refine Xr (v := fun b => .pointer (some ⟨b, 0, none⟩)) (o := .mapIter (some m1) (l1).length #[] (l1).length) hF (VL underlying81 rfl (hF.heap0 h1)) ?_
 clear hF; rintro b1 w hb1 hF -
 refine Ea (Va ?_)
 refine Uc (fun μ σ w => ∃ (seen : Array Nat), μ = L0 l1.length seen ∧ (∀ i, i < l1.length → seen.contains i = true → DU q ks xs ks' ys i) ∧ AllEq σ [(1, .map (some m2)), (2, .func (.func 34) #[] #[]), (17, .pointer (some ⟨b1, 0, none⟩))] ∧ FR w0 [] [(b1, .mapIter (some m1) (l1).length (seen) (l1).length)] w) _ ⟨#[], rfl, (fun i _ h => by simp at h), WL, hF⟩ ?_
 clear hF; rintro μ σ w ⟨seen, rfl, hs_, hs, hF⟩
 refine Cg.slots hs ?_
 clear hs; intro σ
 refine Ka ?_
 refine OM 0 (b := m1) (l := l1) (seen := seen) hF rfl rfl (hF.heap0 h1) (fun hall => ?_) (fun j w hj hn hF2 hE _ => ?_)
 refine Ca (Ar rfl rfl) (Ea (Ia (Bg rfl ?_)))
 refine Nc (Lc rfl ?_)
 refine Ha (Ka (Ca (Ec rfl) (Ea ?_)))
 refine Xd (v := .bool true) rfl rfl ?_
 exact ⟨congrArg Value.bool (by rw [decide_eq_true by_Om, GF (fun i hi => hs_ i by_Om (hall i by_Om))]; rfl), hF.same⟩
 clear hF
 have hF : FR w0 [] [(b1, .mapIter (some m1) (l1).length ((seen).push j) (l1).length)] w := hF2
 clear hE hF2
 refine Ca (Ar rfl rfl) (Ea (Ia (Ae rfl (Wa (Ha (Va (Ka ?_)))))))
 obtain ⟨cx, hcx, hx2, hrx⟩ := hm1 j hj
 have hox := hrx.one_
 have hlx : cx.length = 4 := hrx.length.trans (Tc _)
 have hkj : (l1)[j].1 = ks[j]'(by rw [← hk1, List.length_map]; exact hj) := by have := List.getElem_map (·.1) (l := l1) (i := j) (h := by rw [List.length_map]; exact hj); simp only [hk1] at this; exact this.symm
 refine Ja (v := .tuple #[.string (bs ((l1)[j].1)), .agg (List.toArray cx)]) (OH rfl hj (hF.heap (i := 0) rfl) (hF.heap0 h1) (hcx)) (Ca (TC rfl rfl) (Ca (XA rfl rfl) ?_))
 refine Ig (cs := #[.int .i64 0, .string (bs []), .slice none 0 0, .slice none 0 0]) hF zeroValue27 rfl ?_
 clear hF; rintro b2 w hb2 hF -
 refine Ca (Qj rfl) ?_
 refine Bf 0 (l := cx) (cs' := (List.toArray cx)) hF (by rw [hlx]; exact sizeOf27) rfl (v := .agg (List.toArray cx)) rfl rfl (hox) rfl (by rw [hlx]; exact Nat.le_of_ble_eq_true rfl) (Rl (by rw [hlx]; rfl)) ?_
 clear hF; rintro w hF -
 replace hF : FR w0 [] [(b2, .cells (List.toArray cx) 27), _] w := hF
 refine Cc (Ca (Z0) (Ca (Lf rfl) ?_))
 rcases Ss (l1)[j].1 hk2 hm2 with ⟨hlk, hlt⟩ | ⟨cy, y, hlk, hlt, hym, hry⟩
 refine Ja (v := .tuple #[.agg #[.int .i64 0, .string (bs []), .slice none 0 0, .slice none 0 0], .bool false]) (Xx underlying81 underlying9 zeroValue27 rfl rfl (hF.heap0 h2) (by rw [hlk]; rfl) (by rw [hlk]; rfl)) ?_
 refine Ca (Xm rfl) (Ca (XA rfl rfl) (Ca (Ar rfl rfl) ?_))
 refine Bj hF zeroValue27 sizeOf27 rfl ?_
 clear hF; rintro b3 w hb3 hF -
 refine Ca (Ec rfl) (Cc (Ca (Fd rfl) (Ca (Oo (b := false) rfl) (Ca (Fd rfl) (Sa (Sa (Sa (Sa (Sa (Ca (Oc rfl rfl) ?_))))))))))
 refine Ea (Ae rfl (Ka (Ca (Ec rfl) (Ea ?_))))
 refine Xd (v := .bool false) rfl rfl ?_
 exact ⟨congrArg Value.bool (by rw [Yz (i := j) by_Om hx2 (fun y hy => by rw [← hkj, hlt] at hy; cases hy), Bool.and_false]), hF.same⟩
 have hoy := hry.one_
 have hly : cy.length = 4 := hry.length.trans (Tc _)
 refine Ja (v := .tuple #[.agg (List.toArray cy), .bool true]) (Xx underlying81 underlying9 zeroValue27 rfl rfl (hF.heap0 h2) (by rw [hlk]; rfl) (by rw [hlk]; rfl)) ?_
 refine Ca (Xm rfl) (Ca (XA rfl rfl) (Ca (Ar rfl rfl) ?_))
 refine Tr (l := cy) hF zeroValue27 (by rw [hly]; exact sizeOf27) (by rw [hly]; rfl) (v := .agg (List.toArray cy)) rfl rfl (hoy) rfl ?_
 clear hF; rintro b4 w hb4 hF -
 refine Ca (Ec rfl) (Cc (Ca (Fd rfl) (Ca (Oo (b := true) rfl) (Ca (Fd rfl) (Ca (Z0) (Ja (v := .agg (List.toArray cx)) (Sb (l := cx) isAgg27 sizeOf27 rfl hlx (hF.cellsAll 1 rfl)) (Ja (v := .agg (List.toArray cy)) (Sb (l := cy) isAgg27 sizeOf27 rfl hly (hF.cellsAll 0 rfl)) ?_)))))))
 refine Pb hF (hq _ (List.getElem_mem hx2) y hym S S' _ cx cy hF.same (hF.rep hrx) (hF.rep hry)) (Ut rfl KJ rfl rfl rfl) ?_
 clear hF; intro w hF
 refine Ca (Oo rfl) (Ca (Jd rfl rfl) (Ea ?_))
 refine Pj rfl rfl (fun hc2 => ?_) (fun hc2 => ?_)
 refine Ka (Ca (Ec rfl) (Ea ?_))
 refine Xd (v := .bool false) rfl rfl ?_
 exact ⟨congrArg Value.bool (by rw [Yz (i := j) by_Om hx2 (fun y1 hy => by rw [← hkj, hlt] at hy; injection hy with hy; subst hy; simpa using hc2), Bool.and_false]), hF.same⟩
 refine Wa (Mb ?_)
 refine Ic ⟨_, ?_, seen.push j, rfl, (fun i hi hc => by rw [contains_push] at hc; rcases Bool.or_eq_true_iff.1 hc with hc | hc; exact hs_ i hi hc; obtain rfl := beq_iff_eq.1 hc; exact fun h _ => ⟨y, by rw [← hkj]; exact hlt, by simpa using hc2⟩), WL, hF.drop 2⟩
 exact Bx hj hn
end Go.Scarf
namespace Go.Scarf
open Go.RowKit Go.Proofs Go.Proofs.Tryz
mutual
def Wj : Tree → Tree → Bool
  | .node k t ks xs, .node k' t' ks' ys => decide (k = k') && decide (t = t') && decide (xs.length = ys.length) && (if k ≠ 6 then Lt xs ys else decide (ks.length = ks'.length) && Gu xs ks ks' ys)
def Lt : List Tree → List Tree → Bool
  | x :: xs, y :: ys => Wj x y && Lt xs ys
  | _, _ => true
def Gu : List Tree → List Str → List Str → List Tree → Bool
  | x :: xs, k :: ks, ks', ys => (match Me ks' ys k with | some y => Wj x y | none => false) && Gu xs ks ks' ys
  | _, _, _, _ => true
end
def Ln (q : Tree → Tree → Bool) (xs ys : List Tree) : Bool := decide (xs.length = ys.length) && (xs.zip ys).all fun p => q p.1 p.2
theorem Mi : ∀ xs ys : List Tree, ((xs.zip ys).all fun p => Wj p.1 p.2) = Lt xs ys
  | [], ys => by cases ys <;> simp [Lt]
  | x :: xs, [] => by simp [Lt]
  | x :: xs, y :: ys => by rw [List.zip_cons_cons, List.all_cons, Mi xs ys, Lt]
theorem Ii : ∀ (xs : List Tree) (ks ks' : List Str) (ys : List Tree), S6 Wj ks xs ks' ys = Gu xs ks ks' ys
  | [], ks, ks', ys => by cases ks <;> simp [S6, Gu]
  | x :: xs, [], ks', ys => by simp [S6, Gu]
  | x :: xs, k :: ks, ks', ys => by
    have := Ii xs ks ks' ys
    unfold S6 at this ⊢
    rw [List.zip_cons_cons, List.all_cons, this, Gu]
    try rfl
theorem J1 {q : Tree → Tree → Bool} {xs ys : List Tree} {j : Nat} (h : j < xs.length) (h2 : j < ys.length) (ha : ((xs.take j).zip (ys.take j)).all (fun p => q p.1 p.2) = true) (hq : q xs[j] ys[j] = true) : ((xs.take (j + 1)).zip (ys.take (j + 1))).all (fun p => q p.1 p.2) = true := by
  rw [List.take_succ_eq_append_getElem h, List.take_succ_eq_append_getElem h2, List.zip_append (by rw [List.length_take, List.length_take]; omega), List.all_append, ha]
  simp [hq]
theorem LB {q : Tree → Tree → Bool} {xs ys : List Tree} {j : Nat} (h : j < xs.length) (h2 : j < ys.length) (hq : q xs[j] ys[j] = false) : ((xs.zip ys).all fun p => q p.1 p.2) = false := by
  rw [Bool.eq_false_iff]; intro ha
  have := List.all_eq_true.1 ha ((xs.zip ys)[j]'(by rw [List.length_zip]; omega)) (List.getElem_mem _)
  rw [List.getElem_zip] at this
  simp only [hq] at this; cases this
theorem MapRep.ext {S : Nat → Prop} {w w' : World} {xs : List Tree} {l : MapL} (h : MapRep S w xs l) (hs : Same [] w w') : MapRep S w' xs l := fun i hi => by
  obtain ⟨cs, h1, h2, h3⟩ := h i hi
  exact ⟨cs, h1, h2, h3.ext hs⟩
theorem Same.heap {w w' : World} {b : Nat} {o : Obj} (hs : Same [] w w') (h : w.heap[b]? = some o) : w'.heap[b]? = some o := (hs.block b (Fa h) Ga).trans h
theorem V3 {q : Tree → Bool} : ∀ {xs : List Tree}, Zm q xs = true → ∀ x ∈ xs, Vc q x = true
  | [], _, _, h => absurd h Ga
  | y :: ys, h, x, hx => by
    rw [Zm, Bool.and_eq_true] at h
    rcases List.mem_cons.1 hx with rfl | hx
    · exact h.1
    · exact V3 h.2 x hx
theorem Td {q : Tree → Bool} {k : Int} {t : Str} {ks : List Str} {xs : List Tree} (h : Vc q (.node k t ks xs) = true) : q (.node k t ks xs) = true ∧ ∀ x ∈ xs, Vc q x = true := by
  rw [Vc, Bool.and_eq_true] at h
  exact ⟨h.1, V3 h.2⟩
theorem Tl {t : Str} {ks : List Str} {xs : List Tree} (h : nodeB (.node 6 t ks xs) = true) : ks.Nodup ∧ ks.length = xs.length := by
  simp only [nodeB, Eo] at h
  simp at h
  exact ⟨h.1.1.1, by omega⟩
def KI (x : Tree) : Prop := ∀ y S S' w0 cs ct, Rep S w0 (Sc x) cs → Rep S' w0 (Sc y) ct → Vc nodeB x = true → Vc nodeB y = true → Calls prog 34 #[.agg cs.toArray, .agg ct.toArray] w0 (Rd fun v w' => v = .bool (Wj x y) ∧ Same [] w0 w')
theorem Q9 (q : Tree → Tree → Bool) (xs ys : List Tree) (B B' : Option Addr) (e e' : Nat) (S S' : Nat → Prop) (w0 : World) (hX : Rep S w0 (.slice (Dd xs)) [.slice B xs.length e]) (hY : Rep S' w0 (.slice (Dd ys)) [.slice B' ys.length e']) (hq : BothC w0 34 xs ys q) : Calls prog 51 #[.slice B xs.length e, .slice B' ys.length e', .func (.func 34) #[] #[]] w0 (Rd fun v w' => v = .bool (Ln q xs ys) ∧ Same [] w0 w') := by
 have hXl := hX.slice_len
 have hYl := hY.slice_len
 refine Ma func51 rfl ntmps51 Jb (Yi _ _ _) ?_
 have hF := FR.start w0 []
 refine Ka (Ca (Ec rfl) (Ea (Ia (Ka (Ca (Md rfl) (Ca (Qe underlying22 rfl) (Ca (Md rfl) (Ca (Qe underlying22 rfl) (Ca (Ux rfl rfl) (Ya ?_))))))))))
 refine Ha ?_
 refine Pc rfl rfl (fun hc0 => ?_) (fun hc0 => ?_)
 refine Ka (Ca (Ec rfl) (Ea ?_))
 refine Xd (v := .bool false) rfl rfl ?_
 exact ⟨congrArg Value.bool (by unfold Ln; rw [decide_eq_false by_Om]; rfl), hF.same⟩
 refine Wa (Ha (Ia (Ka (Ca (Md rfl) (Ca (Qe underlying22 rfl) (Ca (Hb rfl) (Ea (Va ?_))))))))
 refine Uc (fun μ σ w => ∃ (j : Nat), μ = xs.length - j ∧ (j ≤ xs.length) ∧ (((xs.take j).zip (ys.take j)).all (fun p => q p.1 p.2) = true) ∧ AllEq σ [(1, .slice B' ys.length e'), (2, .func (.func 34) #[] #[]), (15, .slice B xs.length e), (16, .int .i64 ((xs.length : Nat))), (17, .int .i64 ((j : Int)))] ∧ FR w0 [] [] w) _ ⟨0, rfl, (Nat.zero_le _), Ga, Jr, hF⟩ ?_
 clear hF; rintro μ σ w ⟨j, rfl, hj, ha, hs, hF⟩
 refine Cg.slots hs ?_
 clear hs; intro σ
 refine Ka (Ca (Nk rfl rfl) (Ea (Ia ?_)))
 refine Pc rfl rfl (fun hc1 => ?_) (fun hc1 => ?_)
 refine Wa (Ha (Ia (Va (Ka (Ca (Hb rfl) ?_)))))
 obtain ⟨ad0, cs0, hA0, hl0, hk0, hx0⟩ := hX.tree_elem (i := j) by_Om
 have ho0 := hx0.one_
 refine Ja (v := .pointer (some (ad0.add (j * 4)))) (Oa (i := (j : Int)) Hi rfl hA0 rfl by_Om by_Om) (Ja (v := .agg (List.toArray cs0)) (Sb (l := cs0) isAgg27 sizeOf27 rfl hl0 (hF.cells0 hk0)) ?_)
 refine Ig (cs := #[.int .i64 0, .string (bs []), .slice none 0 0, .slice none 0 0]) hF zeroValue27 rfl ?_
 clear hF; rintro b1 w hb1 hF -
 refine Ca (Gc rfl) ?_
 refine Bf 0 (l := cs0) (cs' := (List.toArray cs0)) hF (by rw [hl0]; exact sizeOf27) rfl (v := .agg (List.toArray cs0)) rfl rfl (ho0) rfl (by rw [hl0]; exact Nat.le_of_ble_eq_true rfl) (Rl (by rw [hl0]; rfl)) ?_
 clear hF; rintro w hF -
 replace hF : FR w0 [] [(b1, .cells (List.toArray cs0) 27)] w := hF
 refine Cc (Ca (Md rfl) (Ca (Hb rfl) ?_))
 obtain ⟨ad1, cs1, hA1, hl1, hk1, hx1⟩ := hY.tree_elem (i := j) by_Om
 have ho1 := hx1.one_
 refine Ja (v := .pointer (some (ad1.add (j * 4)))) (Oa (i := (j : Int)) Hi rfl hA1 rfl by_Om by_Om) (Ja (v := .agg (List.toArray cs1)) (Sb (l := cs1) isAgg27 sizeOf27 rfl hl1 (hF.cells0 hk1)) ?_)
 refine Tr (l := cs1) hF zeroValue27 (by rw [hl1]; exact sizeOf27) (by rw [hl1]; rfl) (v := .agg (List.toArray cs1)) rfl rfl (ho1) rfl ?_
 clear hF; rintro b2 w hb2 hF -
 refine Cc (Ca (Z0) (Ja (v := .agg (List.toArray cs0)) (Sb (l := cs0) isAgg27 sizeOf27 rfl hl0 (hF.cellsAll 1 rfl)) (Ja (v := .agg (List.toArray cs1)) (Sb (l := cs1) isAgg27 sizeOf27 rfl hl1 (hF.cellsAll 0 rfl)) ?_)))
 refine Pb hF (hq _ (List.getElem_mem (l := xs) (n := j) by_Om) _ (List.getElem_mem (l := ys) (n := j) by_Om) _ _ _ _ _ hF.same (hF.rep hx0) (hF.rep hx1)) (Ut rfl KJ rfl rfl rfl) ?_
 clear hF; intro w hF
 refine Ca (Oo rfl) (Ea ?_)
 refine Pj rfl rfl (fun hc2 => ?_) (fun hc2 => ?_)
 refine Ka (Ca (Ec rfl) (Ea ?_))
 refine Xd (v := .bool false) rfl rfl ?_
 exact ⟨congrArg Value.bool (by unfold Ln; rw [LB (j := j) by_Om by_Om (by simpa using hc2), Bool.and_false]), hF.same⟩
 refine Wa (Mb (Ha (Da (Ca (Jn rfl rfl) (Ca (Hb rfl) (Ya ?_))))))
 refine Ic ⟨_, ?_, j + 1, rfl, by_Om, (J1 by_Om by_Om ha (by simpa using hc2)), Jr, hF.drop 2⟩
 omega
 refine Nc (Lc rfl ?_)
 refine Ha (Ka (Ca (Ec rfl) (Ea ?_)))
 refine Xd (v := .bool true) rfl rfl ?_
 have eX : xs.take j = xs := List.take_of_length_le by_Om
 have eY : ys.take j = ys := List.take_of_length_le by_Om
 rw [eX, eY] at ha
 exact ⟨congrArg Value.bool (by unfold Ln; rw [ha, decide_eq_true by_Om]; rfl), hF.same⟩
theorem LG (k : Int) (t : Str) (ks : List Str) (xs : List Tree) (ih : ∀ x, x ∈ xs → KI x) : KI (.node k t ks xs) := by
 rintro ⟨k', t', ks', ys⟩ S S' w0 cs ct hR hR' hnx hny
 replace hnx := Td hnx
 replace hny := Td hny
 obtain ⟨A, c, B, e, rfl, -, -, hK, hX⟩ := hR.tree_inv
 obtain ⟨A', c', B', e', rfl, -, -, hK', hY⟩ := hR'.tree_inv
 have hXl := hX.slice_len
 have hYl := hY.slice_len
 refine Ma func34 rfl ntmps34 Jb (Vd _ _) ?_
 have hF := FR.start w0 []
 refine Ka ?_
 refine Sj hF rfl ?_
 clear hF; rintro b1 w hb1 hF -
 refine Sj hF rfl ?_
 clear hF; rintro b2 w hb2 hF -
 refine Ca (Ec rfl) (Ea (Ia (Va (Ia (Ka (Ca (Kc Hl rfl) (Qd (Zr isAgg3 rfl hF.F 1 rfl rfl) (Ca (Kc Hl rfl) (Qd (Zr isAgg3 rfl hF.F 0 rfl rfl) (Ca (Ux rfl rfl) (Ca (Ec rfl) ?_)))))))))))
 refine Ea ?_
 refine Pc rfl rfl (fun hc0 => ?_) (fun hc0 => ?_)
 refine Wa (Ha (Ae rfl (Ka (Ca (Ec rfl) (Ea ?_)))))
 refine Xd (v := .bool false) rfl rfl ?_
 refine ⟨congrArg Value.bool ?_, hF.same⟩
 rw [Wj]
 clear hF hXl hYl hR hR' hX hY hK hK' ih hnx hny
 · first | (simp_all [Ln, Mi, Ii]; done) | (simp_all [Ln, Mi, Ii]; omega)
 refine Ka (Ca (Kc Yh rfl) (Qd (Jx isAgg9 rfl hF.F 1 rfl rfl) (Ca (Kc Yh rfl) (Qd (Jx isAgg9 rfl hF.F 0 rfl rfl) (Ca (TU rfl rfl) (Ca (Ec rfl) (Ea ?_)))))))
 refine Pc rfl rfl (fun hc1 => ?_) (fun hc1 => ?_)
 refine Wa (Ha (Ae rfl (Ka (Ca (Ec rfl) (Ea ?_)))))
 refine Xd (v := .bool false) rfl rfl ?_
 refine ⟨congrArg Value.bool ?_, hF.same⟩
 rw [Wj]
 clear hF hXl hYl hR hR' hX hY hK hK' ih hnx hny
 · first | (simp_all [Ln, Mi, Ii]; done) | (simp_all [Ln, Mi, Ii]; omega)
 refine Da (Ca (Kc Ce rfl) (Qd (Vi isAgg22 rfl hF.F 1 rfl rfl) (Ca (Qe underlying22 rfl) (Ca (Kc Ce rfl) (Qd (Vi isAgg22 rfl hF.F 0 rfl rfl) (Ca (Qe underlying22 rfl) (Ca (Ux rfl rfl) (Ca (Ec rfl) (Ea ?_)))))))))
 refine Pc rfl rfl (fun hc2 => ?_) (fun hc2 => ?_)
 refine Ka (Ca (Ec rfl) (Ea ?_))
 refine Xd (v := .bool false) rfl rfl ?_
 refine ⟨congrArg Value.bool ?_, hF.same⟩
 rw [Wj]
 clear hF hXl hYl hR hR' hX hY hK hK' ih hnx hny
 · first | (simp_all [Ln, Mi, Ii]; done) | (simp_all [Ln, Mi, Ii]; omega)
 refine Ka (Ca (Kc Hl rfl) (Qd (Zr isAgg3 rfl hF.F 1 rfl rfl) (Ca (Ux rfl rfl) (Ca (Ec rfl) (Ea ?_)))))
 refine Pc rfl rfl (fun hc3 => ?_) (fun hc3 => ?_)
 refine Ka (Ca (Kc Ce rfl) (Qd (Vi isAgg22 rfl hF.F 1 rfl rfl) (Ca (Kc Ce rfl) (Qd (Vi isAgg22 rfl hF.F 0 rfl rfl) ?_))))
 refine Pb hF (Q9 Wj xs ys B B' e e' S S' _ (hF.rep hX) (hF.rep hY) (fun x hx y hy S1 S2 w1 cs1 ct1 _ h1 h2 => ih x hx y S1 S2 w1 cs1 ct1 h1 h2 (hnx.2 x hx) (hny.2 y hy))) (Dc QS rfl rfl rfl rfl) ?_
 clear hF; intro w hF
 refine Ca (Ec rfl) (Ea ?_)
 refine Xd (v := .bool _) rfl rfl ?_
 refine ⟨congrArg Value.bool ?_, hF.same⟩
 rw [Wj]
 clear hF hXl hYl hR hR' hX hY hK hK' ih hnx hny
 · first | (simp_all [Ln, Mi, Ii]; done) | (simp_all [Ln, Mi, Ii]; omega)
 refine Wa (Mb (Ha (Ia ?_)))
 refine Uf (zs := []) (.free 0 (.free 2 (.act 1 (.act 3 (.act 4 (.free 5 .nil)))))) hF ?_
 clear hF; intro w hF
 refine Zo rfl (Bm isAgg27 sizeOf27 rfl C0 1 rfl rfl) (Zo rfl (Bm isAgg27 sizeOf27 rfl C0 0 rfl rfl) ?_)
 have k6 : k = 6 := by simpa using hc3
 refine Ke rfl (Vv k t ks xs (Tl (k6 ▸ hnx.1)).1 (Tl (k6 ▸ hnx.1)).2 S _ _ (hF.rep hR)) (Eb TL rfl rfl) ?_
 rintro _ w ⟨m1, l1, rfl, -, hm1, hk1, hr1, hE⟩
 replace hF := hF.ext hE
 clear hE
 refine ⟨hF, ?_⟩
 have k6' : k' = 6 := by omega
 refine Ke rfl (Vv k' t' ks' ys (Tl (k6' ▸ hny.1)).1 (Tl (k6' ▸ hny.1)).2 S' _ _ (hF.rep hR')) (Eb TL rfl rfl) ?_
 rintro _ w ⟨m2, l2, rfl, -, hm2, hk2, hr2, hE⟩
 replace hF := hF.ext hE
 replace hm1 := hE.heap hm1
 replace hr1 := hr1.ext hE
 clear hE
 refine ⟨hF, ?_⟩
 refine Qn hF (T8 Wj ks ks' xs ys m1 m2 l1 l2 S S' _ hm1 hm2 hk1 hk2 hr1 hr2 (fun x hx y hy S1 S2 w1 cs1 ct1 _ h1 h2 => ih x hx y S1 S2 w1 cs1 ct1 h1 h2 (hnx.2 x hx) (hny.2 y hy))) rfl (Dc HS rfl rfl rfl rfl) ?_
 clear hF; intro w hF
 refine ⟨hF, ?_⟩
 refine Xa rfl (Ec rfl) (Jc (Ha ?_))
 refine Xd (v := .bool _) rfl rfl ?_
 refine ⟨congrArg Value.bool ?_, hF.same⟩
 rw [Wj]
 clear hF hXl hYl hR hR' hX hY hK hK' ih hnx hny
 · first | (simp_all [Ln, Mi, Ii]; done) | (simp_all [Ln, Mi, Ii]; omega)
theorem PR (x : Tree) : KI x := Tree.ind LG x
end Go.Scarf
namespace Go.Scarf
open Go.RowKit Go.Proofs Go.Proofs.Tryz
def BothI (w0 : World) (g : Nat) (xs ys : List Tree) (q : Tree → Tree → Int) : Prop := ∀ x, x ∈ xs → ∀ y, y ∈ ys → ∀ S S' w cs ct, Same [] w0 w → Rep S w (Sc x) cs → Rep S' w (Sc y) ct → Calls prog g #[.agg cs.toArray, .agg ct.toArray] w (Rd fun v w' => v = .int .i64 (q x y) ∧ Same [] w w')
theorem BothI.ext {w0 w : World} {g : Nat} {xs ys : List Tree} {q : Tree → Tree → Int} (h : BothI w0 g xs ys q) (hs : Same [] w0 w) : BothI w g xs ys q := fun x hx y hy S S' w' cs ct hw => h x hx y hy S S' w' cs ct (hs.trans hw)
end Go.Scarf
namespace Go.Scarf
open Go.RowKit Go.Proofs Go.Proofs.Tryz
end Go.Scarf
namespace Go.Scarf
open Go.RowKit Go.Proofs Go.Proofs.Tryz
def Gm (x y : Tree) : Bool := Th x && Th y && Wj x y
theorem Gi {x : Tree} (h : Th x = true) : Vc nodeB x = true := by unfold Th at h; rw [Bool.and_eq_true] at h; exact h.2
theorem DM (x y : Tree) (hsx : Ac x ≤ 1000000000) (hsy : Ac y ≤ 1000000000) (S S' : Nat → Prop) (w0 : World) (cs ct : List Value) (hR : Rep S w0 (Sc x) cs) (hR' : Rep S' w0 (Sc y) ct) (hk : Ox x) (hk' : Ox y) (hG : Gl w0) : Calls prog 20 #[.agg cs.toArray, .agg ct.toArray] w0 (Rd fun v w' => v = .bool (Gm x y) ∧ Same [] w0 w') := by
 have hl : cs.length = 4 := hR.length.trans (Tc x)
 have ho := hR.one_
 have hl' : ct.length = 4 := hR'.length.trans (Tc y)
 have ho' := hR'.one_
 refine Ma func20 rfl ntmps20 Jb (Vd _ _) ?_
 have hF := FR.start w0 []
 refine Ka ?_
 refine Jj (v := .agg (List.toArray cs)) (cs := (List.toArray cs)) hF rfl rfl ?_
 clear hF; rintro b1 w hb1 hF -
 refine Jj (v := .agg (List.toArray ct)) (cs := (List.toArray ct)) hF rfl rfl ?_
 clear hF; rintro b2 w hb2 hF -
 refine Ca (Ec rfl) (Cc (Ja (v := .agg (List.toArray cs)) (Sb (l := cs) isAgg27 sizeOf27 rfl hl (hF.cellsAll 1 rfl)) ?_))
 refine Pb hF (PA x hsx S _ cs (hF.rep hR) hk (hG.ext hF.same)) (Eb OL rfl rfl) ?_
 clear hF; intro w hF
 refine Ca (Fd rfl) ?_
 refine We (d := 7) rfl (fun hg0 => ?_) (fun hg0 => ?_)
 refine Ja (v := .agg (List.toArray ct)) (Sb (l := ct) isAgg27 sizeOf27 rfl hl' (hF.cellsAll 0 rfl)) ?_
 refine Pb hF (PA y hsy S' _ ct (hF.rep hR') hk' (hG.ext hF.same)) (Eb OL rfl rfl) ?_
 clear hF; intro w hF
 refine Ca (Oc rfl rfl) (Ca (Fd rfl) ?_)
 refine We (d := 11) rfl (fun hg1 => ?_) (fun hg1 => ?_)
 refine Ja (v := .agg (List.toArray cs)) (Sb (l := cs) isAgg27 sizeOf27 rfl hl (hF.cellsAll 1 rfl)) (Ja (v := .agg (List.toArray ct)) (Sb (l := ct) isAgg27 sizeOf27 rfl hl' (hF.cellsAll 0 rfl)) ?_)
 refine Pb hF (PR x y S S' _ cs ct (hF.rep hR) (hF.rep hR') (Gi (by simp_all)) (Gi (by simp_all))) (Qb KJ rfl rfl rfl) ?_
 clear hF; intro w hF
 refine Ca (Oc rfl rfl) (Ca (Ec rfl) (Ea ?_))
 refine Xd (v := .bool _) rfl rfl ?_
 refine ⟨congrArg Value.bool ?_, hF.same⟩
 unfold Gm
 clear hF hR hR'
 simp_all
 refine Sa (Sa (Sa (Ca (Jd rfl rfl) (Ca (Ec rfl) (Ea ?_)))))
 refine Xd (v := .bool false) rfl rfl ?_
 refine ⟨congrArg Value.bool ?_, hF.same⟩
 unfold Gm
 clear hF hR hR'
 simp_all
 refine Sa (Sa (Ca (Jd rfl rfl) (Ca (Fd rfl) (Sa (Sa (Sa (Ca (Jd rfl rfl) (Ca (Ec rfl) (Ea ?_)))))))))
 refine Xd (v := .bool false) rfl rfl ?_
 refine ⟨congrArg Value.bool ?_, hF.same⟩
 unfold Gm
 clear hF hR hR'
 simp_all
theorem IU (s : Str) (w0 : World) : Calls prog 79 #[.string (bs s)] w0 (Rd fun v w' => v = .agg #[.int .i64 4, .string (bs s), .slice none 0 0, .slice none 0 0] ∧ Same [] w0 w') := by
 refine Ma func79 rfl ntmps79 Jb (Ed _) ?_
 have hF := FR.start w0 []
 refine Ka ?_
 refine Ig (cs := #[.int .i64 0, .string (bs []), .slice none 0 0, .slice none 0 0]) hF zeroValue27 rfl ?_
 clear hF; rintro b1 w hb1 hF -
 refine Cc (Ca (Lf rfl) ?_)
 refine Ja (w' := w) (v := .agg #[.int .i64 4, .string (bs s), .slice none 0 0, .slice none 0 0]) Ib ?_
 refine An hF sizeOf27 rfl rfl Gn ?_
 clear hF; rintro w hF -
 refine Ea ?_
 refine Fc (Bc (Za (J0 rfl (l := [.int .i64 4, .string (bs s), .slice none 0 0, .slice none 0 0]) rfl isAgg27 sizeOf27 rfl (hF.cellsAll 0 rfl)) ?_))
 exact ⟨rfl, hF.same⟩
theorem F9 (n : Int) (h1 : -9223372036854775808 ≤ n) (h2 : n ≤ 9223372036854775807) (w0 : World) (hG : Gl w0) : Calls prog 22 #[.int .i64 n] w0 (Rd fun v w' => v = .agg #[.int .i64 3, .string (bs (Mn (CP n))), .slice none 0 0, .slice none 0 0] ∧ Same [] w0 w') := by
 refine Ma func22 rfl ntmps22 Jb (Ed _) ?_
 have hF := FR.start w0 []
 refine Ka ?_
 refine Ig (cs := #[.int .i64 0, .string (bs []), .slice none 0 0, .slice none 0 0]) hF zeroValue27 rfl ?_
 clear hF; rintro b1 w hb1 hF -
 refine Cc (Ca (Hb rfl) ?_)
 refine Pb hF (TM n h1 h2 _ (hG.ext hF.same)) (Eb FT rfl rfl) ?_
 clear hF; intro w hF
 refine Pb hF (LL (CP n) (by have := Es (Lib.itoa n); exact Nat.le_trans this Ra) _ (hG.ext hF.same)) (Eb BP rfl rfl) ?_
 clear hF; intro w hF
 refine Ja (w' := w) (v := .agg #[.int .i64 3, .string (bs (Mn (CP n))), .slice none 0 0, .slice none 0 0]) Ib ?_
 refine An hF sizeOf27 rfl rfl Gn ?_
 clear hF; rintro w hF -
 refine Ea ?_
 refine Fc (Bc (Za (J0 rfl (l := [.int .i64 3, .string (bs (Mn (CP n))), .slice none 0 0, .slice none 0 0]) rfl isAgg27 sizeOf27 rfl (hF.cellsAll 0 rfl)) ?_))
 exact ⟨rfl, hF.same⟩
end Go.Scarf
