/- A part of the proof. -/
import Derived.Test.YtepbomjpbdbejaaGreatDoorTd1
import Derived.Test.YtepbomjpbdbejaaGreatDoorTr
import Derived.Test.YtepbomjpbdbejaaGreatDoorMore
import Derived.Test.YtepbomjpbdbejaaGreatDoorFacts
import Derived.Test.YtepbomjpbdbejaaGreatDoorRow
import Derived.Test.YtepbomjpbdbejaaGreatDoorE9
set_option linter.all false
set_option maxHeartbeats 8000000
set_option maxRecDepth 10000
namespace Go.Scarf
open Go.RowKit Go.Proofs Go.Proofs.Tryz
theorem ED {α : Type} {a b : List α} {j : Nat} (h : ∀ i (h : i < a.length) (h2 : i < b.length), i < j → a[i] = b[i]) (hl : a.length = b.length) (hj : a.length ≤ j) : a = b := List.ext_getElem hl fun i h1 h2 => h i h1 h2 by_Om
theorem L4 {α : Type} {a b : List α} {j : Nat} {h1 : j < a.length} {h2 : j < b.length} (hq : ∀ i (h : i < a.length) (h2 : i < b.length), i < j → a[i] = b[i]) (h : a[j] = b[j]) : ∀ i (h : i < a.length) (h2 : i < b.length), i < j + 1 → a[i] = b[i] := fun i h3 h4 h5 => by
  by_cases e : i = j
  · subst e; exact h
  · exact hq i h3 h4 by_Om
theorem Ep (S S' : Nat → Prop) (w0 : World) (a b : List Int) (A B : Option Addr) (c e : Nat) (hX : Rep S w0 (.slice (a.map Ze)) [.slice A a.length c]) (hY : Rep S' w0 (.slice (b.map Ze)) [.slice B b.length e]) : Calls prog 19 #[.slice A a.length c, .slice B b.length e] w0 (Rd fun v w' => v = .bool (decide (a = b)) ∧ Same [] w0 w') := by
 have hXl := hX.slice_len
 have hYl := hY.slice_len
 rw [List.length_map] at hXl hYl
 refine Ma func19 rfl ntmps19 Jb (Vd _ _) ?_
 have hF := FR.start w0 []
 refine Ka (Ca (Ec rfl) (Ea (Ia (Ka (Ca (Md rfl) (Ca (Qe underlying39 rfl) (Ca (Md rfl) (Ca (Qe underlying39 rfl) (Ca (Ux rfl rfl) (Ya ?_))))))))))
 refine Ha ?_
 refine Pc rfl rfl (fun hc0 => ?_) (fun hc0 => ?_)
 refine Ka (Ca (Ec rfl) (Ea ?_))
 refine Xd (v := .bool false) rfl rfl ?_
 exact ⟨congrArg Value.bool (decide_eq_false fun q => by subst q; omega).symm, hF.same⟩
 refine Wa (Ha (Ia (Ka (Ca (Gc rfl) (Ea (Va ?_))))))
 have hll : a.length = b.length := by omega
 refine Uc (fun μ σ w => ∃ (j : Nat), μ = a.length - j ∧ (j ≤ a.length) ∧ (∀ i (h : i < a.length) (h2 : i < b.length), i < j → a[i] = b[i]) ∧ AllEq σ [(0, .slice A a.length c), (1, .slice B b.length e), (5, .int .i64 ((j : Int)))] ∧ FR w0 [] [] w) _ ⟨0, rfl, by_Om, (fun i _ _ h => by omega), WL, hF⟩ ?_
 clear hF; rintro μ σ w ⟨j, rfl, hj, hq, hs, hF⟩
 refine Cg.slots hs ?_
 clear hs; intro σ
 refine Ia (Ka (Ca (Hb rfl) (Ca (Md rfl) (Ca (Qe underlying39 rfl) (Ca (Nk rfl rfl) (Ea ?_))))))
 refine Pc rfl rfl (fun hc1 => ?_) (fun hc1 => ?_)
 refine Wa (Ha (Ia (Va (Ia ?_))))
 refine Uf (zs := []) (.free 0 (.free 1 (.free 2 (.free 3 (.free 4 (.free 5 (.free 6 (.free 7 (.free 8 .nil))))))))) hF ?_
 clear hF; intro w hF
 refine Xa rfl (Md rfl) (Xa rfl (Hb rfl) ?_)
 obtain ⟨ad0, hA0, hk0, hx0⟩ := hX.int_elem (i := j) by_Om
 refine Qa rfl (v := .pointer (some (ad0.add (j * 1)))) (fun w hC => Oa (i := (j : Int)) Df rfl hA0 rfl by_Om by_Om) (Qa rfl (v := .int .i64 (a[j])) (fun w hC => Cb isAgg3 rfl (hC.cell0 hk0)) (Xa rfl (Md rfl) (Xa rfl (Hb rfl) ?_)))
 obtain ⟨ad1, hA1, hk1, hx1⟩ := hY.int_elem (i := j) by_Om
 refine Qa rfl (v := .pointer (some (ad1.add (j * 1)))) (fun w hC => Oa (i := (j : Int)) Df rfl hA1 rfl by_Om by_Om) (Qa rfl (v := .int .i64 (b[j])) (fun w hC => Cb isAgg3 rfl (hC.cell0 hk1)) (Xa rfl (Ux rfl rfl) (Jc (Ha ?_))))
 refine Pc rfl rfl (fun hc2 => ?_) (fun hc2 => ?_)
 refine Ka (Ca (Ec rfl) (Ea ?_))
 refine Xd (v := .bool false) rfl rfl ?_
 exact ⟨congrArg Value.bool (decide_eq_false fun q => by subst q; exact absurd rfl (by assumption)).symm, hF.same⟩
 refine Wa (Mb (Ha (Da (Ca (Hb rfl) (Ca (Qi (((j + 1 : Nat) : Int)) rfl rfl) (Ca (Gc rfl) (Ya ?_)))))))
 refine Ic ⟨_, ?_, j + 1, rfl, by_Om, (L4 hq (Classical.not_not.1 (by assumption))), WL, hF⟩
 omega
 refine Nc (Lc rfl ?_)
 refine Ha (Ka (Ca (Ec rfl) (Ea ?_)))
 refine Xd (v := .bool true) rfl rfl ?_
 exact ⟨congrArg Value.bool (decide_eq_true (ED hq hll by_Om)).symm, hF.same⟩
end Go.Scarf
namespace Go.Scarf
open Go.RowKit Go.Proofs Go.Proofs.Tryz
section
variable {P : Program} {w : World}
theorem EB {ρ : Operand → Value} {dst : Option Nat} {ty : TypeId} {pos : String} {aft : Array Edge} {g : Option (Nat × Bool)} {t e sz : Nat} {x y : Operand} {A : Option Addr} {n c : Nat} {k : IntKind} (m : Nat) (ht : Jl P t e sz) (hx : ρ x = .slice A n c) (hy : ρ y = .int k (m : Int)) (hm : m ≤ c) :
    (execOp ρ ⟨dst, .slice t x none (some y) none, ty, pos, aft, g⟩).run P w = .ok (.value (.slice A m c)) w := by
  have he := CM ht.1
  have ht' : P.underlying t = some (.slice (P.elem t)) := by rw [he]; exact ht.1
  have h := run_slice_h (P := P) w t A n c ht' k m by_Om by_Om
  have hs : (sizeOf (P.elem t)).run P w = .ok sz w := by rw [he]; exact ht.2 w
  rw [hs] at h
  have e1 : sliced A 0 (m : Int).toNat c sz = .slice A m c := by
    unfold sliced
    simp only [Int.toNat_natCast, Nat.zero_mul, Nat.sub_zero]
    split
    · rfl
    · cases A <;> simp [Qm]
  simp only [execOp, Option.map_none, Option.map_some, hx, hy, run_sliceAt_slice w t _ _ _ _ ht', Sem.run_bind, h, Result.andThen, e1]
  rfl
end
def FG (tp : List Nat) : List Value := tp.map fun i : Nat => Value.int .i64 (i : Int)
theorem SlB.pop {e n m c : Nat} {A : Option Addr} {xs ys : List Value} {v : Value} {sb : List (Nat × Obj)} (h : SlB e 1 A n c xs sb) (hx : xs = ys ++ [v]) (hn : n = m + 1) : SlB e 1 A m c ys sb := by
  subst hn
  obtain ⟨h1, h2⟩ := h
  rw [hx, List.length_append, List.length_singleton] at h1
  refine ⟨by omega, .inr ?_⟩
  rcases h2 with ⟨h3, -⟩ | ⟨g, cur, h3, h4, h5, h6, h7, h8⟩
  · omega
  · refine ⟨g, cur, h3, h4, by omega, h6, h7, ?_⟩
    have e1 : (cur.toList.take ((m + 1) * 1)).take (m * 1) = cur.toList.take (m * 1) := by rw [List.take_take]; congr 1; omega
    rw [← e1, h8, hx, List.take_left']
    omega
theorem UK {w0 w : World} {Ds : List Nat} {pre post sb : List (Nat × Obj)} {e n c : Nat} {A : Option Addr} {xs : List Value} (hS : SlB e 1 A n c xs sb) (hF : FR w0 Ds (pre ++ (sb ++ post)) w) (j : Nat) {u : Value} (hu : xs[j]? = some u) :
    ∃ ad, A = some ad ∧ w.cell? (ad.add (j * 1)) = some u := by
  have hA : ∃ ad, A = some ad := by
    rcases hS.2 with ⟨h1, -⟩ | ⟨g, cur, hA, -⟩
    · have h2 := hS.1
      have := (List.getElem?_eq_some_iff.1 hu).1
      omega
    · exact ⟨_, hA⟩
  obtain ⟨ad, hA⟩ := hA
  exact ⟨ad, hA, by rw [Nat.mul_one]; exact hS.cells hF ad hA j u hu⟩
theorem RN {tp : List Nat} (h : 0 < tp.length) : ∃ l r, tp = l ++ [r] := by
  cases hr : tp.reverse with
  | nil =>
    have e : tp = [] := by simpa using hr
    subst e; simp at h
  | cons r l => exact ⟨l.reverse, r, by have := congrArg List.reverse hr; simpa using this⟩
theorem M7 (l : List Nat) (r : Nat) : (FG (l ++ [r]))[l.length]? = some (.int .i64 (r : Int)) := by simp [FG]
theorem EG (S : Nat → Prop) (w0 : World) (la : List Str) (fa : List Int) (Aa Ba : Option Addr) (ca ea : Nat) (hLa : Rep S w0 (Gf la) [.slice Aa la.length ca]) (hNa : Rep S w0 (.slice (fa.map Ze)) [.slice Ba fa.length ea]) : Calls prog 131 #[.agg #[.slice Aa la.length ca, .slice Ba fa.length ea]] w0 (Rd fun v w' => ∃ (A : Option Addr) (n c : Nat) (b : Bool), v = .tuple #[.slice A n c, .bool b] ∧ (b = true ↔ Yf la fa) ∧ Same [] w0 w') := by
 have hLla := hLa.slice_len
 have hNla := hNa.slice_len
 rw [List.length_map] at hLla hNla
 refine Ma func131 rfl ntmps131 Jb (Ed _) ?_
 have hF := FR.start w0 []
 refine Ka ?_
 refine Sj hF rfl ?_
 clear hF; rintro b1 w hb1 hF -
 refine Ca (Il rfl) (Ca (Ec rfl) (Ea (Ia (Ka (Ca (Kc Je rfl) (Qd (Vi isAgg25 rfl hF.F 0 rfl rfl) (Ca (Qe underlying25 rfl) (Ca (Kc Vf rfl) (Qd (Vi isAgg39 rfl hF.F 0 rfl rfl) (Ca (Qe underlying39 rfl) (Ca (Ux rfl rfl) ?_)))))))))))
 refine Ca (Fd rfl) ?_
 refine Cd (d := 16) rfl (fun hg0 => ?_) (fun hg0 => ?_)
 refine Sa (Sa (Sa (Sa (Ca (Oc rfl rfl) (Ea (Ae rfl (Ka (Ca (Il rfl) (Ca (Ec rfl) (Ea ?_))))))))))
 refine Fc (Bc (Za (Ye (v := .slice _ _ _) (x := .bool false) rfl rfl rfl) ?_))
 refine ⟨_, _, _, false, rfl, ⟨fun h => (by cases h), fun h => ?_⟩, hF.same⟩
 exfalso
 have := h.1
 have := h.2.1
 omega
 refine Ca (Kc Je rfl) (Qd (Vi isAgg25 rfl hF.F 0 rfl rfl) (Ca (Qe underlying25 rfl) (Ca (X0 rfl rfl) (Ca (Jd rfl rfl) (Ea ?_)))))
 refine Pc rfl rfl (fun hc0 => ?_) (fun hc0 => ?_)
 refine Ka (Ca (Il rfl) (Ca (Ec rfl) (Ea ?_)))
 refine Fc (Bc (Za (Ye (v := .slice _ _ _) (x := .bool false) rfl rfl rfl) ?_))
 refine ⟨_, _, _, false, rfl, ⟨fun h => (by cases h), fun h => ?_⟩, hF.same⟩
 exfalso
 have := h.1
 have := h.2.1
 omega
 refine Wa (Ha (Ka (Ca (Kc Vf rfl) (Qd (Vi isAgg39 rfl hF.F 0 rfl rfl) (Ca (Qe underlying39 rfl) ?_)))))
 refine Xr (v := fun b => .slice (some ⟨b, 0, none⟩) fa.length fa.length) (o := .cells (Gb (fa.length) fun _ => 0) 3) hF (Kk Ki Ib rfl rfl by_Om) ?_
 clear hF; rintro b2 w hb2 hF -
 refine Ca (Il rfl) (Cc (Ca (Il rfl) (Ea (Ia (Ia ?_)))))
 have hlf5 : la.length = fa.length ∧ la.length ≤ 512 := by omega
 replace hF : FR w0 [] ([(b2, .cells (Gb (fa.length) (fun _ => 0)) 3), (b1, .cells #[.slice Aa la.length ca, .slice Ba fa.length ea] 60)] ++ ([] ++ [])) w := hF
 refine Da (Ca (Kc Vf rfl) (Qd (Vi isAgg39 rfl hF.F 1 rfl rfl) (Ca (Qe underlying39 rfl) (Ca (Hb rfl) (Ea (Va ?_))))))
 refine Uc (fun μ σ w => ∃ (j : Nat), ∃ (tp : List Nat), ∃ (A : Option Addr), ∃ (c : Nat), ∃ (sb : List (Nat × Obj)), ∃ (f : Nat → Int), μ = fa.length - j ∧ (j ≤ fa.length) ∧ (lfOk fa j) ∧ (Rts fa j tp) ∧ (SlB 3 1 A tp.length c (FG tp) sb) ∧ AllEq σ [(1, .pointer (some ⟨b1, 0, none⟩)), (4, .slice (some ⟨b2, 0, none⟩) fa.length fa.length), (5, .slice A tp.length c), (27, .slice Ba fa.length ea), (28, .int .i64 ((fa.length : Nat))), (29, .int .i64 ((j : Int)))] ∧ FR w0 [] ([(b2, .cells (Gb (fa.length) (f)) 3), (b1, .cells #[.slice Aa la.length ca, .slice Ba fa.length ea] 60)] ++ (sb ++ [])) w) _ ⟨0, [], none, 0, [], (fun _ => 0), rfl, (Nat.zero_le _), (fun i _ h => by omega), (.nil), (SlB.nil _ _), MG, hF⟩ ?_
 clear hF; rintro μ σ w ⟨j, tp, A, c, sb, f, rfl, hj, hok, hrt, hS, hs, hF⟩
 refine Cg.slots hs ?_
 clear hs; intro σ
 refine Ka (Ca (Nk rfl rfl) (Ea (Ia ?_)))
 refine Pc rfl rfl (fun hc1 => ?_) (fun hc1 => ?_)
 refine Wa (Ha (Ia (Va (Ka (Ca (Hb rfl) ?_)))))
 obtain ⟨ad1, hA1, hk1, hx1⟩ := hNa.int_elem (i := j) by_Om
 refine Ja (v := .pointer (some (ad1.add (j * 1)))) (Oa (i := (j : Int)) Df rfl hA1 rfl by_Om by_Om) (Ja (v := .int .i64 (fa[j])) (Cb isAgg3 rfl (hF.cell0 hk1)) (Ca (Gc rfl) (Ca (Gc rfl) (Ea (Ia (Ka (Ca (Hb rfl) (Ca (Nk rfl rfl) (Ca (Fd rfl) ?_)))))))))
 refine Cd (d := 36) rfl (fun hg2 => ?_) (fun hg2 => ?_)
 refine Sa (Sa (Sa (Ca (Oc rfl rfl) (Ea (Ae rfl (Ka (Ca (Il rfl) (Ca (Ec rfl) (Ea ?_)))))))))
 refine Fc (Bc (Za (Ye (v := .slice _ _ _) (x := .bool false) rfl rfl rfl) ?_))
 refine ⟨_, _, _, false, rfl, ⟨fun h => (by cases h), fun h => ?_⟩, hF.same⟩
 exfalso
 have := h.2.2 j by_Om by_Om
 omega
 refine Ca (Hb rfl) (Ca (Hb rfl) (Ca (X0 rfl rfl) (Ca (Jd rfl rfl) (Ea ?_))))
 refine Pc rfl rfl (fun hc2 => ?_) (fun hc2 => ?_)
 refine Ka (Ca (Il rfl) (Ca (Ec rfl) (Ea ?_)))
 refine Fc (Bc (Za (Ye (v := .slice _ _ _) (x := .bool false) rfl rfl rfl) ?_))
 refine ⟨_, _, _, false, rfl, ⟨fun h => (by cases h), fun h => ?_⟩, hF.same⟩
 exfalso
 have := h.2.2 j by_Om by_Om
 omega
 refine Wa (Ha (Ia (Va ?_)))
 refine Uc (fun μ σ w => ∃ (p : Nat), ∃ (tp : List Nat), ∃ (A : Option Addr), ∃ (c : Nat), ∃ (sb : List (Nat × Obj)), ∃ (f : Nat → Int), μ = tp.length ∧ (fa[j] ≤ (p : Int) ∧ p ≤ j) ∧ (∀ z (hz : z < j), p ≤ z → fa[j] ≤ fa[z]) ∧ (Rts fa p tp) ∧ (SlB 3 1 A tp.length c (FG tp) sb) ∧ AllEq σ [(1, .pointer (some ⟨b1, 0, none⟩)), (4, .slice (some ⟨b2, 0, none⟩) fa.length fa.length), (5, .slice A tp.length c), (6, .int .i64 ((j : Int))), (7, .int .i64 (fa[j])), (27, .slice Ba fa.length ea), (28, .int .i64 ((fa.length : Nat))), (29, .int .i64 ((j : Int)))] ∧ FR w0 [] ([(b2, .cells (Gb (fa.length) (f)) 3), (b1, .cells #[.slice Aa la.length ca, .slice Ba fa.length ea] 60)] ++ (sb ++ [])) w) _ ⟨j, tp, A, c, sb, f, rfl, by_Om, (fun z hz h => by omega), (hrt), (hS), K_, hF⟩ ?_
 clear hF; rintro μ σ w ⟨p, tp, A, c, sb, f, rfl, hp, hcl, hrt, hS, hs, hF⟩
 refine Cg.slots hs ?_
 clear hs; intro σ
 refine Ia (Ka (Ca (Md rfl) (Ca (Qe underlying39 rfl) (Ca (X0 rfl rfl) (Ca (Fd rfl) ?_)))))
 refine Cd (d := 44) rfl (fun hg3 => ?_) (fun hg3 => ?_)
 refine Ca (Md rfl) (Ca (Md rfl) (Ca (Qe underlying39 rfl) ?_))
 obtain ⟨l, r, hlr⟩ := RN (tp := tp) by_Om
 have hlen : tp.length = l.length + 1 := by rw [hlr]; simp
 have hlb5 : l.length ≤ 512 := by have := Rts.len hrt; omega
 obtain ⟨hpr, hrl⟩ := Rts.last (hlr ▸ hrt)
 refine Ca (Zu ((l.length : Nat)) rfl rfl) ?_
 obtain ⟨adp, hAp, hkp⟩ := UK (pre := [(b2, .cells (Gb (fa.length) (f)) 3), (b1, .cells #[.slice Aa la.length ca, .slice Ba fa.length ea] 60)]) (post := []) hS hF l.length (u := .int .i64 (r : Int)) (by rw [hlr]; exact M7 l r)
 refine Ja (v := .pointer (some (adp.add (l.length * 1)))) (Oa (i := ((l.length : Nat) : Int)) Df rfl hAp rfl by_Om by_Om) (Ja (v := .int .i64 ((r : Nat))) (Cb isAgg3 rfl hkp) (Ca (Hb rfl) (Ca (CD rfl rfl) (Ca (Oc rfl rfl) (Ea ?_)))))
 refine Pc rfl rfl (fun hc3 => ?_) (fun hc3 => ?_)
 refine Wa (Ha (Va (Ka (Ca (Md rfl) (Ca (Md rfl) (Ca (Qe underlying39 rfl) (Ca (Zu ((l.length : Nat)) rfl rfl) ?_)))))))
 obtain ⟨adq, hAq, hkq⟩ := UK (pre := [(b2, .cells (Gb (fa.length) (f)) 3), (b1, .cells #[.slice Aa la.length ca, .slice Ba fa.length ea] 60)]) (post := []) hS hF l.length (u := .int .i64 (r : Int)) (by rw [hlr]; exact M7 l r)
 refine Ja (v := .pointer (some (adq.add (l.length * 1)))) (Oa (i := ((l.length : Nat) : Int)) Df rfl hAq rfl by_Om by_Om) (Ja (v := .int .i64 ((r : Nat))) (Cb isAgg3 rfl hkq) (Ca (Gc rfl) (Ea (Ia (Ka (Ca (Kc Vf rfl) (Qd (Vi isAgg39 rfl hF.F 1 rfl rfl) (Ca (Hb rfl) ?_))))))))
 obtain ⟨ad4, hA4, hk4, hx4⟩ := hNa.int_elem (i := r) by_Om
 refine Ja (v := .pointer (some (ad4.add (r * 1)))) (Oa (i := (r : Nat)) Df rfl hA4 rfl by_Om by_Om) (Ja (v := .int .i64 (fa[r])) (Cb isAgg3 rfl (hF.cell0 hk4)) (Ca (Hb rfl) (Ca (Nk rfl rfl) (Ea ?_))))
 refine Pc rfl rfl (fun hc4 => ?_) (fun hc4 => ?_)
 refine Ka (Ca (Il rfl) (Ca (Ec rfl) (Ea ?_)))
 refine Fc (Bc (Za (Ye (v := .slice _ _ _) (x := .bool false) rfl rfl rfl) ?_))
 refine ⟨_, _, _, false, rfl, ⟨fun h => (by cases h), fun h => ?_⟩, hF.same⟩
 exfalso
 have := (h.2.2 j by_Om by_Om).2.2 r by_Om by_Om
 omega
 refine Wa (Ha ?_)
 refine Id [] (.free 0 (.free 1 (.free 2 (.free 3 (.free 4 (.free 5 (.free 6 (.free 7 (.free 8 (.act 9 (.free 10 .nil))))))))))) hF ?_
 clear hF; rintro w hF -
 refine ⟨fun wq => FR w0 [] [(b1, .cells #[.slice Aa la.length ca, .slice Ba fa.length ea] 60)] wq, hF.sub (.cons _ (.cons_cons _ (List.nil_sublist _))), ?_⟩
 refine Xa rfl (Md rfl) (Xa rfl (Hb rfl) (Xa rfl (Hb rfl) (Xa rfl (Md rfl) (Xa rfl (Md rfl) (Xa rfl (Qe underlying39 rfl) (Xa rfl (Zu ((l.length : Nat)) rfl rfl) ?_))))))
 refine Qa rfl (v := .slice A l.length c) (fun w hC => EB l.length Df rfl rfl (by have := hS.cap; omega)) ?_
 refine Qa rfl (v := .pointer (some ⟨b2, r, none⟩)) (fun w hC => Ub (i := (r : Nat)) (r) Df rfl rfl by_Om by_Om by_Om) ?_
 refine Kl rfl 0 (l := [.int .i64 ((j : Int))]) (cs' := Gb (fa.length) (Af (f) (r) ((j : Int)))) hF sizeOf3 rfl (v := .int .i64 ((j : Int))) rfl rfl Od rfl (by rw [Lg]; simp only [List.length_singleton]; exact Nat.succ_le_of_lt by_Om) (Zf _) ?_
 clear hF; rintro w hF -
 replace hF : FR w0 [] ([(b2, .cells (Gb (fa.length) (Af (f) (r) ((j : Int)))) 3), _] ++ _) w := hF
 refine ⟨hF.sub (.cons _ (.cons_cons _ (List.nil_sublist _))), ?_⟩
 refine Xa rfl (Il rfl) (Jc (Mb ?_))
 have hat := hok.at (j := r) by_Om by_Om
 have hlr2 : Sg fa r ≤ r := Nat.min_le_right _ _
 have hp2 : fa[j] ≤ ((Sg fa r : Nat) : Int) ∧ Sg fa r ≤ j := by constructor <;> omega
 refine Ic ⟨_, ?_, Sg fa r, l, A, c, sb, (Af (f) (r) ((j : Int))), rfl, (hp2), (fun z hz hle => if hzr : z ≤ r then hok.popped hj by_Om by_Om hle hzr else hcl z hz by_Om), (hrl), (SlB.pop hS (by rw [hlr]; simp [FG]; rfl) hlen), K_, hF⟩
 omega
 refine Nc (Lc rfl ?_)
 refine Ha (Ia ?_)
 have hpe : (p : Int) = fa[j] := by first | (have e0 : tp = [] := List.eq_nil_of_length_eq_zero by_Om; have := Rts.none (e0 ▸ hrt); omega) | omega
 refine Da (Ca (Md rfl) (Ca (Hb rfl) (Ja (v := .pointer (some ⟨b2, j, none⟩)) (Ub (i := (j : Int)) (j) Df rfl rfl by_Om by_Om by_Om) ?_)))
 refine Bf 0 (l := [.int .i64 ((-1))]) (cs' := Gb (fa.length) (Af (f) (j) ((-1)))) hF sizeOf3 rfl (v := .int .i64 ((-1))) rfl rfl Od rfl (by rw [Lg]; simp only [List.length_singleton]; exact Nat.succ_le_of_lt by_Om) (Zf _) ?_
 clear hF; rintro w hF -
 replace hF : FR w0 [] ([(b2, .cells (Gb (fa.length) (Af (f) (j) ((-1)))) 3), _] ++ _) w := hF
 refine Ea (Da (Ca (Md rfl) (Ca (Hb rfl) ?_)))
 refine Xf 1 hF (Ua (cs := #[.int .i64 ((j : Int))]) underlying39 sizeOf3 zeroValue3 Ra Ra Ib) ?_
 clear hF; rintro b3 w hb3 hF -
 refine Tq [(b3, .cells #[.int .i64 ((j : Int))] 3), (b2, .cells (Gb (fa.length) (Af (f) (j) ((-1)))) 3), (b1, .cells #[.slice Aa la.length ca, .slice Ba fa.length ea] 60)] [] (news := [.int .i64 ((j : Int))]) (len' := (tp ++ [j]).length) (ys := FG (tp ++ [j])) Ki hF hS rfl rfl (rfl) (fun _ => ⟨_, rfl, Xb (hF.cellsAll 0 rfl)⟩) (by simp [Value.oneCell']) (by have := Rts.len hrt; simp only [maxLen]; omega) Ga (by simp [FG]) (by have := Rts.len hrt; omega) ?_
 clear hF; intro A5 c5 o_5 w hS5_o hF hE hnew
 clear hE hnew
 refine Ca (Il rfl) (Ya (Mb (Ha (Da (Ca (Qi (((j + 1 : Nat) : Int)) rfl rfl) (Ca (Hb rfl) (Ya ?_)))))))
 have hok2 : lfOk fa (j + 1) := hok.snoc by_Om by_Om by_Om (fun z hz hle => hcl z hz by_Om)
 have hlf : Sg fa j = p := by have := hok2.at (j := j) by_Om by_Om; omega
 have hrt2 : Rts fa (j + 1) (tp ++ [j]) := .snoc (by rw [hlf]; exact hrt)
 refine Ic ⟨_, ?_, j + 1, tp ++ [j], A5, c5, o_5, (Af (f) (j) ((-1))), rfl, by_Om, (hok2), (hrt2), (hS5_o), MG, hF.drop 1⟩
 omega
 refine Sa (Sa (Sa (Sa (Sa (Sa (Sa (Sa (Ca (Jd rfl rfl) (Ea (Bg rfl ?_))))))))))
 refine Nc (Lc rfl ?_)
 refine Ha (Ia ?_)
 have hpe : (p : Int) = fa[j] := by first | (have e0 : tp = [] := List.eq_nil_of_length_eq_zero by_Om; have := Rts.none (e0 ▸ hrt); omega) | omega
 refine Da (Ca (Md rfl) (Ca (Hb rfl) (Ja (v := .pointer (some ⟨b2, j, none⟩)) (Ub (i := (j : Int)) (j) Df rfl rfl by_Om by_Om by_Om) ?_)))
 refine Bf 0 (l := [.int .i64 ((-1))]) (cs' := Gb (fa.length) (Af (f) (j) ((-1)))) hF sizeOf3 rfl (v := .int .i64 ((-1))) rfl rfl Od rfl (by rw [Lg]; simp only [List.length_singleton]; exact Nat.succ_le_of_lt by_Om) (Zf _) ?_
 clear hF; rintro w hF -
 replace hF : FR w0 [] ([(b2, .cells (Gb (fa.length) (Af (f) (j) ((-1)))) 3), _] ++ _) w := hF
 refine Ea (Da (Ca (Md rfl) (Ca (Hb rfl) ?_)))
 refine Xf 1 hF (Ua (cs := #[.int .i64 ((j : Int))]) underlying39 sizeOf3 zeroValue3 Ra Ra Ib) ?_
 clear hF; rintro b4 w hb4 hF -
 refine Tq [(b4, .cells #[.int .i64 ((j : Int))] 3), (b2, .cells (Gb (fa.length) (Af (f) (j) ((-1)))) 3), (b1, .cells #[.slice Aa la.length ca, .slice Ba fa.length ea] 60)] [] (news := [.int .i64 ((j : Int))]) (len' := (tp ++ [j]).length) (ys := FG (tp ++ [j])) Ki hF hS rfl rfl (rfl) (fun _ => ⟨_, rfl, Xb (hF.cellsAll 0 rfl)⟩) (by simp [Value.oneCell']) (by have := Rts.len hrt; simp only [maxLen]; omega) Ga (by simp [FG]) (by have := Rts.len hrt; omega) ?_
 clear hF; intro A6 c6 o_6 w hS6_o hF hE hnew
 clear hE hnew
 refine Ca (Il rfl) (Ya (Mb (Ha (Da (Ca (Qi (((j + 1 : Nat) : Int)) rfl rfl) (Ca (Hb rfl) (Ya ?_)))))))
 have hok2 : lfOk fa (j + 1) := hok.snoc by_Om by_Om by_Om (fun z hz hle => hcl z hz by_Om)
 have hlf : Sg fa j = p := by have := hok2.at (j := j) by_Om by_Om; omega
 have hrt2 : Rts fa (j + 1) (tp ++ [j]) := .snoc (by rw [hlf]; exact hrt)
 refine Ic ⟨_, ?_, j + 1, tp ++ [j], A6, c6, o_6, (Af (f) (j) ((-1))), rfl, by_Om, (hok2), (hrt2), (hS6_o), MG, hF.drop 1⟩
 omega
 refine Nc (Lc rfl ?_)
 refine Ha (Ka (Ca (Md rfl) (Ca (Il rfl) (Ca (Ec rfl) (Ea ?_)))))
 refine Fc (Bc (Za (Ye (v := .slice _ _ _) (x := .bool true) rfl rfl rfl) ?_))
 obtain rfl : j = fa.length := by omega
 exact ⟨_, _, _, true, rfl, ⟨fun _ => ⟨hlf5.1, hlf5.2, hok⟩, fun _ => rfl⟩, hF.same⟩
theorem Yy (S : Nat → Prop) (w0 : World) (la : List Str) (fa : List Int) (Aa Ba : Option Addr) (ca ea : Nat) (hLa : Rep S w0 (Gf la) [.slice Aa la.length ca]) (hNa : Rep S w0 (.slice (fa.map Ze)) [.slice Ba fa.length ea]) : Calls prog 102 #[.agg #[.slice Aa la.length ca, .slice Ba fa.length ea]] w0 (Rd fun v w' => ∃ b : Bool, v = .bool b ∧ (b = true ↔ Yf la fa) ∧ Same [] w0 w') := by
 refine Ma func102 rfl ntmps102 Jb (Ed _) ?_
 have hF := FR.start w0 []
 refine Ka ?_
 refine Sj hF rfl ?_
 clear hF; rintro b1 w hb1 hF -
 refine Ca (Ec rfl) (Cc (Qd (Bm isAgg60 sizeOf60 rfl hF.F 0 rfl rfl) ?_))
 refine Db (EG _ _ la fa Aa Ba ca ea (hF.rep hLa) (hF.rep hNa)) (Eb HR rfl rfl) ?_
 rintro _ w ⟨A, n, c, b, rfl, hb, hE⟩
 replace hF := hF.ext hE
 clear hE
 refine Ca (Xm rfl) (Ca (TA rfl rfl) (Ca (Ar rfl rfl) (Ca (Il rfl) (Ca (Ec rfl) (Cc (Ca (Fd rfl) (Ca (Ec rfl) (Ea ?_))))))))
 refine Xd (v := .bool _) rfl rfl ?_
 exact ⟨_, rfl, hb, hF.same⟩
end Go.Scarf
namespace Go.Scarf
open Go.RowKit Go.Proofs Go.Proofs.Tryz
def gi (m p q : Nat) : Nat := p * (m + 1) + q
theorem UQ {m p q p' q' : Nat} (hq : q ≤ m) (hq' : q' ≤ m) (h : gi m p q = gi m p' q') : p = p' ∧ q = q' := by
  unfold gi at h
  have e : p = p' := by
    have h1 : (p * (m + 1) + q) / (m + 1) = p := by rw [Nat.mul_comm, Nat.mul_add_div by_Om, Nat.div_eq_of_lt by_Om]; omega
    have h2 : (p' * (m + 1) + q') / (m + 1) = p' := by rw [Nat.mul_comm, Nat.mul_add_div by_Om, Nat.div_eq_of_lt by_Om]; omega
    rw [← h1, ← h2, h]
  subst e
  exact ⟨rfl, by omega⟩
theorem Mp {m n p q : Nat} (hp : p ≤ n) (hq : q ≤ m) : gi m p q < (n + 1) * (m + 1) := by
  unfold gi
  have : p * (m + 1) ≤ n * (m + 1) := Nat.mul_le_mul_right _ hp
  rw [Nat.add_mul, Nat.one_mul]
  omega
theorem Q7 {n m : Nat} (hn : n ≤ 512) (hm : m ≤ 512) : (n + 1) * (m + 1) ≤ 263169 := Nat.le_trans (Nat.mul_le_mul (Nat.succ_le_succ hn) (Nat.succ_le_succ hm)) Ra
theorem FR.adopt {w0 w : World} {Ds : List Nat} {bs_ : List (Nat × Obj)} {b : Nat} {o : Obj} (hF : FR w0 Ds bs_ w) (h : w.heap[b]? = some o) (hb : w0.heap.size ≤ b) (hn : ∀ q ∈ bs_, q.1 ≠ b) : FR w0 Ds ((b, o) :: bs_) w :=
  ⟨hF.same, fun q hq => by
    rcases List.mem_cons.1 hq with rfl | hq
    · exact ⟨h, .inl hb⟩
    · exact hF.own q hq, List.pairwise_cons.2 ⟨fun q hq => hn q hq, hF.desc⟩⟩
theorem VF (w0 : World) (n m : Nat) (hn : n ≤ 512) (hm : m ≤ 512) : Calls prog 104 #[.int .i64 ((n : Nat) : Int), .int .i64 ((m : Nat) : Int)] w0 (Rd fun v w' => ∃ gb cb : Nat, v = .pointer (some ⟨gb, 0, none⟩) ∧ w'.heap[gb]? = some (.cells #[.int .i64 ((m + 1 : Nat) : Int), .slice (some ⟨cb, 0, none⟩) ((n + 1) * (m + 1)) ((n + 1) * (m + 1))] 134) ∧ w'.heap[cb]? = some (.cells (Gb ((n + 1) * (m + 1)) fun _ => 0) 3) ∧ w0.heap.size ≤ gb ∧ w0.heap.size ≤ cb ∧ gb ≠ cb ∧ Same [] w0 w') := by
 have hN := Q7 hn hm
 refine Ma func104 rfl ntmps104 Jb (Vd _ _) ?_
 have hF := FR.start w0 []
 refine Ka (Ca (Z_ rfl) (Cc (Ca (Hb rfl) (Ca (Qi (((m + 1 : Nat) : Int)) rfl rfl) (Ca (Hb rfl) (Ca (Qi (((n + 1 : Nat) : Int)) rfl rfl) (Ca (Hb rfl) (Ca (Qi (((m + 1 : Nat) : Int)) rfl rfl) ?_))))))))
 refine Ja (v := .int .i64 ((((n + 1) * (m + 1)) : Nat))) (Z7 rfl rfl (Bi (by rw [Int.natCast_mul]) by_Om by_Om)) ?_
 refine Xr (v := fun b => .slice (some ⟨b, 0, none⟩) (((n + 1) * (m + 1))) (((n + 1) * (m + 1)))) (o := .cells (Gb (((n + 1) * (m + 1))) fun _ => 0) 3) hF (Kk Ki Ib rfl rfl by_Om) ?_
 clear hF; rintro b1 w hb1 hF -
 refine Ja (w' := w) (v := .agg #[.int .i64 (((m + 1 : Nat) : Int)), .slice (some ⟨b1, 0, none⟩) (((n + 1) * (m + 1))) (((n + 1) * (m + 1)))]) Ib ?_
 refine Sj hF rfl ?_
 clear hF; rintro b2 w hb2 hF -
 refine Ca (Z_ rfl) (Ea ?_)
 refine Xd (v := .pointer _) rfl rfl ?_
 have h0 := hF.ge (i := 0) rfl
 have h1 := hF.ge (i := 1) rfl
 exact ⟨_, _, rfl, hF.heap (i := 0) rfl, hF.heap (i := 1) rfl, h0, h1, (by have := (List.pairwise_cons.1 hF.desc).1 _ (List.mem_cons_self ..); exact fun e => this e.symm), hF.same⟩
theorem JU (w0 : World) (gb cb N m p q k : Nat) (i j : Int) (hi : i + 1 = (p : Int)) (hj : j + 1 = (q : Int)) (hg : w0.heap[gb]? = some (.cells #[.int .i64 ((m + 1 : Nat) : Int), .slice (some ⟨cb, 0, none⟩) N N] 134)) (hk : p * (m + 1) = k) (hN : k + q < N) (hm : m ≤ 512) (hp : p ≤ 1000) (hNm : N ≤ 263169) : Calls prog 85 #[.pointer (some ⟨gb, 0, none⟩), .int .i64 i, .int .i64 j] w0 (Rd fun v w' => v = .pointer (some ⟨cb, gi m p q, none⟩) ∧ Same [] w0 w') := by
 refine Ma func85 rfl ntmps85 Jb (Yi _ _ _) ?_
 have hF := FR.start w0 []
 refine Ka (Ca (Z_ rfl) (Ea (Ia ?_)))
 refine Uf (zs := []) (.free 0 (.free 1 (.free 2 (.free 3 (.free 4 (.free 5 (.free 6 (.free 7 (.free 8 (.free 9 (.free 10 (.free 11 (.free 12 (.free 13 (.free 14 (.free 15 .nil)))))))))))))))) hF ?_
 clear hF; intro w hF
 refine Xa rfl (De rfl) (Xa rfl (Of rfl) (Xa rfl (Kc YH rfl) (Qa rfl (v := .slice (some ⟨cb, 0, none⟩) N N) (fun w hC => Cb isAgg39 rfl (hC.cell0 (Ob hg 1))) (Xa rfl (Hb rfl) (Xa rfl (Qi ((p : Nat)) rfl rfl) (Xa rfl (De rfl) (Xa rfl (Of rfl) (Xa rfl (Kc ZI rfl) (Qa rfl (v := .int .i64 (((m + 1 : Nat) : Int))) (fun w hC => Cb isAgg3 rfl (hC.cell0 (Ob hg 0))) ?_)))))))))
 refine Qa rfl (v := .int .i64 ((k : Nat))) (fun w hC => Z7 rfl rfl (Bi (by rw [← hk, Int.natCast_mul]) by_Om by_Om)) ?_
 refine Xa rfl (Hb rfl) (Xa rfl (Jn rfl rfl) (Xa rfl (Qi (((k + q : Nat) : Int)) rfl rfl) (Qa rfl (v := .pointer (some ⟨cb, k + q, none⟩)) (fun w hC => Ub (i := ((k + q : Nat) : Int)) (k + q) Df rfl rfl by_Om by_Om by_Om) (Xa rfl (Z_ rfl) (Jc (Ha ?_))))))
 refine Xd (v := .pointer _) rfl rfl ?_
 exact ⟨by rw [gi, hk], hF.same⟩
theorem Tp (w0 : World) (gb cb n m p q : Nat) (i j : Int) (hi : i + 1 = (p : Int)) (hj : j + 1 = (q : Int)) (hg : w0.heap[gb]? = some (.cells #[.int .i64 ((m + 1 : Nat) : Int), .slice (some ⟨cb, 0, none⟩) ((n + 1) * (m + 1)) ((n + 1) * (m + 1))] 134)) (hp : p ≤ n) (hq : q ≤ m) (hn : n ≤ 512) (hm : m ≤ 512) : Calls prog 85 #[.pointer (some ⟨gb, 0, none⟩), .int .i64 i, .int .i64 j] w0 (Rd fun v w' => v = .pointer (some ⟨cb, gi m p q, none⟩) ∧ Same [] w0 w') :=
  JU w0 gb cb _ m p q _ i j hi hj hg rfl (Mp hp hq) hm by_Om (Q7 hn hm)
def Sk (N0 n : Nat) (q : Nat → Nat) (b : Nat) : Prop := b < N0 ∧ ∀ i, i < n → q i ≠ b
structure Rk (w : World) (N0 rb pb : Nat) (q : Nat → Nat) (la : List Str) (fa : List Int) (lb : List Str) (fb : List Int) (Aa Ba Ab Bb : Option Addr) (k1 k2 k3 k4 : Nat) (P : Nat → Nat → Int) : Prop where
  cell : w.heap[rb]? = some (.cells #[.slice Aa la.length k1, .slice Ba fa.length k2, .slice Ab lb.length k3, .slice Bb fb.length k4, .slice (some ⟨pb, 0, none⟩) la.length la.length] 130)
  La : Rep (Sk N0 la.length q) w (Gf la) [.slice Aa la.length k1]
  Na : Rep (Sk N0 la.length q) w (.slice (fa.map Ze)) [.slice Ba fa.length k2]
  Lb : Rep (Sk N0 la.length q) w (Gf lb) [.slice Ab lb.length k3]
  Nb : Rep (Sk N0 la.length q) w (.slice (fb.map Ze)) [.slice Bb fb.length k4]
  grid : Grid2 w pb la.length lb.length 39 3 q P
  lt : rb < N0 ∧ pb < N0 ∧ ∀ i, i < la.length → q i < N0
  ne : ∀ i, i < la.length → q i ≠ rb
section
variable {w w' : World} {N0 rb pb : Nat} {q : Nat → Nat} {la lb : List Str} {fa fb : List Int} {Aa Ba Ab Bb : Option Addr} {k1 k2 k3 k4 : Nat} {P : Nat → Nat → Int} {E : List Nat}
theorem Rk.step (h : Rk w N0 rb pb q la fa lb fb Aa Ba Ab Bb k1 k2 k3 k4 P) (hs : Same E w w') (he : ∀ b ∈ E, N0 ≤ b) : Rk w' N0 rb pb q la fa lb fb Aa Ba Ab Bb k1 k2 k3 k4 P := by
  have ns : ∀ b ∈ E, ¬ Sk N0 la.length q b := fun b hb h2 => by have := he b hb; have := h2.1; omega
  have nl : ∀ x, x < N0 → x ∉ E := fun x hx hm => by have := he x hm; omega
  exact ⟨(hs.block _ (Fa h.cell) (nl _ h.lt.1)).trans h.cell, h.La.same hs ns, h.Na.same hs ns, h.Lb.same hs ns, h.Nb.same hs ns, h.grid.keep hs (nl _ h.lt.2.1) (fun i hi => nl _ (h.lt.2.2 i hi)), h.lt, h.ne⟩
theorem Rk.ext (h : Rk w N0 rb pb q la fa lb fb Aa Ba Ab Bb k1 k2 k3 k4 P) (hs : Same [] w w') : Rk w' N0 rb pb q la fa lb fb Aa Ba Ab Bb k1 k2 k3 k4 P := h.step hs Ga
theorem Rk.put (h : Rk w N0 rb pb q la fa lb fb Aa Ba Ab Bb k1 k2 k3 k4 P) {i j : Nat} {v : Int} (hi : i < la.length) (hs : Same [q i] w w') (hn : w'.heap[q i]? = some (.cells (Gb lb.length (Af (P i) j v)) 3)) : Rk w' N0 rb pb q la fa lb fb Aa Ba Ab Bb k1 k2 k3 k4 (Eh P i j v) := by
  have ns : ∀ b ∈ [q i], ¬ Sk N0 la.length q b := fun b hb h2 => h2.2 i hi (List.mem_singleton.1 hb).symm
  exact ⟨(hs.block _ (Fa h.cell) (by simpa using fun e => h.ne i hi e.symm)).trans h.cell, h.La.same hs ns, h.Na.same hs ns, h.Lb.same hs ns, h.Nb.same hs ns, h.grid.put hi hs hn, h.lt, h.ne⟩
theorem Rk.c0 (h : Rk w N0 rb pb q la fa lb fb Aa Ba Ab Bb k1 k2 k3 k4 P) : w.cell? ⟨rb, 0, none⟩ = some (.slice Aa la.length k1) := Ob h.cell 0
theorem Rk.c1 (h : Rk w N0 rb pb q la fa lb fb Aa Ba Ab Bb k1 k2 k3 k4 P) : w.cell? ⟨rb, 1, none⟩ = some (.slice Ba fa.length k2) := Ob h.cell 1
theorem Rk.c2 (h : Rk w N0 rb pb q la fa lb fb Aa Ba Ab Bb k1 k2 k3 k4 P) : w.cell? ⟨rb, 2, none⟩ = some (.slice Ab lb.length k3) := Ob h.cell 2
theorem Rk.c3 (h : Rk w N0 rb pb q la fa lb fb Aa Ba Ab Bb k1 k2 k3 k4 P) : w.cell? ⟨rb, 3, none⟩ = some (.slice Bb fb.length k4) := Ob h.cell 3
theorem Rk.c4 (h : Rk w N0 rb pb q la fa lb fb Aa Ba Ab Bb k1 k2 k3 k4 P) : w.cell? ⟨rb, 4, none⟩ = some (.slice (some ⟨pb, 0, none⟩) la.length la.length) := Ob h.cell 4
theorem PL {S : Nat → Prop} {fs : List Int} {B : Option Addr} {n e : Nat} {ad : Addr} (h : Rep S w (.slice (fs.map Ze)) [.slice B n e]) (hA : B = some ad) {i : Nat} (hi : i < fs.length) : w.cell? (ad.add (i * 1)) = some (.int .i64 fs[i]) := by
  obtain ⟨ad', hA', hc, -⟩ := h.int_elem hi
  rw [hA] at hA'
  obtain rfl := Option.some.inj hA'
  exact hc
theorem MP {S : Nat → Prop} {ls : List Str} {B : Option Addr} {n e : Nat} {ad : Addr} (h : Rep S w (Gf ls) [.slice B n e]) (hA : B = some ad) {i : Nat} (hi : i < ls.length) : w.cell? (ad.add (i * 1)) = some (.string (bs ls[i])) := by
  obtain ⟨ad', hA', hc, -⟩ := h.str_elem hi
  rw [hA] at hA'
  obtain rfl := Option.some.inj hA'
  exact hc
theorem CL {S : Nat → Prop} {fs : List Int} {B : Option Addr} {n e : Nat} (h : Rep S w (.slice (fs.map Ze)) [.slice B n e]) (hi : 0 < fs.length) : ∃ ad, B = some ad := by
  obtain ⟨ad, hA, -⟩ := h.int_elem hi
  exact ⟨ad, hA⟩
end
theorem ZQ (w0 : World) (N0 rb pb : Nat) (q : Nat → Nat) (la : List Str) (fa : List Int) (lb : List Str) (fb : List Int) (Aa Ba Ab Bb : Option Addr) (k1 k2 k3 k4 : Nat) (P : Nat → Nat → Int) (h : Rk w0 N0 rb pb q la fa lb fb Aa Ba Ab Bb k1 k2 k3 k4 P) (i j : Nat) (hi : i < la.length) (hj : j < lb.length) (hn : la.length ≤ 512) (hm : lb.length ≤ 512) : Calls prog 105 #[.pointer (some ⟨rb, 0, none⟩), .int .i64 ((i : Nat) : Int), .int .i64 ((j : Nat) : Int)] w0 (Rd fun v w' => v = .int .i64 ((turn (Wb la fa) (Wb lb fb) i j : Nat) : Int) ∧ Same [] w0 w') := by
 have turnT : turn (Wb la fa) (Wb lb fb) i j = if la[i] = lb[j] then 0 else 1 := by simp [turn, Wb, List.getD, hi, hj]
 refine Ma func105 rfl ntmps105 Jb (Yi _ _ _) ?_
 have hF := FR.start w0 []
 refine Ka (Ca (Gc rfl) (Ea (Ia (Ia ?_))))
 refine Uf (zs := []) (.free 0 (.free 1 (.free 2 (.free 3 (.free 4 (.free 5 (.free 6 (.free 7 (.free 8 (.free 9 (.free 10 (.free 11 (.free 12 (.free 13 (.free 14 (.free 15 (.free 16 .nil))))))))))))))))) hF ?_
 clear hF; intro w hF
 refine Xa rfl (De rfl) (Xa rfl (Of rfl) (Xa rfl (Kc O8 rfl) (Xa rfl (Kc Je rfl) (Qa rfl (v := .slice Aa la.length k1) (fun w hC => Cb isAgg25 rfl (hC.cell0 h.c0)) (Xa rfl (Hb rfl) ?_)))))
 obtain ⟨ad0, hA0, hk0, hx0⟩ := h.La.str_elem (i := i) by_Om
 refine Qa rfl (v := .pointer (some (ad0.add (i * 1)))) (fun w hC => Oa (i := (i : Nat)) Lw rfl hA0 rfl by_Om by_Om) (Qa rfl (v := .string (bs (la[i]))) (fun w hC => Cb isAgg9 rfl (hC.cell0 hk0)) (Xa rfl (De rfl) (Xa rfl (Of rfl) (Xa rfl (Kc Z9 rfl) (Xa rfl (Kc Je rfl) (Qa rfl (v := .slice Ab lb.length k3) (fun w hC => Cb isAgg25 rfl (hC.cell0 h.c2)) (Xa rfl (Hb rfl) ?_)))))))
 obtain ⟨ad1, hA1, hk1, hx1⟩ := h.Lb.str_elem (i := j) by_Om
 refine Qa rfl (v := .pointer (some (ad1.add (j * 1)))) (fun w hC => Oa (i := (j : Nat)) Lw rfl hA1 rfl by_Om by_Om) (Qa rfl (v := .string (bs (lb[j]))) (fun w hC => Cb isAgg9 rfl (hC.cell0 hk1)) (Xa rfl (M_ rfl rfl) (Jc (Ha ?_))))
 refine Pc rfl rfl (fun hc0 => ?_) (fun hc0 => ?_)
 refine Ka (Ca (Gc rfl) (Ea ?_))
 refine Xd (v := .int .i64 0) rfl rfl ?_
 exact ⟨by rw [turnT, if_pos (by assumption)]; rfl, hF.same⟩
 refine Wa (Ha (Ka (Ca (Gc rfl) (Ea ?_))))
 refine Xd (v := .int .i64 1) rfl rfl ?_
 exact ⟨by rw [turnT, if_neg (by assumption)]; rfl, hF.same⟩
end Go.Scarf
