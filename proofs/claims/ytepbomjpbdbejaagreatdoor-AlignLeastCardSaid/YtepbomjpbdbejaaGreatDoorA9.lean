/- A part of the proof. -/
import Derived.Test.YtepbomjpbdbejaaGreatDoorA7
import Derived.Test.YtepbomjpbdbejaaGreatDoorW19
import Derived.Test.YtepbomjpbdbejaaGreatDoorW10
set_option linter.all false
set_option maxHeartbeats 8000000
set_option maxRecDepth 10000
namespace Go.Scarf
open Go.RowKit Go.Proofs Go.Proofs.Tryz
def RiseN (n size : Nat) : Nat → Nat → List (Nat × Nat) → Prop
  | _, j, [] => j ≤ size
  | k, j, z :: m => k ≤ z.1 ∧ z.1 < n ∧ j ≤ z.2 ∧ z.2 < size ∧ RiseN n size (z.1 + 1) (z.2 + 1) m
theorem Ws {n size : Int} : ∀ (m : List (Int × Int)) (z : Int × Int), Mj n z m = true → (∀ w, (z :: m).getLast? = some w → w.2 < size) → z.2 < size
  | [], z, _, h => h z rfl
  | u :: m, z, hr, h => by
    rw [Mj] at hr
    simp only [Bool.and_eq_true, Bool.not_eq_true', Bool.or_eq_false_iff, decide_eq_false_iff_not] at hr
    have := Ws m u hr.2 (fun w hw => h w (by rw [List.getLast?_cons_cons]; exact hw))
    omega
theorem C3 {n : Nat} {size : Int} : ∀ (m : List (Int × Int)) (x y : Int), -1 ≤ x → -1 ≤ y → y < size → Mj n (x, y) m = true → (∀ z, m.getLast? = some z → z.2 < size) → ∃ mp : List (Nat × Nat), m = Mc mp ∧ RiseN n size.toNat (x + 1).toNat (y + 1).toNat mp
  | [], x, y, hx, hy, hys, _, _ => ⟨[], rfl, by show (y + 1).toNat ≤ size.toNat; omega⟩
  | z :: m, x, y, hx, hy, hys, h, hl => by
    rw [Mj] at h
    simp only [Bool.and_eq_true, Bool.not_eq_true', Bool.or_eq_false_iff, decide_eq_false_iff_not] at h
    obtain ⟨⟨h1, h2, h3⟩, h4⟩ := h
    have hz : z.2 < size := Ws m z h4 hl
    obtain ⟨mp, rfl, hr⟩ := C3 m z.1 z.2 by_Om by_Om hz h4 (fun w hw => by
      cases m with
      | nil => cases hw
      | cons u m => exact hl w (by rw [List.getLast?_cons_cons]; exact hw))
    refine ⟨(z.1.toNat, z.2.toNat) :: mp, ?_, ?_⟩
    · show z :: Mc mp = ((z.1.toNat : Int), (z.2.toNat : Int)) :: Mc mp
      rw [show ((z.1.toNat : Int), (z.2.toNat : Int)) = z from Prod.ext (by show (z.1.toNat : Int) = z.1; omega) (by show (z.2.toNat : Int) = z.2; omega)]
    · refine ⟨by show (x + 1).toNat ≤ z.1.toNat; omega, by show z.1.toNat < n; omega, by show (y + 1).toNat ≤ z.2.toNat; omega, by show z.2.toNat < size.toNat; omega, ?_⟩
      show RiseN n size.toNat (z.1.toNat + 1) (z.2.toNat + 1) mp
      rw [show z.1.toNat + 1 = (z.1 + 1).toNat by omega, show z.2.toNat + 1 = (z.2 + 1).toNat by omega]; exact hr
theorem RiseN.all {n size : Nat} : ∀ {m : List (Nat × Nat)} {k j : Nat}, RiseN n size k j m → ∀ z ∈ m, z.1 < n ∧ z.2 < size
  | [], _, _, _, z, hz => by cases hz
  | y :: m, _, _, h, z, hz => by
    rcases List.mem_cons.1 hz with rfl | hz
    · exact ⟨h.2.1, h.2.2.2.1⟩
    · exact RiseN.all h.2.2.2.2 z hz
theorem BC {n size : Int} {m : List (Int × Int)} (h : O0 n m size = true) : ∃ (k s : Nat) (mp : List (Nat × Nat)), n = (k : Int) ∧ size = (s : Int) ∧ k ≤ 64 ∧ s ≤ 64 ∧ m = Mc mp ∧ RiseN k s 0 0 mp ∧ Io k (Mc mp) = true ∧ MC k (Mc mp) = true := by
  unfold O0 at h
  simp only [Bool.and_eq_true, Bool.not_eq_true', decide_eq_false_iff_not] at h
  obtain ⟨h1, h2, h3, h4⟩ := h
  have h1' := h1
  unfold Io at h1'
  simp only [Bool.and_eq_true, decide_eq_true_eq] at h1'
  obtain ⟨k, rfl⟩ : ∃ k : Nat, n = (k : Int) := ⟨n.toNat, by omega⟩
  obtain ⟨s, rfl⟩ : ∃ k : Nat, size = (k : Int) := ⟨size.toNat, by omega⟩
  have hl : ∀ z, m.getLast? = some z → z.2 < (s : Int) := fun z hz => by
    rw [hz] at h4
    simp only [Bool.not_eq_true', decide_eq_false_iff_not] at h4
    omega
  obtain ⟨mp, rfl, hr⟩ := C3 (n := k) (size := (s : Int)) m (-1) (-1) by_Om by_Om by_Om h1'.1 hl
  refine ⟨k, s, mp, rfl, rfl, by omega, by omega, rfl, hr, h1, ?_⟩
  unfold MC
  rw [h1]
  cases hg : (Mc mp).getLast? with
  | none => rfl
  | some z => have := hl z hg; simp only [Bool.true_and, Bool.not_eq_true', decide_eq_false_iff_not]; omega
end Go.Scarf
namespace Go.Scarf
open Go.RowKit Go.Proofs Go.Proofs.Tryz
theorem Rep.gap_elem {S : Nat → Prop} {w : World} {N : Nat} {gp : Nat → List Int} {A : Option Addr} {len c : Nat} (h : Rep S w (E0 N gp) [.slice A len c]) {i : Nat} (hi : i < N) :
    ∃ ad B e, A = some ad ∧ w.cell? (ad.add (i * 1)) = some (.slice B (gp i).length e) ∧ Rep S w (.slice ((gp i).map Ze)) [.slice B (gp i).length e] := by
  obtain ⟨ad, v, hA, hc, hr⟩ := Rep.elem1 h (fun d hd => by obtain ⟨k, _, rfl⟩ := List.mem_map.1 hd; rfl) (i := i) (by simpa using hi)
  rw [List.getElem_map, List.getElem_range] at hr
  obtain ⟨B, e, he⟩ := Rep.slice_is hr
  rw [List.length_map] at he
  subst he
  exact ⟨ad, B, e, hA, hc, hr⟩
def XN (q : UInt8) : Tree := .node 3 [q] [] []
def YR : List Tree := [XN 49, XN 50, XN 51]
def ZR : List Tree := [XN 49, XN 51]
theorem X9 (q : UInt8) : Pk (XN q) := ⟨H_ _ (by simp [XN, Hh, Uj]), by simp [XN, Ac, Xc], by simp [XN, Ee, Rj, Hm]⟩
theorem Hr : Y0 0 0 (YR.map Fb) (ZR.map Fb) = Mc [(0, 0), (2, 1)] ∧ al Jg pN (YR.map Fb) (ZR.map Fb) = 1 ∧ Oi YR = 0 ∧ Oi ZR = 0 := ⟨by kernel_rfl, by kernel_rfl, by kernel_rfl, by kernel_rfl⟩
theorem Xs {w0 w : World} {bs_ : List (Nat × Obj)} (hG : Gl w0) (hF : FR w0 [] bs_ w) {a b : Nat} (i : Nat) (ha : bs_[i]? = some (a, .cells #[.int .i64 3, .string (bs [49]), .slice none 0 0, .slice none 0 0, .int .i64 3, .string (bs [50]), .slice none 0 0, .slice none 0 0, .int .i64 3, .string (bs [51]), .slice none 0 0, .slice none 0 0] 27)) (j : Nat) (hb : bs_[j]? = some (b, .cells #[.int .i64 3, .string (bs [49]), .slice none 0 0, .slice none 0 0, .int .i64 3, .string (bs [51]), .slice none 0 0, .slice none 0 0] 27)) :
    Calls prog 11 #[.slice (some ⟨a, 0, none⟩) 3 3, .slice (some ⟨b, 0, none⟩) 2 2] w (Rd fun v w' => ∃ (Az : Option Addr) (cz : Nat), v = .tuple #[.slice Az 2 cz, .int .i64 1, .int .i64 0] ∧ Rep (fun _ => True) w' (Kh (Mc [(0, 0), (2, 1)])) [.slice Az 2 cz] ∧ Same [] w w') := by
  have hx : RX w0 [] w [.slice (Dd YR)] [.slice (some ⟨a, 0, none⟩) 3 3] := hF.rowX (ids := []) i ha (RX.append (ds := [_]) (RX.num [49] Ga) (RX.append (ds := [_]) (RX.num [50] Ga) (RX.num [51] Ga))) Ga rfl by_Om
  have hy : RX w0 [] w [.slice (Dd ZR)] [.slice (some ⟨b, 0, none⟩) 2 2] := hF.rowX (ids := []) j hb (RX.append (ds := [_]) (RX.num [49] Ga) (RX.num [51] Ga)) Ga rfl by_Om
  have h := M8 _ _ w (hG.ext hF.same) YR ZR _ _ 3 2 hx.rep hy.rep (fun z hz => by simp only [YR, List.mem_cons, List.not_mem_nil, or_false] at hz; rcases hz with rfl | rfl | rfl <;> exact X9 _) (fun z hz => by simp only [ZR, List.mem_cons, List.not_mem_nil, or_false] at hz; rcases hz with rfl | rfl <;> exact X9 _) _ _ rfl rfl Hr.2.2.1 Hr.2.2.2
  rw [Hr.1, Hr.2.1] at h
  exact Zg h fun v w' ⟨Az, cz, hv, hr, hs⟩ => ⟨Az, cz, hv, hr.weaken fun _ _ _ => trivial, hs⟩
theorem Um {w0 w : World} {bs_ : List (Nat × Obj)} (hF : FR w0 [] bs_ w) {b : Nat} (m : List (Nat × Nat)) (hm : ∀ z ∈ m, z.1 ≤ 1000 ∧ z.2 ≤ 1000) (hl : m.length ≤ 1000) (i : Nat) (hb : bs_[i]? = some (b, .cells (Xv (Mc m)).toArray 49)) : Rep (VR w0 [] w) w (Kh (Mc m)) [.slice (some ⟨b, 0, none⟩) m.length m.length] :=
  (hF.rowX (ids := []) i hb (RX.plain fun _ => Zq fun z hz => by obtain ⟨y, hy, rfl⟩ := List.mem_map.1 hz; have := hm y hy; simp only; omega) Ga (by simp [Mc]) by_Om).rep
theorem Lk {w0 w : World} {bs_ : List (Nat × Obj)} (hF : FR w0 [] bs_ w) {b : Nat} (l : List Int) (hm : ∀ z ∈ l, -1000 ≤ z ∧ z ≤ 1000) (hl : l.length ≤ 1000) (i : Nat) (hb : bs_[i]? = some (b, .cells (l.map fun s => Value.int .i64 s).toArray 3)) : Rep (VR w0 [] w) w (.slice (l.map Ze)) [.slice (some ⟨b, 0, none⟩) l.length l.length] :=
  (hF.rowX (ids := []) i hb (RX.plain fun _ => Ok fun z hz => by have := hm z hz; omega) Ga Ga by_Om).rep
theorem JF (w0 : World) (hG : Gl w0) : Calls prog 8 #[] w0 (Rd fun v w' => v = .bool true ∧ Same [] w0 w') := by
 refine Ma func8 rfl ntmps8 Jb (TK) ?_
 have hF := FR.start w0 []
 refine Ka (Ca (Ec rfl) (Cc ?_))
 refine Pb hF (Kf (v' := .agg #[.int .i64 3, .string (bs [49]), .slice none 0 0, .slice none 0 0]) (F9 1 by_Om by_Om _ (hG.ext hF.same)) Ib) (Eb W9 rfl rfl) ?_
 clear hF; intro w hF
 refine Bj hF zeroValue27 sizeOf27 rfl ?_
 clear hF; rintro b1 w hb1 hF -
 refine Ea (Ia ?_)
 refine Uf (zs := []) (.free 0 (.free 4 (.act 1 (.act 2 (.alt 3 (.act 5 (.act 6 (.act 7 (.free 8 (.free 9 (.free 10 (.free 11 (.free 12 (.free 13 (.free 14 .nil)))))))))) (.act 5 (.alt 3 (.act 6 (.act 7 (.free 8 (.free 9 (.free 10 (.free 11 (.free 12 (.free 13 (.free 14 .nil))))))))) (.act 6 (.act 3 (.act 7 (.free 8 (.free 9 (.free 10 (.free 11 (.free 12 (.free 13 (.free 14 .nil))))))))))))))))) hF ?_
 clear hF; intro w hF
 refine Zo rfl (Bm isAgg27 sizeOf27 rfl C0 0 rfl rfl) (Zo rfl (Bm isAgg27 sizeOf27 rfl C0 0 rfl rfl) ?_)
 refine Qn hF (Kf (v' := .agg #[.int .i64 3, .string (bs [50]), .slice none 0 0, .slice none 0 0]) (F9 2 by_Om by_Om _ (hG.ext hF.same)) Ib) rfl (Eb W9 rfl rfl) ?_
 clear hF; intro w hF
 refine ⟨hF, ?_⟩
 refine Qn hF (Kf (v' := .agg #[.int .i64 3, .string (bs [51]), .slice none 0 0, .slice none 0 0]) (F9 3 by_Om by_Om _ (hG.ext hF.same)) Ib) rfl (Eb W9 rfl rfl) ?_
 clear hF; intro w hF
 refine ⟨hF, ?_⟩
 refine Kj ?_ ?_
 refine Wd 3 rfl hF (Ua (cs := #[.int .i64 3, .string (bs [49]), .slice none 0 0, .slice none 0 0, .int .i64 3, .string (bs [50]), .slice none 0 0, .slice none 0 0, .int .i64 3, .string (bs [51]), .slice none 0 0, .slice none 0 0]) underlying22 sizeOf27 zeroValue27 Ra Ra Ib) ?_
 clear hF; rintro b2 w hb2 hF -
 refine ⟨hF.drop 1, ?_⟩
 refine Qn hF (Kf (v' := .agg #[.int .i64 3, .string (bs [51]), .slice none 0 0, .slice none 0 0]) (F9 3 by_Om by_Om _ (hG.ext hF.same)) Ib) rfl (Eb W9 rfl rfl) ?_
 clear hF; intro w hF
 refine ⟨hF.drop 1, ?_⟩
 refine Wd 2 rfl hF (Ua (cs := #[.int .i64 3, .string (bs [49]), .slice none 0 0, .slice none 0 0, .int .i64 3, .string (bs [51]), .slice none 0 0, .slice none 0 0]) underlying22 sizeOf27 zeroValue27 Ra Ra Ib) ?_
 clear hF; rintro b3 w hb3 hF -
 refine ⟨hF.drop 2, ?_⟩
 refine Ke rfl (Xs hG hF 1 rfl 0 rfl) (Qb I9 rfl rfl rfl) ?_
 rintro _ w ⟨Az, cz, rfl, hM, hE⟩
 replace hF := hF.ext hE
 clear hE
 refine ⟨hF.drop 2, ?_⟩
 refine Xa rfl (Xm rfl) (Xa rfl (TA rfl rfl) (Xa rfl (Zn rfl rfl) (Xa rfl (Zn rfl rfl) (Xa rfl (Il rfl) (Xa rfl (Gc rfl) (Xa rfl (Gc rfl) (Jc (Ha (Ka ?_)))))))))
 refine Ja (w' := w) (v := .agg #[.int .i64 0, .int .i64 1]) Ib ?_
 refine Xf 1 hF (Ua (cs := #[.int .i64 0, .int .i64 1]) underlying29 sizeOf49 zeroValue49 Ra Ra Ib) ?_
 clear hF; intro b4 w hb4 hF hE
 replace hM := hM.ext hE
 clear hE
 refine Db (H0 _ _ 2 [(0, 1)] _ _ (Um hF [(0, 1)] Ga Ga 0 rfl) Ib by_Om Ga 3 by_Om Ga) (Dc PJ rfl rfl rfl rfl) ?_
 rintro _ w ⟨og, rfl, hO, hE⟩
 replace hM := hM.ext hE
 replace hF := hF.ext hE
 have hO : Rep (fun _ => True) w (E0 3 (Ff 2 3 [(0, 1)] 0 fun _ => [])) [.slice (some ⟨og, 0, none⟩) 3 3] := hO.weaken fun _ _ _ => trivial
 clear hE
 refine Ca (Xm rfl) (Ca (TA rfl rfl) (Ca (Ar rfl rfl) (Ca (Il rfl) (Ca (Ec rfl) (Cc (Ca (Md rfl) ?_))))))
 refine Db (Rv _ _ 3 [(0, 0), (2, 1)] _ _ hM Ib by_Om Ga Ga) (Qb GK rfl rfl rfl) ?_
 rintro _ w ⟨oi, rfl, hI, hE⟩
 replace hM := hM.ext hE
 replace hO := hO.ext hE
 replace hF := hF.ext hE
 have hI : Rep (fun _ => True) w (.slice (((List.range 3).map (Tu [(0, 0), (2, 1)] fun _ => -1)).map Ze)) [.slice (some ⟨oi, 0, none⟩) 3 3] := hI.weaken fun _ _ _ => trivial
 clear hE
 refine Ca (Xm rfl) (Ca (TA rfl rfl) (Ca (Ar rfl rfl) (Ca (Il rfl) (Ca (Ec rfl) (Cc (Ca (Hb rfl) (Ja (v := .bool true) (Ld (Rg rfl rfl) Ra) (Ca (Fd rfl) (Ca (Hb rfl) (Ja (v := .bool true) (Ld (Rg rfl rfl) Ra) ?_))))))))))
 refine Ca (Oc rfl rfl) (Ca (Fd rfl) (Ca (Md rfl) ?_))
 refine Ja (w' := w) (v := .agg #[.int .i64 0, .int .i64 0]) Ib ?_
 refine Ja (w' := w) (v := .agg #[.int .i64 2, .int .i64 1]) Ib ?_
 refine Xf 2 hF (Ua (cs := #[.int .i64 0, .int .i64 0, .int .i64 2, .int .i64 1]) underlying29 sizeOf49 zeroValue49 Ra Ra Ib) ?_
 clear hF; intro b5 w hb5 hF hE
 replace hM := hM.ext hE
 replace hO := hO.ext hE
 replace hI := hI.ext hE
 clear hE
 refine Db (Kf (v' := .bool true) (Vy _ _ _ (Mc [(0, 0), (2, 1)]) (Mc [(0, 0), (2, 1)]) _ _ _ _ hM (Um hF [(0, 0), (2, 1)] Ga Ga 0 rfl)) (congrArg Value.bool (decide_eq_true rfl))) (Qb MK rfl rfl rfl) ?_
 rintro _ w ⟨rfl, hE⟩
 replace hF := hF.ext hE
 replace hM := hM.ext hE
 replace hO := hO.ext hE
 replace hI := hI.ext hE
 clear hE
 refine Ca (Oc rfl rfl) (Ca (Fd rfl) (Ca (Fd rfl) (Ca (Oc rfl rfl) (Ca (Fd rfl) (Ca (Md rfl) (Ca (Qe underlying36 rfl) (Ja (v := .bool true) (Ld (Rg rfl rfl) Ra) (Ca (Oc rfl rfl) (Ca (Fd rfl) (Ca (Md rfl) ?_))))))))))
 obtain ⟨ad0, B0, e0, hA0, hk0, hx0⟩ := hO.gap_elem (i := 0) by_Om
 refine Ja (v := .pointer (some (ad0.add (0 * 1)))) (Oa (i := 0) Qh rfl hA0 rfl Ra Ra) (Ja (v := .slice (B0) (((Ff 2 3 [(0, 1)] 0 fun _ => []) 0).length) (e0)) (Cb isAgg39 rfl hk0) ?_)
 refine Xf 1 hF (Ua (cs := #[.int .i64 0]) underlying39 sizeOf3 zeroValue3 Ra Ra Ib) ?_
 clear hF; intro b6 w hb6 hF hE
 replace hM := hM.ext hE
 replace hO := hO.ext hE
 replace hI := hI.ext hE
 replace hx0 := hx0.ext hE
 clear hE
 have hy_ := Lk (b := b6) hF [0] Ga Ga 0 rfl
 refine Db (show Calls prog 19 #[.slice (B0) (((Ff 2 3 [(0, 1)] 0 fun _ => []) 0).length) (e0), .slice (some ⟨b6, 0, none⟩) 1 1] w (Rd fun v w' => v = .bool true ∧ Same [] w w') from Kf (v' := .bool true) (Ep _ _ _ ((Ff 2 3 [(0, 1)] 0 fun _ => []) 0) [0] _ _ _ _ hx0 hy_) (congrArg Value.bool (decide_eq_true Ib))) (Qb Ft rfl rfl rfl) ?_
 rintro _ w ⟨rfl, hE⟩
 replace hF := hF.ext hE
 replace hM := hM.ext hE
 replace hO := hO.ext hE
 replace hI := hI.ext hE
 replace hx0 := hx0.ext hE
 clear hE
 clear hy_
 refine Ca (Oc rfl rfl) (Ca (Fd rfl) (Ca (Md rfl) ?_))
 obtain ⟨ad1, B1, e1, hA1, hk1, hx1⟩ := hO.gap_elem (i := 1) by_Om
 refine Ja (v := .pointer (some (ad1.add (1 * 1)))) (Oa (i := 1) Qh rfl hA1 rfl Ra Ra) (Ja (v := .slice (B1) (((Ff 2 3 [(0, 1)] 0 fun _ => []) 1).length) (e1)) (Cb isAgg39 rfl hk1) (Ca (Qe underlying39 rfl) ?_))
 refine Ja (v := .bool true) (Ld (Rg rfl rfl) Ib) ?_
 refine Ca (Oc rfl rfl) (Ca (Fd rfl) (Ca (Md rfl) ?_))
 obtain ⟨ad2, B2, e2, hA2, hk2, hx2⟩ := hO.gap_elem (i := 2) by_Om
 refine Ja (v := .pointer (some (ad2.add (2 * 1)))) (Oa (i := 2) Qh rfl hA2 rfl Ra Ra) (Ja (v := .slice (B2) (((Ff 2 3 [(0, 1)] 0 fun _ => []) 2).length) (e2)) (Cb isAgg39 rfl hk2) ?_)
 refine Xf 1 hF (Ua (cs := #[.int .i64 2]) underlying39 sizeOf3 zeroValue3 Ra Ra Ib) ?_
 clear hF; intro b7 w hb7 hF hE
 replace hM := hM.ext hE
 replace hO := hO.ext hE
 replace hI := hI.ext hE
 replace hx2 := hx2.ext hE
 clear hE
 have hy_ := Lk (b := b7) hF [2] Ga Ga 0 rfl
 refine Db (show Calls prog 19 #[.slice (B2) (((Ff 2 3 [(0, 1)] 0 fun _ => []) 2).length) (e2), .slice (some ⟨b7, 0, none⟩) 1 1] w (Rd fun v w' => v = .bool true ∧ Same [] w w') from Kf (v' := .bool true) (Ep _ _ _ ((Ff 2 3 [(0, 1)] 0 fun _ => []) 2) [2] _ _ _ _ hx2 hy_) (congrArg Value.bool (decide_eq_true Ib))) (Qb Ft rfl rfl rfl) ?_
 rintro _ w ⟨rfl, hE⟩
 replace hF := hF.ext hE
 replace hM := hM.ext hE
 replace hO := hO.ext hE
 replace hI := hI.ext hE
 replace hx2 := hx2.ext hE
 clear hE
 clear hy_
 refine Ca (Oc rfl rfl) (Ca (Fd rfl) (Ca (Fd rfl) (Ca (Oc rfl rfl) (Ca (Fd rfl) (Ca (Md rfl) ?_)))))
 refine Xf 3 hF (Ua (cs := #[.int .i64 0, .int .i64 ((-1)), .int .i64 1]) underlying39 sizeOf3 zeroValue3 Ra Ra Ib) ?_
 clear hF; intro b8 w hb8 hF hE
 replace hM := hM.ext hE
 replace hO := hO.ext hE
 replace hI := hI.ext hE
 replace hx2 := hx2.ext hE
 clear hE
 have hy_ := Lk (b := b8) hF [0, -1, 1] Ga Ga 0 rfl
 refine Db (show Calls prog 19 #[.slice (some ⟨oi, 0, none⟩) 3 3, .slice (some ⟨b8, 0, none⟩) 3 3] w (Rd fun v w' => v = .bool true ∧ Same [] w w') from Kf (v' := .bool true) (Ep _ _ _ ((List.range 3).map (Tu [(0, 0), (2, 1)] fun _ => -1)) [0, -1, 1] _ _ _ _ hI hy_) (congrArg Value.bool (decide_eq_true Ib))) (Qb Ft rfl rfl rfl) ?_
 rintro _ w ⟨rfl, hE⟩
 replace hF := hF.ext hE
 replace hM := hM.ext hE
 replace hO := hO.ext hE
 replace hI := hI.ext hE
 replace hx2 := hx2.ext hE
 clear hE
 clear hy_
 refine Ca (Oc rfl rfl) (Ca (Ec rfl) (Ea ?_))
 refine Xd (v := .bool true) rfl rfl ?_
 exact ⟨rfl, hF.same⟩
 refine Qn hF (Kf (v' := .agg #[.int .i64 3, .string (bs [51]), .slice none 0 0, .slice none 0 0]) (F9 3 by_Om by_Om _ (hG.ext hF.same)) Ib) rfl (Eb W9 rfl rfl) ?_
 clear hF; intro w hF
 refine ⟨hF, ?_⟩
 refine Kj ?_ ?_
 refine Wd 3 rfl hF (Ua (cs := #[.int .i64 3, .string (bs [49]), .slice none 0 0, .slice none 0 0, .int .i64 3, .string (bs [50]), .slice none 0 0, .slice none 0 0, .int .i64 3, .string (bs [51]), .slice none 0 0, .slice none 0 0]) underlying22 sizeOf27 zeroValue27 Ra Ra Ib) ?_
 clear hF; rintro b9 w hb9 hF -
 refine ⟨hF.drop 1, ?_⟩
 refine Wd 2 rfl hF (Ua (cs := #[.int .i64 3, .string (bs [49]), .slice none 0 0, .slice none 0 0, .int .i64 3, .string (bs [51]), .slice none 0 0, .slice none 0 0]) underlying22 sizeOf27 zeroValue27 Ra Ra Ib) ?_
 clear hF; rintro b10 w hb10 hF -
 refine ⟨hF.drop 2, ?_⟩
 refine Ke rfl (Xs hG hF 1 rfl 0 rfl) (Qb I9 rfl rfl rfl) ?_
 rintro _ w ⟨Az, cz, rfl, hM, hE⟩
 replace hF := hF.ext hE
 clear hE
 refine ⟨hF.drop 2, ?_⟩
 refine Xa rfl (Xm rfl) (Xa rfl (TA rfl rfl) (Xa rfl (Zn rfl rfl) (Xa rfl (Zn rfl rfl) (Xa rfl (Il rfl) (Xa rfl (Gc rfl) (Xa rfl (Gc rfl) (Jc (Ha (Ka ?_)))))))))
 refine Ja (w' := w) (v := .agg #[.int .i64 0, .int .i64 1]) Ib ?_
 refine Xf 1 hF (Ua (cs := #[.int .i64 0, .int .i64 1]) underlying29 sizeOf49 zeroValue49 Ra Ra Ib) ?_
 clear hF; intro b11 w hb11 hF hE
 replace hM := hM.ext hE
 clear hE
 refine Db (H0 _ _ 2 [(0, 1)] _ _ (Um hF [(0, 1)] Ga Ga 0 rfl) Ib by_Om Ga 3 by_Om Ga) (Dc PJ rfl rfl rfl rfl) ?_
 rintro _ w ⟨og, rfl, hO, hE⟩
 replace hM := hM.ext hE
 replace hF := hF.ext hE
 have hO : Rep (fun _ => True) w (E0 3 (Ff 2 3 [(0, 1)] 0 fun _ => [])) [.slice (some ⟨og, 0, none⟩) 3 3] := hO.weaken fun _ _ _ => trivial
 clear hE
 refine Ca (Xm rfl) (Ca (TA rfl rfl) (Ca (Ar rfl rfl) (Ca (Il rfl) (Ca (Ec rfl) (Cc (Ca (Md rfl) ?_))))))
 refine Db (Rv _ _ 3 [(0, 0), (2, 1)] _ _ hM Ib by_Om Ga Ga) (Qb GK rfl rfl rfl) ?_
 rintro _ w ⟨oi, rfl, hI, hE⟩
 replace hM := hM.ext hE
 replace hO := hO.ext hE
 replace hF := hF.ext hE
 have hI : Rep (fun _ => True) w (.slice (((List.range 3).map (Tu [(0, 0), (2, 1)] fun _ => -1)).map Ze)) [.slice (some ⟨oi, 0, none⟩) 3 3] := hI.weaken fun _ _ _ => trivial
 clear hE
 refine Ca (Xm rfl) (Ca (TA rfl rfl) (Ca (Ar rfl rfl) (Ca (Il rfl) (Ca (Ec rfl) (Cc (Ca (Hb rfl) (Ja (v := .bool true) (Ld (Rg rfl rfl) Ra) (Ca (Fd rfl) (Ca (Hb rfl) (Ja (v := .bool true) (Ld (Rg rfl rfl) Ra) ?_))))))))))
 refine Ca (Oc rfl rfl) (Ca (Fd rfl) (Ca (Md rfl) ?_))
 refine Ja (w' := w) (v := .agg #[.int .i64 0, .int .i64 0]) Ib ?_
 refine Ja (w' := w) (v := .agg #[.int .i64 2, .int .i64 1]) Ib ?_
 refine Xf 2 hF (Ua (cs := #[.int .i64 0, .int .i64 0, .int .i64 2, .int .i64 1]) underlying29 sizeOf49 zeroValue49 Ra Ra Ib) ?_
 clear hF; intro b12 w hb12 hF hE
 replace hM := hM.ext hE
 replace hO := hO.ext hE
 replace hI := hI.ext hE
 clear hE
 refine Db (Kf (v' := .bool true) (Vy _ _ _ (Mc [(0, 0), (2, 1)]) (Mc [(0, 0), (2, 1)]) _ _ _ _ hM (Um hF [(0, 0), (2, 1)] Ga Ga 0 rfl)) (congrArg Value.bool (decide_eq_true rfl))) (Qb MK rfl rfl rfl) ?_
 rintro _ w ⟨rfl, hE⟩
 replace hF := hF.ext hE
 replace hM := hM.ext hE
 replace hO := hO.ext hE
 replace hI := hI.ext hE
 clear hE
 refine Ca (Oc rfl rfl) (Ca (Fd rfl) (Ca (Fd rfl) (Ca (Oc rfl rfl) (Ca (Fd rfl) (Ca (Md rfl) (Ca (Qe underlying36 rfl) (Ja (v := .bool true) (Ld (Rg rfl rfl) Ra) (Ca (Oc rfl rfl) (Ca (Fd rfl) (Ca (Md rfl) ?_))))))))))
 obtain ⟨ad3, B3, e3, hA3, hk3, hx3⟩ := hO.gap_elem (i := 0) by_Om
 refine Ja (v := .pointer (some (ad3.add (0 * 1)))) (Oa (i := 0) Qh rfl hA3 rfl Ra Ra) (Ja (v := .slice (B3) (((Ff 2 3 [(0, 1)] 0 fun _ => []) 0).length) (e3)) (Cb isAgg39 rfl hk3) ?_)
 refine Xf 1 hF (Ua (cs := #[.int .i64 0]) underlying39 sizeOf3 zeroValue3 Ra Ra Ib) ?_
 clear hF; intro b13 w hb13 hF hE
 replace hM := hM.ext hE
 replace hO := hO.ext hE
 replace hI := hI.ext hE
 replace hx3 := hx3.ext hE
 clear hE
 have hy_ := Lk (b := b13) hF [0] Ga Ga 0 rfl
 refine Db (show Calls prog 19 #[.slice (B3) (((Ff 2 3 [(0, 1)] 0 fun _ => []) 0).length) (e3), .slice (some ⟨b13, 0, none⟩) 1 1] w (Rd fun v w' => v = .bool true ∧ Same [] w w') from Kf (v' := .bool true) (Ep _ _ _ ((Ff 2 3 [(0, 1)] 0 fun _ => []) 0) [0] _ _ _ _ hx3 hy_) (congrArg Value.bool (decide_eq_true Ib))) (Qb Ft rfl rfl rfl) ?_
 rintro _ w ⟨rfl, hE⟩
 replace hF := hF.ext hE
 replace hM := hM.ext hE
 replace hO := hO.ext hE
 replace hI := hI.ext hE
 replace hx3 := hx3.ext hE
 clear hE
 clear hy_
 refine Ca (Oc rfl rfl) (Ca (Fd rfl) (Ca (Md rfl) ?_))
 obtain ⟨ad4, B4, e4, hA4, hk4, hx4⟩ := hO.gap_elem (i := 1) by_Om
 refine Ja (v := .pointer (some (ad4.add (1 * 1)))) (Oa (i := 1) Qh rfl hA4 rfl Ra Ra) (Ja (v := .slice (B4) (((Ff 2 3 [(0, 1)] 0 fun _ => []) 1).length) (e4)) (Cb isAgg39 rfl hk4) (Ca (Qe underlying39 rfl) ?_))
 refine Ja (v := .bool true) (Ld (Rg rfl rfl) Ib) ?_
 refine Ca (Oc rfl rfl) (Ca (Fd rfl) (Ca (Md rfl) ?_))
 obtain ⟨ad5, B5, e5, hA5, hk5, hx5⟩ := hO.gap_elem (i := 2) by_Om
 refine Ja (v := .pointer (some (ad5.add (2 * 1)))) (Oa (i := 2) Qh rfl hA5 rfl Ra Ra) (Ja (v := .slice (B5) (((Ff 2 3 [(0, 1)] 0 fun _ => []) 2).length) (e5)) (Cb isAgg39 rfl hk5) ?_)
 refine Xf 1 hF (Ua (cs := #[.int .i64 2]) underlying39 sizeOf3 zeroValue3 Ra Ra Ib) ?_
 clear hF; intro b14 w hb14 hF hE
 replace hM := hM.ext hE
 replace hO := hO.ext hE
 replace hI := hI.ext hE
 replace hx5 := hx5.ext hE
 clear hE
 have hy_ := Lk (b := b14) hF [2] Ga Ga 0 rfl
 refine Db (show Calls prog 19 #[.slice (B5) (((Ff 2 3 [(0, 1)] 0 fun _ => []) 2).length) (e5), .slice (some ⟨b14, 0, none⟩) 1 1] w (Rd fun v w' => v = .bool true ∧ Same [] w w') from Kf (v' := .bool true) (Ep _ _ _ ((Ff 2 3 [(0, 1)] 0 fun _ => []) 2) [2] _ _ _ _ hx5 hy_) (congrArg Value.bool (decide_eq_true Ib))) (Qb Ft rfl rfl rfl) ?_
 rintro _ w ⟨rfl, hE⟩
 replace hF := hF.ext hE
 replace hM := hM.ext hE
 replace hO := hO.ext hE
 replace hI := hI.ext hE
 replace hx5 := hx5.ext hE
 clear hE
 clear hy_
 refine Ca (Oc rfl rfl) (Ca (Fd rfl) (Ca (Fd rfl) (Ca (Oc rfl rfl) (Ca (Fd rfl) (Ca (Md rfl) ?_)))))
 refine Xf 3 hF (Ua (cs := #[.int .i64 0, .int .i64 ((-1)), .int .i64 1]) underlying39 sizeOf3 zeroValue3 Ra Ra Ib) ?_
 clear hF; intro b15 w hb15 hF hE
 replace hM := hM.ext hE
 replace hO := hO.ext hE
 replace hI := hI.ext hE
 replace hx5 := hx5.ext hE
 clear hE
 have hy_ := Lk (b := b15) hF [0, -1, 1] Ga Ga 0 rfl
 refine Db (show Calls prog 19 #[.slice (some ⟨oi, 0, none⟩) 3 3, .slice (some ⟨b15, 0, none⟩) 3 3] w (Rd fun v w' => v = .bool true ∧ Same [] w w') from Kf (v' := .bool true) (Ep _ _ _ ((List.range 3).map (Tu [(0, 0), (2, 1)] fun _ => -1)) [0, -1, 1] _ _ _ _ hI hy_) (congrArg Value.bool (decide_eq_true Ib))) (Qb Ft rfl rfl rfl) ?_
 rintro _ w ⟨rfl, hE⟩
 replace hF := hF.ext hE
 replace hM := hM.ext hE
 replace hO := hO.ext hE
 replace hI := hI.ext hE
 replace hx5 := hx5.ext hE
 clear hE
 clear hy_
 refine Ca (Oc rfl rfl) (Ca (Ec rfl) (Ea ?_))
 refine Xd (v := .bool true) rfl rfl ?_
 exact ⟨rfl, hF.same⟩
 refine Wd 2 rfl hF (Ua (cs := #[.int .i64 3, .string (bs [49]), .slice none 0 0, .slice none 0 0, .int .i64 3, .string (bs [51]), .slice none 0 0, .slice none 0 0]) underlying22 sizeOf27 zeroValue27 Ra Ra Ib) ?_
 clear hF; rintro b16 w hb16 hF -
 refine ⟨hF.drop 1, ?_⟩
 refine Wd 3 rfl hF (Ua (cs := #[.int .i64 3, .string (bs [49]), .slice none 0 0, .slice none 0 0, .int .i64 3, .string (bs [50]), .slice none 0 0, .slice none 0 0, .int .i64 3, .string (bs [51]), .slice none 0 0, .slice none 0 0]) underlying22 sizeOf27 zeroValue27 Ra Ra Ib) ?_
 clear hF; rintro b17 w hb17 hF -
 refine ⟨hF.drop 2, ?_⟩
 refine Ke rfl (Xs hG hF 0 rfl 1 rfl) (Qb I9 rfl rfl rfl) ?_
 rintro _ w ⟨Az, cz, rfl, hM, hE⟩
 replace hF := hF.ext hE
 clear hE
 refine ⟨hF.drop 2, ?_⟩
 refine Xa rfl (Xm rfl) (Xa rfl (TA rfl rfl) (Xa rfl (Zn rfl rfl) (Xa rfl (Zn rfl rfl) (Xa rfl (Il rfl) (Xa rfl (Gc rfl) (Xa rfl (Gc rfl) (Jc (Ha (Ka ?_)))))))))
 refine Ja (w' := w) (v := .agg #[.int .i64 0, .int .i64 1]) Ib ?_
 refine Xf 1 hF (Ua (cs := #[.int .i64 0, .int .i64 1]) underlying29 sizeOf49 zeroValue49 Ra Ra Ib) ?_
 clear hF; intro b18 w hb18 hF hE
 replace hM := hM.ext hE
 clear hE
 refine Db (H0 _ _ 2 [(0, 1)] _ _ (Um hF [(0, 1)] Ga Ga 0 rfl) Ib by_Om Ga 3 by_Om Ga) (Dc PJ rfl rfl rfl rfl) ?_
 rintro _ w ⟨og, rfl, hO, hE⟩
 replace hM := hM.ext hE
 replace hF := hF.ext hE
 have hO : Rep (fun _ => True) w (E0 3 (Ff 2 3 [(0, 1)] 0 fun _ => [])) [.slice (some ⟨og, 0, none⟩) 3 3] := hO.weaken fun _ _ _ => trivial
 clear hE
 refine Ca (Xm rfl) (Ca (TA rfl rfl) (Ca (Ar rfl rfl) (Ca (Il rfl) (Ca (Ec rfl) (Cc (Ca (Md rfl) ?_))))))
 refine Db (Rv _ _ 3 [(0, 0), (2, 1)] _ _ hM Ib by_Om Ga Ga) (Qb GK rfl rfl rfl) ?_
 rintro _ w ⟨oi, rfl, hI, hE⟩
 replace hM := hM.ext hE
 replace hO := hO.ext hE
 replace hF := hF.ext hE
 have hI : Rep (fun _ => True) w (.slice (((List.range 3).map (Tu [(0, 0), (2, 1)] fun _ => -1)).map Ze)) [.slice (some ⟨oi, 0, none⟩) 3 3] := hI.weaken fun _ _ _ => trivial
 clear hE
 refine Ca (Xm rfl) (Ca (TA rfl rfl) (Ca (Ar rfl rfl) (Ca (Il rfl) (Ca (Ec rfl) (Cc (Ca (Hb rfl) (Ja (v := .bool true) (Ld (Rg rfl rfl) Ra) (Ca (Fd rfl) (Ca (Hb rfl) (Ja (v := .bool true) (Ld (Rg rfl rfl) Ra) ?_))))))))))
 refine Ca (Oc rfl rfl) (Ca (Fd rfl) (Ca (Md rfl) ?_))
 refine Ja (w' := w) (v := .agg #[.int .i64 0, .int .i64 0]) Ib ?_
 refine Ja (w' := w) (v := .agg #[.int .i64 2, .int .i64 1]) Ib ?_
 refine Xf 2 hF (Ua (cs := #[.int .i64 0, .int .i64 0, .int .i64 2, .int .i64 1]) underlying29 sizeOf49 zeroValue49 Ra Ra Ib) ?_
 clear hF; intro b19 w hb19 hF hE
 replace hM := hM.ext hE
 replace hO := hO.ext hE
 replace hI := hI.ext hE
 clear hE
 refine Db (Kf (v' := .bool true) (Vy _ _ _ (Mc [(0, 0), (2, 1)]) (Mc [(0, 0), (2, 1)]) _ _ _ _ hM (Um hF [(0, 0), (2, 1)] Ga Ga 0 rfl)) (congrArg Value.bool (decide_eq_true rfl))) (Qb MK rfl rfl rfl) ?_
 rintro _ w ⟨rfl, hE⟩
 replace hF := hF.ext hE
 replace hM := hM.ext hE
 replace hO := hO.ext hE
 replace hI := hI.ext hE
 clear hE
 refine Ca (Oc rfl rfl) (Ca (Fd rfl) (Ca (Fd rfl) (Ca (Oc rfl rfl) (Ca (Fd rfl) (Ca (Md rfl) (Ca (Qe underlying36 rfl) (Ja (v := .bool true) (Ld (Rg rfl rfl) Ra) (Ca (Oc rfl rfl) (Ca (Fd rfl) (Ca (Md rfl) ?_))))))))))
 obtain ⟨ad6, B6, e6, hA6, hk6, hx6⟩ := hO.gap_elem (i := 0) by_Om
 refine Ja (v := .pointer (some (ad6.add (0 * 1)))) (Oa (i := 0) Qh rfl hA6 rfl Ra Ra) (Ja (v := .slice (B6) (((Ff 2 3 [(0, 1)] 0 fun _ => []) 0).length) (e6)) (Cb isAgg39 rfl hk6) ?_)
 refine Xf 1 hF (Ua (cs := #[.int .i64 0]) underlying39 sizeOf3 zeroValue3 Ra Ra Ib) ?_
 clear hF; intro b20 w hb20 hF hE
 replace hM := hM.ext hE
 replace hO := hO.ext hE
 replace hI := hI.ext hE
 replace hx6 := hx6.ext hE
 clear hE
 have hy_ := Lk (b := b20) hF [0] Ga Ga 0 rfl
 refine Db (show Calls prog 19 #[.slice (B6) (((Ff 2 3 [(0, 1)] 0 fun _ => []) 0).length) (e6), .slice (some ⟨b20, 0, none⟩) 1 1] w (Rd fun v w' => v = .bool true ∧ Same [] w w') from Kf (v' := .bool true) (Ep _ _ _ ((Ff 2 3 [(0, 1)] 0 fun _ => []) 0) [0] _ _ _ _ hx6 hy_) (congrArg Value.bool (decide_eq_true Ib))) (Qb Ft rfl rfl rfl) ?_
 rintro _ w ⟨rfl, hE⟩
 replace hF := hF.ext hE
 replace hM := hM.ext hE
 replace hO := hO.ext hE
 replace hI := hI.ext hE
 replace hx6 := hx6.ext hE
 clear hE
 clear hy_
 refine Ca (Oc rfl rfl) (Ca (Fd rfl) (Ca (Md rfl) ?_))
 obtain ⟨ad7, B7, e7, hA7, hk7, hx7⟩ := hO.gap_elem (i := 1) by_Om
 refine Ja (v := .pointer (some (ad7.add (1 * 1)))) (Oa (i := 1) Qh rfl hA7 rfl Ra Ra) (Ja (v := .slice (B7) (((Ff 2 3 [(0, 1)] 0 fun _ => []) 1).length) (e7)) (Cb isAgg39 rfl hk7) (Ca (Qe underlying39 rfl) ?_))
 refine Ja (v := .bool true) (Ld (Rg rfl rfl) Ib) ?_
 refine Ca (Oc rfl rfl) (Ca (Fd rfl) (Ca (Md rfl) ?_))
 obtain ⟨ad8, B8, e8, hA8, hk8, hx8⟩ := hO.gap_elem (i := 2) by_Om
 refine Ja (v := .pointer (some (ad8.add (2 * 1)))) (Oa (i := 2) Qh rfl hA8 rfl Ra Ra) (Ja (v := .slice (B8) (((Ff 2 3 [(0, 1)] 0 fun _ => []) 2).length) (e8)) (Cb isAgg39 rfl hk8) ?_)
 refine Xf 1 hF (Ua (cs := #[.int .i64 2]) underlying39 sizeOf3 zeroValue3 Ra Ra Ib) ?_
 clear hF; intro b21 w hb21 hF hE
 replace hM := hM.ext hE
 replace hO := hO.ext hE
 replace hI := hI.ext hE
 replace hx8 := hx8.ext hE
 clear hE
 have hy_ := Lk (b := b21) hF [2] Ga Ga 0 rfl
 refine Db (show Calls prog 19 #[.slice (B8) (((Ff 2 3 [(0, 1)] 0 fun _ => []) 2).length) (e8), .slice (some ⟨b21, 0, none⟩) 1 1] w (Rd fun v w' => v = .bool true ∧ Same [] w w') from Kf (v' := .bool true) (Ep _ _ _ ((Ff 2 3 [(0, 1)] 0 fun _ => []) 2) [2] _ _ _ _ hx8 hy_) (congrArg Value.bool (decide_eq_true Ib))) (Qb Ft rfl rfl rfl) ?_
 rintro _ w ⟨rfl, hE⟩
 replace hF := hF.ext hE
 replace hM := hM.ext hE
 replace hO := hO.ext hE
 replace hI := hI.ext hE
 replace hx8 := hx8.ext hE
 clear hE
 clear hy_
 refine Ca (Oc rfl rfl) (Ca (Fd rfl) (Ca (Fd rfl) (Ca (Oc rfl rfl) (Ca (Fd rfl) (Ca (Md rfl) ?_)))))
 refine Xf 3 hF (Ua (cs := #[.int .i64 0, .int .i64 ((-1)), .int .i64 1]) underlying39 sizeOf3 zeroValue3 Ra Ra Ib) ?_
 clear hF; intro b22 w hb22 hF hE
 replace hM := hM.ext hE
 replace hO := hO.ext hE
 replace hI := hI.ext hE
 replace hx8 := hx8.ext hE
 clear hE
 have hy_ := Lk (b := b22) hF [0, -1, 1] Ga Ga 0 rfl
 refine Db (show Calls prog 19 #[.slice (some ⟨oi, 0, none⟩) 3 3, .slice (some ⟨b22, 0, none⟩) 3 3] w (Rd fun v w' => v = .bool true ∧ Same [] w w') from Kf (v' := .bool true) (Ep _ _ _ ((List.range 3).map (Tu [(0, 0), (2, 1)] fun _ => -1)) [0, -1, 1] _ _ _ _ hI hy_) (congrArg Value.bool (decide_eq_true Ib))) (Qb Ft rfl rfl rfl) ?_
 rintro _ w ⟨rfl, hE⟩
 replace hF := hF.ext hE
 replace hM := hM.ext hE
 replace hO := hO.ext hE
 replace hI := hI.ext hE
 replace hx8 := hx8.ext hE
 clear hE
 clear hy_
 refine Ca (Oc rfl rfl) (Ca (Ec rfl) (Ea ?_))
 refine Xd (v := .bool true) rfl rfl ?_
 exact ⟨rfl, hF.same⟩
end Go.Scarf
