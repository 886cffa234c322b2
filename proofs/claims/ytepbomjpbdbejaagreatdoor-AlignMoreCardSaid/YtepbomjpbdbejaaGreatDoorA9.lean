/- A part of the proof. -/
import Derived.Test.YtepbomjpbdbejaaGreatDoorA7
import Derived.Test.YtepbomjpbdbejaaGreatDoorW19
import Derived.Test.YtepbomjpbdbejaaGreatDoorW10
set_option linter.all false
set_option maxHeartbeats 8000000
set_option maxRecDepth 10000
namespace Go.Scarf
open Go.RowKit Go.Proofs Go.Proofs.Tryz
theorem Rep.gap_elem {S : Nat → Prop} {w : World} {N : Nat} {gp : Nat → List Int} {A : Option Addr} {len c : Nat} (h : Rep S w (Py N gp) [.slice A len c]) {i : Nat} (hi : i < N) :
    ∃ ad B e, A = some ad ∧ w.cell? (ad.add (i * 1)) = some (.slice B (gp i).length e) ∧ Rep S w (.slice ((gp i).map Kf)) [.slice B (gp i).length e] := by
  obtain ⟨ad, v, hA, hc, hr⟩ := Rep.elem1 h (fun d hd => by obtain ⟨k, _, rfl⟩ := List.mem_map.1 hd; rfl) (i := i) (by simpa using hi)
  rw [List.getElem_map, List.getElem_range] at hr
  obtain ⟨B, e, he⟩ := Rep.slice_is hr
  rw [List.length_map] at he
  subst he
  exact ⟨ad, B, e, hA, hc, hr⟩
def RG (q : UInt8) : Tree := .node 3 [q] [] []
def WK : List Tree := [RG 49, RG 50, RG 51]
def VK : List Tree := [RG 49, RG 51]
theorem J4 (q : UInt8) : Ei (RG q) := ⟨U4 _ (by simp [RG, Qg, Qi]), by simp [RG, Kc, Rc], by simp [RG, Ye, Ui, Ik]⟩
theorem Rp : Yx 0 0 (WK.map Nc) (VK.map Nc) = Cd [(0, 0), (2, 1)] ∧ al Bk pN (WK.map Nc) (VK.map Nc) = 1 ∧ Hh WK = 0 ∧ Hh VK = 0 := ⟨by kernel_rfl, by kernel_rfl, by kernel_rfl, by kernel_rfl⟩
theorem Kq {w0 w : World} {bs_ : List (Nat × Obj)} (hG : Gl w0) (hF : FR w0 [] bs_ w) {a b : Nat} (i : Nat) (ha : bs_[i]? = some (a, .cells #[.int .i64 3, .string (bs [49]), .slice none 0 0, .slice none 0 0, .int .i64 3, .string (bs [50]), .slice none 0 0, .slice none 0 0, .int .i64 3, .string (bs [51]), .slice none 0 0, .slice none 0 0] 27)) (j : Nat) (hb : bs_[j]? = some (b, .cells #[.int .i64 3, .string (bs [49]), .slice none 0 0, .slice none 0 0, .int .i64 3, .string (bs [51]), .slice none 0 0, .slice none 0 0] 27)) :
    Calls prog 11 #[.slice (some ⟨a, 0, none⟩) 3 3, .slice (some ⟨b, 0, none⟩) 2 2] w (Nd fun v w' => ∃ (Az : Option Addr) (cz : Nat), v = .tuple #[.slice Az 2 cz, .int .i64 1, .int .i64 0] ∧ Rep (fun _ => True) w' (Ek (Cd [(0, 0), (2, 1)])) [.slice Az 2 cz] ∧ Same [] w w') := by
  have hx : RX w0 [] w [.slice (Vc WK)] [.slice (some ⟨a, 0, none⟩) 3 3] := hF.rowX (ids := []) i ha (RX.append (ds := [_]) (RX.num [49] Fa) (RX.append (ds := [_]) (RX.num [50] Fa) (RX.num [51] Fa))) Fa rfl by_Om
  have hy : RX w0 [] w [.slice (Vc VK)] [.slice (some ⟨b, 0, none⟩) 2 2] := hF.rowX (ids := []) j hb (RX.append (ds := [_]) (RX.num [49] Fa) (RX.num [51] Fa)) Fa rfl by_Om
  have h := Y4 _ _ w (hG.ext hF.same) WK VK _ _ 3 2 hx.rep hy.rep (fun z hz => by simp only [WK, List.mem_cons, List.not_mem_nil, or_false] at hz; rcases hz with rfl | rfl | rfl <;> exact J4 _) (fun z hz => by simp only [VK, List.mem_cons, List.not_mem_nil, or_false] at hz; rcases hz with rfl | rfl <;> exact J4 _) _ _ rfl rfl Rp.2.2.1 Rp.2.2.2
  rw [Rp.1, Rp.2.1] at h
  exact Fh h fun v w' ⟨Az, cz, hv, hr, hs⟩ => ⟨Az, cz, hv, hr.weaken fun _ _ _ => trivial, hs⟩
theorem Uk {w0 w : World} {bs_ : List (Nat × Obj)} (hF : FR w0 [] bs_ w) {b : Nat} (m : List (Nat × Nat)) (hm : ∀ z ∈ m, z.1 ≤ 1000 ∧ z.2 ≤ 1000) (hl : m.length ≤ 1000) (i : Nat) (hb : bs_[i]? = some (b, .cells (At (Cd m)).toArray 49)) : Rep (XK w0 [] w) w (Ek (Cd m)) [.slice (some ⟨b, 0, none⟩) m.length m.length] :=
  (hF.rowX (ids := []) i hb (RX.plain fun _ => Jp fun z hz => by obtain ⟨y, hy, rfl⟩ := List.mem_map.1 hz; have := hm y hy; simp only; omega) Fa (by simp [Cd]) by_Om).rep
theorem Oi {w0 w : World} {bs_ : List (Nat × Obj)} (hF : FR w0 [] bs_ w) {b : Nat} (l : List Int) (hm : ∀ z ∈ l, -1000 ≤ z ∧ z ≤ 1000) (hl : l.length ≤ 1000) (i : Nat) (hb : bs_[i]? = some (b, .cells (l.map fun s => Value.int .i64 s).toArray 3)) : Rep (XK w0 [] w) w (.slice (l.map Kf)) [.slice (some ⟨b, 0, none⟩) l.length l.length] :=
  (hF.rowX (ids := []) i hb (RX.plain fun _ => Vk fun z hz => by have := hm z hz; omega) Fa Fa by_Om).rep
theorem BA (w0 : World) (hG : Gl w0) : Calls prog 8 #[] w0 (Nd fun v w' => v = .bool true ∧ Same [] w0 w') := by
 refine Ka func8 rfl ntmps8 Kb (CD) ?_
 have hF := FR.start w0 []
 refine Ma (Ca (Gc rfl) (Dc ?_))
 refine Pb hF (Vf (v' := .agg #[.int .i64 3, .string (bs [49]), .slice none 0 0, .slice none 0 0]) (L5 1 by_Om by_Om _ (hG.ext hF.same)) Eb) (Fb R3 rfl rfl) ?_
 clear hF; intro w hF
 refine Hm hF zeroValue27 sizeOf27 rfl ?_
 clear hF; rintro b1 w hb1 hF -
 refine Ga (Ia ?_)
 refine Bg (zs := []) (.free 0 (.free 4 (.act 1 (.act 2 (.alt 3 (.act 5 (.act 6 (.act 7 (.free 8 (.free 9 (.free 10 (.free 11 (.free 12 (.free 13 (.free 14 .nil)))))))))) (.act 5 (.alt 3 (.act 6 (.act 7 (.free 8 (.free 9 (.free 10 (.free 11 (.free 12 (.free 13 (.free 14 .nil))))))))) (.act 6 (.act 3 (.act 7 (.free 8 (.free 9 (.free 10 (.free 11 (.free 12 (.free 13 (.free 14 .nil))))))))))))))))) hF ?_
 clear hF; intro w hF
 refine Eo rfl (Pk isAgg27 sizeOf27 rfl C0 0 rfl rfl) (Eo rfl (Pk isAgg27 sizeOf27 rfl C0 0 rfl rfl) ?_)
 refine Kp hF (Vf (v' := .agg #[.int .i64 3, .string (bs [50]), .slice none 0 0, .slice none 0 0]) (L5 2 by_Om by_Om _ (hG.ext hF.same)) Eb) rfl (Fb R3 rfl rfl) ?_
 clear hF; intro w hF
 refine ⟨hF, ?_⟩
 refine Kp hF (Vf (v' := .agg #[.int .i64 3, .string (bs [51]), .slice none 0 0, .slice none 0 0]) (L5 3 by_Om by_Om _ (hG.ext hF.same)) Eb) rfl (Fb R3 rfl rfl) ?_
 clear hF; intro w hF
 refine ⟨hF, ?_⟩
 refine Bh ?_ ?_
 refine Sc 3 rfl hF (Sa (cs := #[.int .i64 3, .string (bs [49]), .slice none 0 0, .slice none 0 0, .int .i64 3, .string (bs [50]), .slice none 0 0, .slice none 0 0, .int .i64 3, .string (bs [51]), .slice none 0 0, .slice none 0 0]) underlying22 sizeOf27 zeroValue27 Pa Pa Eb) ?_
 clear hF; rintro b2 w hb2 hF -
 refine ⟨hF.drop 1, ?_⟩
 refine Kp hF (Vf (v' := .agg #[.int .i64 3, .string (bs [51]), .slice none 0 0, .slice none 0 0]) (L5 3 by_Om by_Om _ (hG.ext hF.same)) Eb) rfl (Fb R3 rfl rfl) ?_
 clear hF; intro w hF
 refine ⟨hF.drop 1, ?_⟩
 refine Sc 2 rfl hF (Sa (cs := #[.int .i64 3, .string (bs [49]), .slice none 0 0, .slice none 0 0, .int .i64 3, .string (bs [51]), .slice none 0 0, .slice none 0 0]) underlying22 sizeOf27 zeroValue27 Pa Pa Eb) ?_
 clear hF; rintro b3 w hb3 hF -
 refine ⟨hF.drop 2, ?_⟩
 refine Ie rfl (Kq hG hF 1 rfl 0 rfl) (Mb Iv rfl rfl rfl) ?_
 rintro _ w ⟨Az, cz, rfl, hM, hE⟩
 replace hF := hF.ext hE
 clear hE
 refine ⟨hF.drop 2, ?_⟩
 refine Cb rfl (Wm rfl) (Cb rfl (C5 rfl rfl) (Cb rfl (Co rfl rfl) (Cb rfl (Co rfl rfl) (Cb rfl (Ji rfl) (Cb rfl (Ic rfl) (Cb rfl (Ic rfl) (Bc (Ha (Ma ?_)))))))))
 refine Ja (w' := w) (v := .agg #[.int .i64 0, .int .i64 1]) Eb ?_
 refine Se 1 hF (Sa (cs := #[.int .i64 0, .int .i64 1]) underlying29 sizeOf49 zeroValue49 Pa Pa Eb) ?_
 clear hF; intro b4 w hb4 hF hE
 replace hM := hM.ext hE
 clear hE
 refine Ya (Aw _ _ 2 [(0, 1)] _ _ (Uk hF [(0, 1)] Fa Fa 0 rfl) Eb by_Om Fa 3 by_Om Fa) (Fc XB rfl rfl rfl rfl) ?_
 rintro _ w ⟨og, rfl, hO, hE⟩
 replace hM := hM.ext hE
 replace hF := hF.ext hE
 have hO : Rep (fun _ => True) w (Py 3 (Re 2 3 [(0, 1)] 0 fun _ => [])) [.slice (some ⟨og, 0, none⟩) 3 3] := hO.weaken fun _ _ _ => trivial
 clear hE
 refine Ca (Wm rfl) (Ca (C5 rfl rfl) (Ca (Wq rfl rfl) (Ca (Ji rfl) (Ca (Gc rfl) (Dc (Ca (Ge rfl) ?_))))))
 refine Ya (Xs _ _ 3 [(0, 0), (2, 1)] _ _ hM Eb by_Om Fa Fa) (Mb NF rfl rfl rfl) ?_
 rintro _ w ⟨oi, rfl, hI, hE⟩
 replace hM := hM.ext hE
 replace hO := hO.ext hE
 replace hF := hF.ext hE
 have hI : Rep (fun _ => True) w (.slice (((List.range 3).map (Br [(0, 0), (2, 1)] fun _ => -1)).map Kf)) [.slice (some ⟨oi, 0, none⟩) 3 3] := hI.weaken fun _ _ _ => trivial
 clear hE
 refine Ca (Wm rfl) (Ca (C5 rfl rfl) (Ca (Wq rfl rfl) (Ca (Ji rfl) (Ca (Gc rfl) (Dc (Ca (Ib rfl) (Ja (v := .bool true) (Ce (Wh rfl rfl) Pa) (Ca (Ld rfl) (Ca (Ib rfl) (Ja (v := .bool true) (Ce (Wh rfl rfl) Pa) ?_))))))))))
 refine Ca (Wc rfl rfl) (Ca (Ld rfl) (Ca (Ge rfl) ?_))
 refine Ja (w' := w) (v := .agg #[.int .i64 0, .int .i64 0]) Eb ?_
 refine Ja (w' := w) (v := .agg #[.int .i64 2, .int .i64 1]) Eb ?_
 refine Se 2 hF (Sa (cs := #[.int .i64 0, .int .i64 0, .int .i64 2, .int .i64 1]) underlying29 sizeOf49 zeroValue49 Pa Pa Eb) ?_
 clear hF; intro b5 w hb5 hF hE
 replace hM := hM.ext hE
 replace hO := hO.ext hE
 replace hI := hI.ext hE
 clear hE
 refine Ya (Vf (v' := .bool true) (Lv _ _ _ (Cd [(0, 0), (2, 1)]) (Cd [(0, 0), (2, 1)]) _ _ _ _ hM (Uk hF [(0, 0), (2, 1)] Fa Fa 0 rfl)) (congrArg Value.bool (decide_eq_true rfl))) (Mb BE rfl rfl rfl) ?_
 rintro _ w ⟨rfl, hE⟩
 replace hF := hF.ext hE
 replace hM := hM.ext hE
 replace hO := hO.ext hE
 replace hI := hI.ext hE
 clear hE
 refine Ca (Wc rfl rfl) (Ca (Ld rfl) (Ca (Ld rfl) (Ca (Wc rfl rfl) (Ca (Ld rfl) (Ca (Ge rfl) (Ca (Mf underlying36 rfl) (Ja (v := .bool true) (Ce (Wh rfl rfl) Pa) (Ca (Wc rfl rfl) (Ca (Ld rfl) (Ca (Ge rfl) ?_))))))))))
 obtain ⟨ad0, B0, e0, hA0, hk0, hx0⟩ := hO.gap_elem (i := 0) by_Om
 refine Ja (v := .pointer (some (ad0.add (0 * 1)))) (Ra (i := 0) Vg rfl hA0 rfl Pa Pa) (Ja (v := .slice (B0) (((Re 2 3 [(0, 1)] 0 fun _ => []) 0).length) (e0)) (Db isAgg39 rfl hk0) ?_)
 refine Se 1 hF (Sa (cs := #[.int .i64 0]) underlying39 sizeOf3 zeroValue3 Pa Pa Eb) ?_
 clear hF; intro b6 w hb6 hF hE
 replace hM := hM.ext hE
 replace hO := hO.ext hE
 replace hI := hI.ext hE
 replace hx0 := hx0.ext hE
 clear hE
 have hy_ := Oi (b := b6) hF [0] Fa Fa 0 rfl
 refine Ya (show Calls prog 19 #[.slice (B0) (((Re 2 3 [(0, 1)] 0 fun _ => []) 0).length) (e0), .slice (some ⟨b6, 0, none⟩) 1 1] w (Nd fun v w' => v = .bool true ∧ Same [] w w') from Vf (v' := .bool true) (Vn _ _ _ ((Re 2 3 [(0, 1)] 0 fun _ => []) 0) [0] _ _ _ _ hx0 hy_) (congrArg Value.bool (decide_eq_true Eb))) (Mb Mr rfl rfl rfl) ?_
 rintro _ w ⟨rfl, hE⟩
 replace hF := hF.ext hE
 replace hM := hM.ext hE
 replace hO := hO.ext hE
 replace hI := hI.ext hE
 replace hx0 := hx0.ext hE
 clear hE
 clear hy_
 refine Ca (Wc rfl rfl) (Ca (Ld rfl) (Ca (Ge rfl) ?_))
 obtain ⟨ad1, B1, e1, hA1, hk1, hx1⟩ := hO.gap_elem (i := 1) by_Om
 refine Ja (v := .pointer (some (ad1.add (1 * 1)))) (Ra (i := 1) Vg rfl hA1 rfl Pa Pa) (Ja (v := .slice (B1) (((Re 2 3 [(0, 1)] 0 fun _ => []) 1).length) (e1)) (Db isAgg39 rfl hk1) (Ca (Mf underlying39 rfl) ?_))
 refine Ja (v := .bool true) (Ce (Wh rfl rfl) Eb) ?_
 refine Ca (Wc rfl rfl) (Ca (Ld rfl) (Ca (Ge rfl) ?_))
 obtain ⟨ad2, B2, e2, hA2, hk2, hx2⟩ := hO.gap_elem (i := 2) by_Om
 refine Ja (v := .pointer (some (ad2.add (2 * 1)))) (Ra (i := 2) Vg rfl hA2 rfl Pa Pa) (Ja (v := .slice (B2) (((Re 2 3 [(0, 1)] 0 fun _ => []) 2).length) (e2)) (Db isAgg39 rfl hk2) ?_)
 refine Se 1 hF (Sa (cs := #[.int .i64 2]) underlying39 sizeOf3 zeroValue3 Pa Pa Eb) ?_
 clear hF; intro b7 w hb7 hF hE
 replace hM := hM.ext hE
 replace hO := hO.ext hE
 replace hI := hI.ext hE
 replace hx2 := hx2.ext hE
 clear hE
 have hy_ := Oi (b := b7) hF [2] Fa Fa 0 rfl
 refine Ya (show Calls prog 19 #[.slice (B2) (((Re 2 3 [(0, 1)] 0 fun _ => []) 2).length) (e2), .slice (some ⟨b7, 0, none⟩) 1 1] w (Nd fun v w' => v = .bool true ∧ Same [] w w') from Vf (v' := .bool true) (Vn _ _ _ ((Re 2 3 [(0, 1)] 0 fun _ => []) 2) [2] _ _ _ _ hx2 hy_) (congrArg Value.bool (decide_eq_true Eb))) (Mb Mr rfl rfl rfl) ?_
 rintro _ w ⟨rfl, hE⟩
 replace hF := hF.ext hE
 replace hM := hM.ext hE
 replace hO := hO.ext hE
 replace hI := hI.ext hE
 replace hx2 := hx2.ext hE
 clear hE
 clear hy_
 refine Ca (Wc rfl rfl) (Ca (Ld rfl) (Ca (Ld rfl) (Ca (Wc rfl rfl) (Ca (Ld rfl) (Ca (Ge rfl) ?_)))))
 refine Se 3 hF (Sa (cs := #[.int .i64 0, .int .i64 ((-1)), .int .i64 1]) underlying39 sizeOf3 zeroValue3 Pa Pa Eb) ?_
 clear hF; intro b8 w hb8 hF hE
 replace hM := hM.ext hE
 replace hO := hO.ext hE
 replace hI := hI.ext hE
 replace hx2 := hx2.ext hE
 clear hE
 have hy_ := Oi (b := b8) hF [0, -1, 1] Fa Fa 0 rfl
 refine Ya (show Calls prog 19 #[.slice (some ⟨oi, 0, none⟩) 3 3, .slice (some ⟨b8, 0, none⟩) 3 3] w (Nd fun v w' => v = .bool true ∧ Same [] w w') from Vf (v' := .bool true) (Vn _ _ _ ((List.range 3).map (Br [(0, 0), (2, 1)] fun _ => -1)) [0, -1, 1] _ _ _ _ hI hy_) (congrArg Value.bool (decide_eq_true Eb))) (Mb Mr rfl rfl rfl) ?_
 rintro _ w ⟨rfl, hE⟩
 replace hF := hF.ext hE
 replace hM := hM.ext hE
 replace hO := hO.ext hE
 replace hI := hI.ext hE
 replace hx2 := hx2.ext hE
 clear hE
 clear hy_
 refine Ca (Wc rfl rfl) (Ca (Gc rfl) (Ga ?_))
 refine Wd (v := .bool true) rfl rfl ?_
 exact ⟨rfl, hF.same⟩
 refine Kp hF (Vf (v' := .agg #[.int .i64 3, .string (bs [51]), .slice none 0 0, .slice none 0 0]) (L5 3 by_Om by_Om _ (hG.ext hF.same)) Eb) rfl (Fb R3 rfl rfl) ?_
 clear hF; intro w hF
 refine ⟨hF, ?_⟩
 refine Bh ?_ ?_
 refine Sc 3 rfl hF (Sa (cs := #[.int .i64 3, .string (bs [49]), .slice none 0 0, .slice none 0 0, .int .i64 3, .string (bs [50]), .slice none 0 0, .slice none 0 0, .int .i64 3, .string (bs [51]), .slice none 0 0, .slice none 0 0]) underlying22 sizeOf27 zeroValue27 Pa Pa Eb) ?_
 clear hF; rintro b9 w hb9 hF -
 refine ⟨hF.drop 1, ?_⟩
 refine Sc 2 rfl hF (Sa (cs := #[.int .i64 3, .string (bs [49]), .slice none 0 0, .slice none 0 0, .int .i64 3, .string (bs [51]), .slice none 0 0, .slice none 0 0]) underlying22 sizeOf27 zeroValue27 Pa Pa Eb) ?_
 clear hF; rintro b10 w hb10 hF -
 refine ⟨hF.drop 2, ?_⟩
 refine Ie rfl (Kq hG hF 1 rfl 0 rfl) (Mb Iv rfl rfl rfl) ?_
 rintro _ w ⟨Az, cz, rfl, hM, hE⟩
 replace hF := hF.ext hE
 clear hE
 refine ⟨hF.drop 2, ?_⟩
 refine Cb rfl (Wm rfl) (Cb rfl (C5 rfl rfl) (Cb rfl (Co rfl rfl) (Cb rfl (Co rfl rfl) (Cb rfl (Ji rfl) (Cb rfl (Ic rfl) (Cb rfl (Ic rfl) (Bc (Ha (Ma ?_)))))))))
 refine Ja (w' := w) (v := .agg #[.int .i64 0, .int .i64 1]) Eb ?_
 refine Se 1 hF (Sa (cs := #[.int .i64 0, .int .i64 1]) underlying29 sizeOf49 zeroValue49 Pa Pa Eb) ?_
 clear hF; intro b11 w hb11 hF hE
 replace hM := hM.ext hE
 clear hE
 refine Ya (Aw _ _ 2 [(0, 1)] _ _ (Uk hF [(0, 1)] Fa Fa 0 rfl) Eb by_Om Fa 3 by_Om Fa) (Fc XB rfl rfl rfl rfl) ?_
 rintro _ w ⟨og, rfl, hO, hE⟩
 replace hM := hM.ext hE
 replace hF := hF.ext hE
 have hO : Rep (fun _ => True) w (Py 3 (Re 2 3 [(0, 1)] 0 fun _ => [])) [.slice (some ⟨og, 0, none⟩) 3 3] := hO.weaken fun _ _ _ => trivial
 clear hE
 refine Ca (Wm rfl) (Ca (C5 rfl rfl) (Ca (Wq rfl rfl) (Ca (Ji rfl) (Ca (Gc rfl) (Dc (Ca (Ge rfl) ?_))))))
 refine Ya (Xs _ _ 3 [(0, 0), (2, 1)] _ _ hM Eb by_Om Fa Fa) (Mb NF rfl rfl rfl) ?_
 rintro _ w ⟨oi, rfl, hI, hE⟩
 replace hM := hM.ext hE
 replace hO := hO.ext hE
 replace hF := hF.ext hE
 have hI : Rep (fun _ => True) w (.slice (((List.range 3).map (Br [(0, 0), (2, 1)] fun _ => -1)).map Kf)) [.slice (some ⟨oi, 0, none⟩) 3 3] := hI.weaken fun _ _ _ => trivial
 clear hE
 refine Ca (Wm rfl) (Ca (C5 rfl rfl) (Ca (Wq rfl rfl) (Ca (Ji rfl) (Ca (Gc rfl) (Dc (Ca (Ib rfl) (Ja (v := .bool true) (Ce (Wh rfl rfl) Pa) (Ca (Ld rfl) (Ca (Ib rfl) (Ja (v := .bool true) (Ce (Wh rfl rfl) Pa) ?_))))))))))
 refine Ca (Wc rfl rfl) (Ca (Ld rfl) (Ca (Ge rfl) ?_))
 refine Ja (w' := w) (v := .agg #[.int .i64 0, .int .i64 0]) Eb ?_
 refine Ja (w' := w) (v := .agg #[.int .i64 2, .int .i64 1]) Eb ?_
 refine Se 2 hF (Sa (cs := #[.int .i64 0, .int .i64 0, .int .i64 2, .int .i64 1]) underlying29 sizeOf49 zeroValue49 Pa Pa Eb) ?_
 clear hF; intro b12 w hb12 hF hE
 replace hM := hM.ext hE
 replace hO := hO.ext hE
 replace hI := hI.ext hE
 clear hE
 refine Ya (Vf (v' := .bool true) (Lv _ _ _ (Cd [(0, 0), (2, 1)]) (Cd [(0, 0), (2, 1)]) _ _ _ _ hM (Uk hF [(0, 0), (2, 1)] Fa Fa 0 rfl)) (congrArg Value.bool (decide_eq_true rfl))) (Mb BE rfl rfl rfl) ?_
 rintro _ w ⟨rfl, hE⟩
 replace hF := hF.ext hE
 replace hM := hM.ext hE
 replace hO := hO.ext hE
 replace hI := hI.ext hE
 clear hE
 refine Ca (Wc rfl rfl) (Ca (Ld rfl) (Ca (Ld rfl) (Ca (Wc rfl rfl) (Ca (Ld rfl) (Ca (Ge rfl) (Ca (Mf underlying36 rfl) (Ja (v := .bool true) (Ce (Wh rfl rfl) Pa) (Ca (Wc rfl rfl) (Ca (Ld rfl) (Ca (Ge rfl) ?_))))))))))
 obtain ⟨ad3, B3, e3, hA3, hk3, hx3⟩ := hO.gap_elem (i := 0) by_Om
 refine Ja (v := .pointer (some (ad3.add (0 * 1)))) (Ra (i := 0) Vg rfl hA3 rfl Pa Pa) (Ja (v := .slice (B3) (((Re 2 3 [(0, 1)] 0 fun _ => []) 0).length) (e3)) (Db isAgg39 rfl hk3) ?_)
 refine Se 1 hF (Sa (cs := #[.int .i64 0]) underlying39 sizeOf3 zeroValue3 Pa Pa Eb) ?_
 clear hF; intro b13 w hb13 hF hE
 replace hM := hM.ext hE
 replace hO := hO.ext hE
 replace hI := hI.ext hE
 replace hx3 := hx3.ext hE
 clear hE
 have hy_ := Oi (b := b13) hF [0] Fa Fa 0 rfl
 refine Ya (show Calls prog 19 #[.slice (B3) (((Re 2 3 [(0, 1)] 0 fun _ => []) 0).length) (e3), .slice (some ⟨b13, 0, none⟩) 1 1] w (Nd fun v w' => v = .bool true ∧ Same [] w w') from Vf (v' := .bool true) (Vn _ _ _ ((Re 2 3 [(0, 1)] 0 fun _ => []) 0) [0] _ _ _ _ hx3 hy_) (congrArg Value.bool (decide_eq_true Eb))) (Mb Mr rfl rfl rfl) ?_
 rintro _ w ⟨rfl, hE⟩
 replace hF := hF.ext hE
 replace hM := hM.ext hE
 replace hO := hO.ext hE
 replace hI := hI.ext hE
 replace hx3 := hx3.ext hE
 clear hE
 clear hy_
 refine Ca (Wc rfl rfl) (Ca (Ld rfl) (Ca (Ge rfl) ?_))
 obtain ⟨ad4, B4, e4, hA4, hk4, hx4⟩ := hO.gap_elem (i := 1) by_Om
 refine Ja (v := .pointer (some (ad4.add (1 * 1)))) (Ra (i := 1) Vg rfl hA4 rfl Pa Pa) (Ja (v := .slice (B4) (((Re 2 3 [(0, 1)] 0 fun _ => []) 1).length) (e4)) (Db isAgg39 rfl hk4) (Ca (Mf underlying39 rfl) ?_))
 refine Ja (v := .bool true) (Ce (Wh rfl rfl) Eb) ?_
 refine Ca (Wc rfl rfl) (Ca (Ld rfl) (Ca (Ge rfl) ?_))
 obtain ⟨ad5, B5, e5, hA5, hk5, hx5⟩ := hO.gap_elem (i := 2) by_Om
 refine Ja (v := .pointer (some (ad5.add (2 * 1)))) (Ra (i := 2) Vg rfl hA5 rfl Pa Pa) (Ja (v := .slice (B5) (((Re 2 3 [(0, 1)] 0 fun _ => []) 2).length) (e5)) (Db isAgg39 rfl hk5) ?_)
 refine Se 1 hF (Sa (cs := #[.int .i64 2]) underlying39 sizeOf3 zeroValue3 Pa Pa Eb) ?_
 clear hF; intro b14 w hb14 hF hE
 replace hM := hM.ext hE
 replace hO := hO.ext hE
 replace hI := hI.ext hE
 replace hx5 := hx5.ext hE
 clear hE
 have hy_ := Oi (b := b14) hF [2] Fa Fa 0 rfl
 refine Ya (show Calls prog 19 #[.slice (B5) (((Re 2 3 [(0, 1)] 0 fun _ => []) 2).length) (e5), .slice (some ⟨b14, 0, none⟩) 1 1] w (Nd fun v w' => v = .bool true ∧ Same [] w w') from Vf (v' := .bool true) (Vn _ _ _ ((Re 2 3 [(0, 1)] 0 fun _ => []) 2) [2] _ _ _ _ hx5 hy_) (congrArg Value.bool (decide_eq_true Eb))) (Mb Mr rfl rfl rfl) ?_
 rintro _ w ⟨rfl, hE⟩
 replace hF := hF.ext hE
 replace hM := hM.ext hE
 replace hO := hO.ext hE
 replace hI := hI.ext hE
 replace hx5 := hx5.ext hE
 clear hE
 clear hy_
 refine Ca (Wc rfl rfl) (Ca (Ld rfl) (Ca (Ld rfl) (Ca (Wc rfl rfl) (Ca (Ld rfl) (Ca (Ge rfl) ?_)))))
 refine Se 3 hF (Sa (cs := #[.int .i64 0, .int .i64 ((-1)), .int .i64 1]) underlying39 sizeOf3 zeroValue3 Pa Pa Eb) ?_
 clear hF; intro b15 w hb15 hF hE
 replace hM := hM.ext hE
 replace hO := hO.ext hE
 replace hI := hI.ext hE
 replace hx5 := hx5.ext hE
 clear hE
 have hy_ := Oi (b := b15) hF [0, -1, 1] Fa Fa 0 rfl
 refine Ya (show Calls prog 19 #[.slice (some ⟨oi, 0, none⟩) 3 3, .slice (some ⟨b15, 0, none⟩) 3 3] w (Nd fun v w' => v = .bool true ∧ Same [] w w') from Vf (v' := .bool true) (Vn _ _ _ ((List.range 3).map (Br [(0, 0), (2, 1)] fun _ => -1)) [0, -1, 1] _ _ _ _ hI hy_) (congrArg Value.bool (decide_eq_true Eb))) (Mb Mr rfl rfl rfl) ?_
 rintro _ w ⟨rfl, hE⟩
 replace hF := hF.ext hE
 replace hM := hM.ext hE
 replace hO := hO.ext hE
 replace hI := hI.ext hE
 replace hx5 := hx5.ext hE
 clear hE
 clear hy_
 refine Ca (Wc rfl rfl) (Ca (Gc rfl) (Ga ?_))
 refine Wd (v := .bool true) rfl rfl ?_
 exact ⟨rfl, hF.same⟩
 refine Sc 2 rfl hF (Sa (cs := #[.int .i64 3, .string (bs [49]), .slice none 0 0, .slice none 0 0, .int .i64 3, .string (bs [51]), .slice none 0 0, .slice none 0 0]) underlying22 sizeOf27 zeroValue27 Pa Pa Eb) ?_
 clear hF; rintro b16 w hb16 hF -
 refine ⟨hF.drop 1, ?_⟩
 refine Sc 3 rfl hF (Sa (cs := #[.int .i64 3, .string (bs [49]), .slice none 0 0, .slice none 0 0, .int .i64 3, .string (bs [50]), .slice none 0 0, .slice none 0 0, .int .i64 3, .string (bs [51]), .slice none 0 0, .slice none 0 0]) underlying22 sizeOf27 zeroValue27 Pa Pa Eb) ?_
 clear hF; rintro b17 w hb17 hF -
 refine ⟨hF.drop 2, ?_⟩
 refine Ie rfl (Kq hG hF 0 rfl 1 rfl) (Mb Iv rfl rfl rfl) ?_
 rintro _ w ⟨Az, cz, rfl, hM, hE⟩
 replace hF := hF.ext hE
 clear hE
 refine ⟨hF.drop 2, ?_⟩
 refine Cb rfl (Wm rfl) (Cb rfl (C5 rfl rfl) (Cb rfl (Co rfl rfl) (Cb rfl (Co rfl rfl) (Cb rfl (Ji rfl) (Cb rfl (Ic rfl) (Cb rfl (Ic rfl) (Bc (Ha (Ma ?_)))))))))
 refine Ja (w' := w) (v := .agg #[.int .i64 0, .int .i64 1]) Eb ?_
 refine Se 1 hF (Sa (cs := #[.int .i64 0, .int .i64 1]) underlying29 sizeOf49 zeroValue49 Pa Pa Eb) ?_
 clear hF; intro b18 w hb18 hF hE
 replace hM := hM.ext hE
 clear hE
 refine Ya (Aw _ _ 2 [(0, 1)] _ _ (Uk hF [(0, 1)] Fa Fa 0 rfl) Eb by_Om Fa 3 by_Om Fa) (Fc XB rfl rfl rfl rfl) ?_
 rintro _ w ⟨og, rfl, hO, hE⟩
 replace hM := hM.ext hE
 replace hF := hF.ext hE
 have hO : Rep (fun _ => True) w (Py 3 (Re 2 3 [(0, 1)] 0 fun _ => [])) [.slice (some ⟨og, 0, none⟩) 3 3] := hO.weaken fun _ _ _ => trivial
 clear hE
 refine Ca (Wm rfl) (Ca (C5 rfl rfl) (Ca (Wq rfl rfl) (Ca (Ji rfl) (Ca (Gc rfl) (Dc (Ca (Ge rfl) ?_))))))
 refine Ya (Xs _ _ 3 [(0, 0), (2, 1)] _ _ hM Eb by_Om Fa Fa) (Mb NF rfl rfl rfl) ?_
 rintro _ w ⟨oi, rfl, hI, hE⟩
 replace hM := hM.ext hE
 replace hO := hO.ext hE
 replace hF := hF.ext hE
 have hI : Rep (fun _ => True) w (.slice (((List.range 3).map (Br [(0, 0), (2, 1)] fun _ => -1)).map Kf)) [.slice (some ⟨oi, 0, none⟩) 3 3] := hI.weaken fun _ _ _ => trivial
 clear hE
 refine Ca (Wm rfl) (Ca (C5 rfl rfl) (Ca (Wq rfl rfl) (Ca (Ji rfl) (Ca (Gc rfl) (Dc (Ca (Ib rfl) (Ja (v := .bool true) (Ce (Wh rfl rfl) Pa) (Ca (Ld rfl) (Ca (Ib rfl) (Ja (v := .bool true) (Ce (Wh rfl rfl) Pa) ?_))))))))))
 refine Ca (Wc rfl rfl) (Ca (Ld rfl) (Ca (Ge rfl) ?_))
 refine Ja (w' := w) (v := .agg #[.int .i64 0, .int .i64 0]) Eb ?_
 refine Ja (w' := w) (v := .agg #[.int .i64 2, .int .i64 1]) Eb ?_
 refine Se 2 hF (Sa (cs := #[.int .i64 0, .int .i64 0, .int .i64 2, .int .i64 1]) underlying29 sizeOf49 zeroValue49 Pa Pa Eb) ?_
 clear hF; intro b19 w hb19 hF hE
 replace hM := hM.ext hE
 replace hO := hO.ext hE
 replace hI := hI.ext hE
 clear hE
 refine Ya (Vf (v' := .bool true) (Lv _ _ _ (Cd [(0, 0), (2, 1)]) (Cd [(0, 0), (2, 1)]) _ _ _ _ hM (Uk hF [(0, 0), (2, 1)] Fa Fa 0 rfl)) (congrArg Value.bool (decide_eq_true rfl))) (Mb BE rfl rfl rfl) ?_
 rintro _ w ⟨rfl, hE⟩
 replace hF := hF.ext hE
 replace hM := hM.ext hE
 replace hO := hO.ext hE
 replace hI := hI.ext hE
 clear hE
 refine Ca (Wc rfl rfl) (Ca (Ld rfl) (Ca (Ld rfl) (Ca (Wc rfl rfl) (Ca (Ld rfl) (Ca (Ge rfl) (Ca (Mf underlying36 rfl) (Ja (v := .bool true) (Ce (Wh rfl rfl) Pa) (Ca (Wc rfl rfl) (Ca (Ld rfl) (Ca (Ge rfl) ?_))))))))))
 obtain ⟨ad6, B6, e6, hA6, hk6, hx6⟩ := hO.gap_elem (i := 0) by_Om
 refine Ja (v := .pointer (some (ad6.add (0 * 1)))) (Ra (i := 0) Vg rfl hA6 rfl Pa Pa) (Ja (v := .slice (B6) (((Re 2 3 [(0, 1)] 0 fun _ => []) 0).length) (e6)) (Db isAgg39 rfl hk6) ?_)
 refine Se 1 hF (Sa (cs := #[.int .i64 0]) underlying39 sizeOf3 zeroValue3 Pa Pa Eb) ?_
 clear hF; intro b20 w hb20 hF hE
 replace hM := hM.ext hE
 replace hO := hO.ext hE
 replace hI := hI.ext hE
 replace hx6 := hx6.ext hE
 clear hE
 have hy_ := Oi (b := b20) hF [0] Fa Fa 0 rfl
 refine Ya (show Calls prog 19 #[.slice (B6) (((Re 2 3 [(0, 1)] 0 fun _ => []) 0).length) (e6), .slice (some ⟨b20, 0, none⟩) 1 1] w (Nd fun v w' => v = .bool true ∧ Same [] w w') from Vf (v' := .bool true) (Vn _ _ _ ((Re 2 3 [(0, 1)] 0 fun _ => []) 0) [0] _ _ _ _ hx6 hy_) (congrArg Value.bool (decide_eq_true Eb))) (Mb Mr rfl rfl rfl) ?_
 rintro _ w ⟨rfl, hE⟩
 replace hF := hF.ext hE
 replace hM := hM.ext hE
 replace hO := hO.ext hE
 replace hI := hI.ext hE
 replace hx6 := hx6.ext hE
 clear hE
 clear hy_
 refine Ca (Wc rfl rfl) (Ca (Ld rfl) (Ca (Ge rfl) ?_))
 obtain ⟨ad7, B7, e7, hA7, hk7, hx7⟩ := hO.gap_elem (i := 1) by_Om
 refine Ja (v := .pointer (some (ad7.add (1 * 1)))) (Ra (i := 1) Vg rfl hA7 rfl Pa Pa) (Ja (v := .slice (B7) (((Re 2 3 [(0, 1)] 0 fun _ => []) 1).length) (e7)) (Db isAgg39 rfl hk7) (Ca (Mf underlying39 rfl) ?_))
 refine Ja (v := .bool true) (Ce (Wh rfl rfl) Eb) ?_
 refine Ca (Wc rfl rfl) (Ca (Ld rfl) (Ca (Ge rfl) ?_))
 obtain ⟨ad8, B8, e8, hA8, hk8, hx8⟩ := hO.gap_elem (i := 2) by_Om
 refine Ja (v := .pointer (some (ad8.add (2 * 1)))) (Ra (i := 2) Vg rfl hA8 rfl Pa Pa) (Ja (v := .slice (B8) (((Re 2 3 [(0, 1)] 0 fun _ => []) 2).length) (e8)) (Db isAgg39 rfl hk8) ?_)
 refine Se 1 hF (Sa (cs := #[.int .i64 2]) underlying39 sizeOf3 zeroValue3 Pa Pa Eb) ?_
 clear hF; intro b21 w hb21 hF hE
 replace hM := hM.ext hE
 replace hO := hO.ext hE
 replace hI := hI.ext hE
 replace hx8 := hx8.ext hE
 clear hE
 have hy_ := Oi (b := b21) hF [2] Fa Fa 0 rfl
 refine Ya (show Calls prog 19 #[.slice (B8) (((Re 2 3 [(0, 1)] 0 fun _ => []) 2).length) (e8), .slice (some ⟨b21, 0, none⟩) 1 1] w (Nd fun v w' => v = .bool true ∧ Same [] w w') from Vf (v' := .bool true) (Vn _ _ _ ((Re 2 3 [(0, 1)] 0 fun _ => []) 2) [2] _ _ _ _ hx8 hy_) (congrArg Value.bool (decide_eq_true Eb))) (Mb Mr rfl rfl rfl) ?_
 rintro _ w ⟨rfl, hE⟩
 replace hF := hF.ext hE
 replace hM := hM.ext hE
 replace hO := hO.ext hE
 replace hI := hI.ext hE
 replace hx8 := hx8.ext hE
 clear hE
 clear hy_
 refine Ca (Wc rfl rfl) (Ca (Ld rfl) (Ca (Ld rfl) (Ca (Wc rfl rfl) (Ca (Ld rfl) (Ca (Ge rfl) ?_)))))
 refine Se 3 hF (Sa (cs := #[.int .i64 0, .int .i64 ((-1)), .int .i64 1]) underlying39 sizeOf3 zeroValue3 Pa Pa Eb) ?_
 clear hF; intro b22 w hb22 hF hE
 replace hM := hM.ext hE
 replace hO := hO.ext hE
 replace hI := hI.ext hE
 replace hx8 := hx8.ext hE
 clear hE
 have hy_ := Oi (b := b22) hF [0, -1, 1] Fa Fa 0 rfl
 refine Ya (show Calls prog 19 #[.slice (some ⟨oi, 0, none⟩) 3 3, .slice (some ⟨b22, 0, none⟩) 3 3] w (Nd fun v w' => v = .bool true ∧ Same [] w w') from Vf (v' := .bool true) (Vn _ _ _ ((List.range 3).map (Br [(0, 0), (2, 1)] fun _ => -1)) [0, -1, 1] _ _ _ _ hI hy_) (congrArg Value.bool (decide_eq_true Eb))) (Mb Mr rfl rfl rfl) ?_
 rintro _ w ⟨rfl, hE⟩
 replace hF := hF.ext hE
 replace hM := hM.ext hE
 replace hO := hO.ext hE
 replace hI := hI.ext hE
 replace hx8 := hx8.ext hE
 clear hE
 clear hy_
 refine Ca (Wc rfl rfl) (Ca (Gc rfl) (Ga ?_))
 refine Wd (v := .bool true) rfl rfl ?_
 exact ⟨rfl, hF.same⟩
end Go.Scarf
