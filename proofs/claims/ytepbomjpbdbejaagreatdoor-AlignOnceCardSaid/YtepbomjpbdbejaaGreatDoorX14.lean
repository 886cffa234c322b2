/- A part of the proof. -/
import Derived.Test.YtepbomjpbdbejaaGreatDoorA9
set_option linter.all false
set_option maxHeartbeats 8000000
set_option maxRecDepth 10000
namespace Go.Scarf
open Go.RowKit Go.Proofs Go.Proofs.Tryz
theorem AA (S : Nat → Prop) (w0 : World) (n : Int) (m : List (Int × Int)) (A : Option Addr) (c : Nat) (hX : Rep S w0 (Tg m) [.slice A m.length c]) (hm : m.length ≤ 100) : Calls prog 17 #[.int .i64 n, .slice A m.length c] w0 (Kd fun v w' => ∃ V b, v = .tuple #[V, .bool b] ∧ Same [] w0 w') := by
  by_cases h : Rl n m = true
  · have h' := h
    unfold Rl at h
    simp only [Bool.and_eq_true] at h
    have h1' := h.1
    unfold Ph at h1'
    simp only [Bool.and_eq_true, decide_eq_true_eq] at h1'
    obtain ⟨k, rfl⟩ : ∃ k : Nat, n = (k : Int) := ⟨n.toNat, by omega⟩
    by_cases hb : ∀ z, m.getLast? = some z → z.2 < 9223372036854775807
    · obtain ⟨mp, rfl, hr⟩ := Ct (n := k) (size := 9223372036854775807) m (-1) (-1) by_Om by_Om by_Om h1'.1 hb
      rw [Am] at hm
      exact Sh (Mm S w0 k mp A c hX h.1 by_Om hm (fun z hz => by have := hr.all z hz; omega)) fun v w' ⟨ob, hv, _, hs⟩ => ⟨_, _, hv, hs⟩
    · exfalso
      refine hb fun z hz => ?_
      have h2 := h.2
      rw [hz] at h2
      simp only [Bool.not_eq_true', decide_eq_false_iff_not] at h2
      have hmem := List.mem_of_getLast? hz
      obtain ⟨i, hi, rfl⟩ := List.getElem_of_mem hmem
      obtain ⟨_, _, _, _, h5⟩ := hX.pair_elem (i := i) hi
      omega
  · exact Sh (IC S w0 n m A c hX (by simpa using h)) fun v w' ⟨hv, hs⟩ => ⟨_, _, hv, hs⟩
theorem M9 (w0 : World) (hG : Gl w0) (n : Int) (m : List (Int × Int)) (A : Option Addr) (c : Nat) (hX : Rep (fun _ => True) w0 (Tg m) [.slice A m.length c]) (size : Int) (hm : ¬ m.length ≤ 100) : Calls prog 5 #[.int .i64 n, .slice A m.length c, .int .i64 size] w0 (Kd fun v w' => v = .bool true ∧ Same [] w0 w') := by
 have hXl := hX.pairs_len
 refine Ka func5 rfl ntmps5 Jb (Bj _ _ _) ?_
 have hF := FR.start w0 []
 refine Ma (Ca (Gc rfl) (Dc ?_))
 refine Pb hF (Is _ (hG.ext hF.same)) (Pz HI rfl) ?_
 clear hF; intro w hF
 refine Ca (Gc rfl) (Ha (Ia (Ma (Ca (Ae rfl) (Ca (Ff underlying29 rfl) (Ca (Rx rfl rfl) (Ha ?_)))))))
 refine Jc rfl rfl (fun hc0 => ?_) (fun hc0 => ?_)
 refine Ma (Ca (Ud rfl) (Ca (Gc rfl) (Ha ?_)))
 refine Le (v := .bool true) rfl rfl ?_
 exact ⟨rfl, hF.same⟩
 exact absurd hm by_Om
theorem WE (w0 : World) (hG : Gl w0) (n : Int) (m : List (Int × Int)) (A : Option Addr) (c : Nat) (hX : Rep (fun _ => True) w0 (Tg m) [.slice A m.length c]) (size : Int) (hm : m.length ≤ 100) (hno : Ul n m size = false) : Calls prog 5 #[.int .i64 n, .slice A m.length c, .int .i64 size] w0 (Kd fun v w' => v = .bool true ∧ Same [] w0 w') := by
 have hXl := hX.pairs_len
 refine Ka func5 rfl ntmps5 Jb (Bj _ _ _) ?_
 have hF := FR.start w0 []
 refine Ma (Ca (Gc rfl) (Dc ?_))
 refine Pb hF (Is _ (hG.ext hF.same)) (Pz HI rfl) ?_
 clear hF; intro w hF
 refine Ca (Gc rfl) (Ha (Ia (Ma (Ca (Ae rfl) (Ca (Ff underlying29 rfl) (Ca (Rx rfl rfl) (Ha ?_)))))))
 refine Jc rfl rfl (fun hc0 => ?_) (fun hc0 => ?_)
 exact absurd hm by_Om
 refine Xa (Ga (Ma (Ca (Hb rfl) (Ca (Ae rfl) (Ca (Hb rfl) ?_)))))
 refine Pb hF (UE _ _ n m A c (hF.rep hX) size hno) (Bc G2 rfl rfl rfl rfl) ?_
 clear hF; intro w hF
 refine Ca (Hn rfl) (Ca (O4 rfl rfl) (Ca (Dp rfl rfl) (Ca (Ji rfl) (Ca (Gc rfl) (Dc (Ca (Hb rfl) (Ca (Ae rfl) ?_)))))))
 refine Cb (AA _ _ n m A c (hF.rep hX) by_Om) (Kb L2 rfl rfl rfl) ?_
 rintro _ w ⟨V, b, rfl, hE⟩
 replace hF := hF.ext hE
 clear hE
 refine Ca (Hn rfl) (Ca (OL rfl rfl) (Ca (Dp rfl rfl) (Ca (Ex) (Ca (Gc rfl) (Ha (Ia (Ma (Ca (Ud rfl) (Ca (Zo (b := false) rfl) (Ha ?_))))))))))
 refine He rfl (Ma (Ca (Ud rfl) (Ca (Ud rfl) (Ca (Ae rfl) (Ca (Ff underlying36 rfl) (Ja (v := .bool true) (Pe (Nh rfl rfl) Qa) (Ca (Xc rfl rfl) (Ca (Gc rfl) (Ha ?_)))))))))
 refine Le (v := .bool true) rfl rfl ?_
 exact ⟨rfl, hF.same⟩
theorem VB (w0 : World) (hG : Gl w0) (n : Nat) (mp : List (Nat × Nat)) (A : Option Addr) (c : Nat) (hX : Rep (fun _ => True) w0 (Tg (Hc mp)) [.slice A (Hc mp).length c]) (size : Nat) (hm : mp.length ≤ 100) (hn : n ≤ 64) (hs_ : size ≤ 64) (hri : RiseN n size 0 0 mp) (hrb : Ph n (Hc mp) = true) : Calls prog 5 #[.int .i64 ((n : Nat) : Int), .slice A (Hc mp).length c, .int .i64 ((size : Nat) : Int)] w0 (Kd fun v w' => v = .bool true ∧ Same [] w0 w') := by
  have hcl := Am mp
  have hXl := hX.pairs_len
  refine Ka func5 rfl ntmps5 Jb (Bj _ _ _) ?_
  have hF := FR.start w0 []
  refine Ia ?_
  refine Da ?_
  refine Ca (Gc rfl) ?_
  refine Wa ?_
  refine Ga ?_
  refine Ia ?_
  refine Da ?_
  refine Pb hF (Is _ (hG.ext hF.same)) (Pz HI rfl) ?_
  clear hF; intro w hF
  refine Ca (Gc rfl) ?_
  refine Wa ?_
  refine Ga ?_
  refine Ia ?_
  refine Ia ?_
  refine Da ?_
  refine Ca (Ae rfl) ?_
  refine Ca (Ff underlying29 rfl) ?_
  refine Ca (Rx rfl rfl) ?_
  refine Wa ?_
  refine Ga ?_
  refine Jc rfl rfl (fun hc0 => ?_) (fun hc0 => ?_)
  ·
    exact absurd hm by_Om
  ·
    refine Xa ?_
    refine Ga ?_
    refine Ia ?_
    refine Da ?_
    refine Ca (Hb rfl) ?_
    refine Ca (Ae rfl) ?_
    refine Ca (Hb rfl) ?_
    refine Cb (Mr _ _ n mp A c (hF.rep hX) hrb hn hm size hs_ hri.all) (Bc G2 rfl rfl rfl rfl) ?_
    rintro _ w ⟨og, rfl, hO, hE⟩
    replace hF := hF.ext hE
    have hO : Rep (fun _ => True) w (Pr (n + 1) (Ed n size mp 0 fun _ => [])) [.slice (some ⟨og, 0, none⟩) (n + 1) (n + 1)] := hO.weaken fun _ _ _ => trivial
    clear hE
    refine Ca (Hn rfl) ?_
    refine Ca (O4 rfl rfl) ?_
    refine Ca (Dp rfl rfl) ?_
    refine Ca (Ji rfl) ?_
    refine Ca (Gc rfl) ?_
    refine Wa ?_
    refine Ga ?_
    refine Ia ?_
    refine Da ?_
    refine Ca (Hb rfl) ?_
    refine Ca (Ae rfl) ?_
    refine Cb (Mm _ _ n mp A c (hF.rep hX) hrb hn hm (fun z hz => by have := hri.all z hz; omega)) (Kb L2 rfl rfl rfl) ?_
    rintro _ w ⟨oi, rfl, hI, hE⟩
    replace hO := hO.ext hE
    replace hF := hF.ext hE
    have hI : Rep (fun _ => True) w (.slice (((List.range n).map (Fk mp fun _ => -1)).map Ke)) [.slice (some ⟨oi, 0, none⟩) n n] := hI.weaken fun _ _ _ => trivial
    clear hE
    refine Ca (Hn rfl) ?_
    refine Ca (O4 rfl rfl) ?_
    refine Ca (Dp rfl rfl) ?_
    refine Ca (Ji rfl) ?_
    refine Ca (Gc rfl) ?_
    refine Wa ?_
    refine Ga ?_
    refine Ia ?_
    refine Ia ?_
    refine Da ?_
    refine Ca (Ud rfl) ?_
    refine Ca (Zo (b := true) rfl) ?_
    refine Wa ?_
    refine Ga ?_
    refine Nf rfl ?_
    refine Xa ?_
    refine Ga ?_
    refine Ia ?_
    refine Ia ?_
    refine Da ?_
    refine Ca (Ud rfl) ?_
    refine Ca (Zo (b := true) rfl) ?_
    refine Ca (Ud rfl) ?_
    refine Ca (Ae rfl) ?_
    refine Ca (Ff underlying36 rfl) ?_
    refine Ca (Hb rfl) ?_
    refine Ca (Bi (((n + 1 : Nat) : Int)) rfl rfl) ?_
    refine Ja (v := .bool false) (Id (Zt rfl rfl) by_Om) ?_
    refine Ca (Md rfl rfl) ?_
    refine Ca (Ud rfl) ?_
    refine Ca (Ae rfl) ?_
    refine Ca (Ff underlying39 rfl) ?_
    refine Ca (Hb rfl) ?_
    refine Ja (v := .bool false) (Id (Zt rfl rfl) by_Om) ?_
    refine Ca (Md rfl rfl) ?_
    refine Wa ?_
    refine Ga ?_
    refine Nf rfl ?_
    refine Xa ?_
    refine Ga ?_
    refine Ia ?_
    refine Da ?_
    refine Ca (Qc rfl) ?_
    refine Wa ?_
    refine Ga ?_
    refine Ia ?_
    refine Ia ?_
    refine Da ?_
    refine Ca (Qc rfl) ?_
    refine Wa ?_
    refine Ga ?_
    refine Za ?_
    have hgl := Z3 mp 0 0 (fun _ => []) (fun _ => -1) hri (Nat.zero_le _) (fun _ _ => rfl) (fun _ _ => rfl)
    refine Uc (fun μ σ w => ∃ (k : Nat), ∃ (aa : Nat), μ = n + 1 - k ∧ (k ≤ n + 1) ∧ ((k ≤ n → aa = Ty mp 0 k) ∧ (k = n + 1 → aa = size)) ∧ (Rep (fun _ => True) w (Pr (n + 1) (Ed n size mp 0 fun _ => [])) [.slice (some ⟨og, 0, none⟩) (n + 1) (n + 1)]) ∧ (Rep (fun _ => True) w (.slice (((List.range n).map (Fk mp fun _ => -1)).map Ke)) [.slice (some ⟨oi, 0, none⟩) n n]) ∧ AllEq σ [(0, .int .i64 ((n : Nat))), (2, .int .i64 ((size : Nat))), (7, .bool true), (8, .slice (some ⟨og, 0, none⟩) (n + 1) (n + 1)), (10, .slice (some ⟨oi, 0, none⟩) n n), (12, .int .i64 ((aa : Nat))), (13, .int .i64 ((k : Int)))] ∧ FR w0 [] [] w) _ ⟨0, 0, rfl, by_Om, (⟨fun _ => (G8 hri (Nat.le_refl _)).symm, fun h => by omega⟩), (hO), (hI), F9, hF⟩ ?_
    clear hF; rintro μ σ w ⟨k, aa, rfl, hk_, haa, hO, hI, hs, hF⟩
    refine Cg.slots hs ?_
    clear hs; intro σ
    refine Ia ?_
    refine Ia ?_
    refine Da ?_
    refine Ca (Hb rfl) ?_
    refine Ca (Hb rfl) ?_
    refine Ca (OH rfl rfl) ?_
    refine Wa ?_
    refine Ga ?_
    refine Jc rfl rfl (fun hc3 => ?_) (fun hc3 => ?_)
    ·
      refine Xa ?_
      refine Ga ?_
      refine Ia ?_
      refine Za ?_
      refine Ia ?_
      refine Ia ?_
      obtain ⟨e, hge, hae, hle, hes⟩ : ∃ e, (Ed n size mp 0 fun _ => []) k = rng aa e ∧ aa ≤ e ∧ ((Ed n size mp 0 fun _ => []) k).length = e - aa ∧ e ≤ size := by
        have ea := haa.1
        by_cases hkn : k < n
        · have ea := ea by_Om; subst ea; rcases hgl.1 k (Nat.zero_le _) hkn with ⟨b, -, h2, h3, h4⟩ | ⟨-, h2, -⟩
          · exact ⟨b, h2, h4, by rw [h2, Ce], by have := K6 (k := k + 1) hri; omega⟩
          · exact ⟨_, by rw [h2, V1], Nat.le_refl _, by rw [h2]; simp, K6 hri⟩
        · obtain rfl : k = n := by omega
          have ea := ea (Nat.le_refl _); subst ea; exact ⟨size, hgl.2.1, hgl.2.2, by rw [hgl.2.1, Ce], Nat.le_refl _⟩
      refine Da ?_
      refine Ca (Qc rfl) ?_
      refine Wa ?_
      refine Ga ?_
      refine Za ?_
      refine Uc (fun μ σ w => ∃ (j : Nat), μ = e - aa - j ∧ (j ≤ e - aa) ∧ (Rep (fun _ => True) w (Pr (n + 1) (Ed n size mp 0 fun _ => [])) [.slice (some ⟨og, 0, none⟩) (n + 1) (n + 1)]) ∧ (Rep (fun _ => True) w (.slice (((List.range n).map (Fk mp fun _ => -1)).map Ke)) [.slice (some ⟨oi, 0, none⟩) n n]) ∧ AllEq σ [(0, .int .i64 ((n : Nat))), (2, .int .i64 ((size : Nat))), (7, .bool true), (8, .slice (some ⟨og, 0, none⟩) (n + 1) (n + 1)), (10, .slice (some ⟨oi, 0, none⟩) n n), (12, .int .i64 (((aa + j : Nat) : Int))), (13, .int .i64 ((k : Int))), (14, .int .i64 ((j : Int)))] ∧ FR w0 [] [] w) _ ⟨0, rfl, (Nat.zero_le _), (hO), (hI), BA, hF⟩ ?_
      clear hF; rintro μ σ w ⟨j, rfl, hj, hO, hI, hs, hF⟩
      refine Cg.slots hs ?_
      clear hs; intro σ
      refine Ia ?_
      refine Ia ?_
      refine Da ?_
      refine Ca (Hb rfl) ?_
      refine Ca (Ae rfl) ?_
      refine Ca (Hb rfl) ?_
      obtain ⟨ad0, B0, e0, hA0, hk0, hx0⟩ := hO.gap_elem (i := k) by_Om
      refine Ja (v := .pointer (some (ad0.add (k * 1)))) (Ra (i := (k : Int)) Fg rfl hA0 rfl by_Om by_Om) ?_
      refine Ja (v := .slice (B0) (((Ed n size mp 0 fun _ => []) k).length) (e0)) (Va isAgg39 rfl hk0) ?_
      refine Ca (Ff underlying39 rfl) ?_
      refine Ca (Zl rfl rfl) ?_
      refine Wa ?_
      refine Ga ?_
      refine Jc rfl rfl (fun hc4 => ?_) (fun hc4 => ?_)
      ·
        refine Xa ?_
        refine Ga ?_
        refine Ia ?_
        refine Za ?_
        refine Ia ?_
        refine Ia ?_
        refine Da ?_
        refine Ca (Ae rfl) ?_
        refine Ca (Hb rfl) ?_
        obtain ⟨ad1, B1, e1, hA1, hk1, hx1⟩ := hO.gap_elem (i := k) by_Om
        refine Ja (v := .pointer (some (ad1.add (k * 1)))) (Ra (i := (k : Int)) Fg rfl hA1 rfl by_Om by_Om) ?_
        refine Ja (v := .slice (B1) (((Ed n size mp 0 fun _ => []) k).length) (e1)) (Va isAgg39 rfl hk1) ?_
        refine Ca (Hb rfl) ?_
        obtain ⟨ad2, hA2, hk2, hx2⟩ := hx1.int_elem (i := j) by_Om
        rw [show ((Ed n size mp 0 fun _ => []) k)[j] = (aa : Int) + (j : Nat) by simp only [hge]; exact TE _] at hk2
        refine Ja (v := .pointer (some (ad2.add (j * 1)))) (Ra (i := (j : Int)) Ge rfl hA2 rfl by_Om by_Om) ?_
        refine Ja (v := .int .i64 (((aa : Int) + (j : Nat)))) (Va isAgg3 rfl hk2) ?_
        refine Ca (Hb rfl) ?_
        refine Ja (v := .bool false) (Id (Zt rfl rfl) by_Om) ?_
        refine Wa ?_
        refine Ga ?_
        refine Nf rfl ?_
        refine Xa ?_
        refine Ga ?_
        refine Da ?_
        refine Ca (Hb rfl) ?_
        refine Ca (Bi (((aa + (j + 1) : Nat) : Int)) rfl rfl) ?_
        refine Ca (Qc rfl) ?_
        refine Wa ?_
        refine Mb ?_
        refine Ga ?_
        refine Da ?_
        refine Ca (Hb rfl) ?_
        refine Ca (Bi (((j + 1 : Nat) : Int)) rfl rfl) ?_
        refine Ca (Qc rfl) ?_
        refine Wa ?_
        refine Fc ⟨_, ?_, j + 1, rfl, by_Om, (hO), (hI), BA, hF⟩
        omega
      ·
        refine Oc (Mc rfl ?_)
        refine Ga ?_
        refine Ia ?_
        obtain rfl : j = e - aa := by omega
        refine Da ?_
        refine Ca (Hb rfl) ?_
        refine Ca (Hb rfl) ?_
        refine Ca (Zl rfl rfl) ?_
        refine Ca (Ud rfl) ?_
        refine Dd (d := 84) rfl (fun hg3 => ?_) (fun hg3 => ?_)
        ·
          refine Ca (Ae rfl) ?_
          refine Ca (Hb rfl) ?_
          obtain ⟨ad4, hA4, hk4, hx4⟩ := hI.int_elem (i := k) (by simp only [List.length_map, List.length_range]; omega)
          rw [List.getElem_map, List.getElem_range] at hk4
          refine Ja (v := .pointer (some (ad4.add (k * 1)))) (Ra (i := (k : Int)) Ge rfl hA4 rfl by_Om by_Om) ?_
          refine Ja (v := .int .i64 (Fk mp (fun _ => -1) k)) (Va isAgg3 rfl hk4) ?_
          refine Ca (CC rfl rfl) ?_
          refine Ca (Xc rfl rfl) ?_
          refine Wa ?_
          refine Ga ?_
          refine Jc rfl rfl (fun hc6 => ?_) (fun hc6 => ?_)
          ·
            refine Ia ?_
            refine Ia ?_
            refine Da ?_
            refine Ca (Ae rfl) ?_
            refine Ca (Hb rfl) ?_
            obtain ⟨ad5, hA5, hk5, hx5⟩ := hI.int_elem (i := k) (by simp only [List.length_map, List.length_range]; omega)
            rw [List.getElem_map, List.getElem_range] at hk5
            refine Ja (v := .pointer (some (ad5.add (k * 1)))) (Ra (i := (k : Int)) Ge rfl hA5 rfl by_Om by_Om) ?_
            refine Ja (v := .int .i64 (Fk mp (fun _ => -1) k)) (Va isAgg3 rfl hk5) ?_
            refine Ca (Hb rfl) ?_
            refine Ja (v := .bool false) (Id (Zt rfl rfl) (by have ea := haa.1 by_Om; subst ea; rcases hgl.1 k (Nat.zero_le _) by_Om with ⟨b, h1, h2, -, h4⟩ | ⟨h1, -, -⟩; (have h5 := hge.symm.trans h2; have h6 := congrArg List.length h5; rw [Ce, Ce] at h6; omega); omega)) ?_
            refine Wa ?_
            refine Ga ?_
            refine Nf rfl ?_
            refine Xa ?_
            refine Ga ?_
            refine Da ?_
            refine Ca (Hb rfl) ?_
            refine Ca (Bi (((e + 1 : Nat) : Int)) rfl rfl) ?_
            refine Ca (Qc rfl) ?_
            refine Wa ?_
            refine Mb ?_
            refine Ga ?_
            refine Da ?_
            refine Ca (Hb rfl) ?_
            refine Ca (Bi (((k + 1 : Nat) : Int)) rfl rfl) ?_
            refine Ca (Qc rfl) ?_
            refine Wa ?_
            refine Fc ⟨_, ?_, k + 1, e + 1, rfl, by_Om, (⟨fun h => by have ea := haa.1 by_Om; subst ea; rcases hgl.1 k (Nat.zero_le _) by_Om with ⟨b, h1, h2, h3, h4⟩ | ⟨h1, h2, h3⟩; (have h5 := hge.symm.trans h2; have h6 := congrArg List.length h5; rw [Ce, Ce] at h6; omega); (have h5 := hge.symm.trans h2; have h6 := congrArg List.length h5; rw [Ce, List.length_nil] at h6; omega), fun h => by obtain rfl : k = n := by_Om; have ea := haa.1 (Nat.le_refl _); subst ea; have h5 := hge.symm.trans hgl.2.1; have h6 := congrArg List.length h5; rw [Ce, Ce] at h6; have h7 := hgl.2.2; omega⟩), (hO), (hI), F9, hF⟩
            omega
          ·
            refine Xa ?_
            refine Mb ?_
            refine Ga ?_
            refine Da ?_
            refine Ca (Hb rfl) ?_
            refine Ca (Bi (((k + 1 : Nat) : Int)) rfl rfl) ?_
            refine Ca (Qc rfl) ?_
            refine Wa ?_
            refine Fc ⟨_, ?_, k + 1, aa + (e - aa), rfl, by_Om, (⟨fun h => by have ea := haa.1 by_Om; subst ea; rcases hgl.1 k (Nat.zero_le _) by_Om with ⟨b, h1, h2, h3, h4⟩ | ⟨h1, h2, h3⟩; (have h5 := hge.symm.trans h2; have h6 := congrArg List.length h5; rw [Ce, Ce] at h6; omega); (have h5 := hge.symm.trans h2; have h6 := congrArg List.length h5; rw [Ce, List.length_nil] at h6; omega), fun h => by obtain rfl : k = n := by_Om; have ea := haa.1 (Nat.le_refl _); subst ea; have h5 := hge.symm.trans hgl.2.1; have h6 := congrArg List.length h5; rw [Ce, Ce] at h6; have h7 := hgl.2.2; omega⟩), (hO), (hI), F9, hF⟩
            omega
        ·
          refine Pa ?_
          refine Pa ?_
          refine Pa ?_
          refine Pa ?_
          refine Pa ?_
          refine Ca (Md rfl rfl) ?_
          refine Wa ?_
          refine Ga ?_
          refine Nf rfl ?_
          refine Xa ?_
          refine Mb ?_
          refine Ga ?_
          refine Da ?_
          refine Ca (Hb rfl) ?_
          refine Ca (Bi (((k + 1 : Nat) : Int)) rfl rfl) ?_
          refine Ca (Qc rfl) ?_
          refine Wa ?_
          refine Fc ⟨_, ?_, k + 1, aa + (e - aa), rfl, by_Om, (⟨fun h => by have ea := haa.1 by_Om; subst ea; rcases hgl.1 k (Nat.zero_le _) by_Om with ⟨b, h1, h2, h3, h4⟩ | ⟨h1, h2, h3⟩; (have h5 := hge.symm.trans h2; have h6 := congrArg List.length h5; rw [Ce, Ce] at h6; omega); (have h5 := hge.symm.trans h2; have h6 := congrArg List.length h5; rw [Ce, List.length_nil] at h6; omega), fun h => by obtain rfl : k = n := by_Om; have ea := haa.1 (Nat.le_refl _); subst ea; have h5 := hge.symm.trans hgl.2.1; have h6 := congrArg List.length h5; rw [Ce, Ce] at h6; have h7 := hgl.2.2; omega⟩), (hO), (hI), F9, hF⟩
          omega
    ·
      refine Oc (Mc rfl ?_)
      refine Ga ?_
      refine Ia ?_
      refine Da ?_
      refine Ca (Ud rfl) ?_
      refine Ca (Ud rfl) ?_
      refine Ca (Hb rfl) ?_
      refine Ca (Hb rfl) ?_
      refine Ja (v := .bool true) (Pe (Nh rfl rfl) by_Om) ?_
      refine Ca (Xc rfl rfl) ?_
      refine Ca (Gc rfl) ?_
      refine Wa ?_
      refine Ga ?_
      refine Le (v := .bool true) rfl rfl ?_
      exact ⟨rfl, hF.same⟩
theorem U1 (w0 : World) (hG : Gl w0) (n : Int) (m : List (Int × Int)) (A : Option Addr) (c : Nat) (hX : Rep (fun _ => True) w0 (Tg m) [.slice A m.length c]) (size : Int) : Calls prog 5 #[.int .i64 n, .slice A m.length c, .int .i64 size] w0 (Kd fun v w' => v = .bool true ∧ Same [] w0 w') := by
  by_cases hm : m.length ≤ 100
  · by_cases h : Ul n m size = true
    · obtain ⟨k, s, mp, rfl, rfl, hk, hs, rfl, hr, hb, -⟩ := V4 h
      rw [Am] at hm
      exact VB w0 hG k mp A c hX s hm hk hs hr hb
    · exact WE w0 hG n m A c hX size hm (by simpa using h)
  · exact M9 w0 hG n m A c hX size hm
end Go.Scarf
