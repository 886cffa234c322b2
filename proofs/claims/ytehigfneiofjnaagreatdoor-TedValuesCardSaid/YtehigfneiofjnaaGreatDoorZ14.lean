/- A part of the proof. -/
import Derived.Test.YtehigfneiofjnaaGreatDoorZ11
import Derived.Test.YtehigfneiofjnaaGreatDoorW19
set_option linter.all false
set_option maxHeartbeats 8000000
set_option maxRecDepth 10000
namespace Go.Scarf
open Go.RowKit Go.Proofs Go.Proofs.Tryz
def CT : Tree := .node 3 [49] [] []
def P7 : Tree := .node 5 [] [] [.node 3 [49] [] [], .node 3 [50] [] []]
def EM : Tree := .node 5 [] [] [.node 3 [49] [] [], .node 3 [51] [] []]
def BT : Tree := .node 5 [] [] [.node 3 [50] [] []]
def KL : Tree := .node 5 [] [] [.node 3 [49] [] []]
def taT : Tree := .node 6 [] [[97]] [.node 3 [49] [] []]
def tbT : Tree := .node 6 [] [[98]] [.node 3 [49] [] []]
def ZS : Tree := .node 5 [] [] []
theorem PD (k : Str) : Sf [k] = [k] := List.mergeSort_of_pairwise Sa
theorem Iz (k : Str) (h : Ti (.node 6 [] [k] [.node 3 [49] [] []]) = true) : Cf (.node 6 [] [k] [.node 3 [49] [] []]) = .node 6 [] [k] [.node 3 [49] [] []] := by
  rw [Cf, if_pos h, Mh, if_pos rfl, PD]
  simp [Jg, Ai, Mh]
theorem JN : Mq P7 EM = 1 ∧ Nq P7 EM = 0 := ⟨by kernel_rfl, by kernel_rfl⟩
theorem YM : Mq P7 BT = 1 ∧ Nq P7 BT = 0 := ⟨by kernel_rfl, by kernel_rfl⟩
theorem EN : Mq CT KL = 1 ∧ Nq CT KL = 0 := ⟨by kernel_rfl, by kernel_rfl⟩
theorem Z5 : Cf taT = taT := Iz [97] Fb
theorem VJ : Cf tbT = tbT := Iz [98] Fb
theorem RM : Mq taT tbT = 1 ∧ Nq taT tbT = 0 := by
  refine ⟨?_, by kernel_rfl⟩
  rw [Mq, if_pos Fb, Xd, Ye, Xd, Ye, Z5, VJ]
  kernel_rfl
theorem CN : Mq taT ZS = 3 ∧ Nq taT ZS = 0 := by
  refine ⟨?_, by kernel_rfl⟩
  rw [Mq, if_pos Fb, Xd, Ye, Z5]
  kernel_rfl
theorem QT {w0 w : World} {bs_ : List (Nat × Obj)} (hG : Gl w0) (hF : FR w0 [] bs_ w) {bix : Nat} (ibix : Nat) (hbix : bs_[ibix]? = some (bix, .cells #[.int .i64 3, .string (bs [49]), .slice none 0 0, .slice none 0 0, .int .i64 3, .string (bs [50]), .slice none 0 0, .slice none 0 0] 25)) {biy : Nat} (ibiy : Nat) (hbiy : bs_[ibiy]? = some (biy, .cells #[.int .i64 3, .string (bs [49]), .slice none 0 0, .slice none 0 0, .int .i64 3, .string (bs [51]), .slice none 0 0, .slice none 0 0] 25)) : Calls prog 7 #[.agg #[.int .i64 5, .string (bs []), .slice none 0 0, .slice (some ⟨bix, 0, none⟩) 2 2], .agg #[.int .i64 5, .string (bs []), .slice none 0 0, .slice (some ⟨biy, 0, none⟩) 2 2]] w (Ce fun v w' => v = .tuple #[.int .i64 1, .int .i64 0] ∧ Same [] w w') := by
  have hx_ : RX w0 [] w [Gc P7] [.int .i64 5, .string (bs []), .slice none 0 0, .slice (some ⟨bix, 0, none⟩) 2 2] := RX.tree ⟨by omega, by omega⟩ Sa RX.nils (hF.rowX (ids := []) ibix hbix (RX.append (ds := [_]) (RX.num [49] Sa) (RX.num [50] Sa)) Sa rfl (by simp [Je]))
  have hy_ : RX w0 [] w [Gc EM] [.int .i64 5, .string (bs []), .slice none 0 0, .slice (some ⟨biy, 0, none⟩) 2 2] := RX.tree ⟨by omega, by omega⟩ Sa RX.nils (hF.rowX (ids := []) ibiy hbiy (RX.append (ds := [_]) (RX.num [49] Sa) (RX.num [51] Sa)) Sa rfl (by simp [Je]))
  have h := Lj P7 EM _ _ _ [.int .i64 5, .string (bs []), .slice none 0 0, .slice (some ⟨bix, 0, none⟩) 2 2] [.int .i64 5, .string (bs []), .slice none 0 0, .slice (some ⟨biy, 0, none⟩) 2 2] hx_.rep hy_.rep (hG.ext hF.same) Oa Oa Oa Oa
  rw [JN.1, JN.2] at h
  exact h
theorem ZN {w0 w : World} {bs_ : List (Nat × Obj)} (hG : Gl w0) (hF : FR w0 [] bs_ w) {bix : Nat} (ibix : Nat) (hbix : bs_[ibix]? = some (bix, .cells #[.int .i64 3, .string (bs [49]), .slice none 0 0, .slice none 0 0, .int .i64 3, .string (bs [50]), .slice none 0 0, .slice none 0 0] 25)) {biy : Nat} (ibiy : Nat) (hbiy : bs_[ibiy]? = some (biy, .cells #[.int .i64 3, .string (bs [50]), .slice none 0 0, .slice none 0 0] 25)) : Calls prog 7 #[.agg #[.int .i64 5, .string (bs []), .slice none 0 0, .slice (some ⟨bix, 0, none⟩) 2 2], .agg #[.int .i64 5, .string (bs []), .slice none 0 0, .slice (some ⟨biy, 0, none⟩) 1 1]] w (Ce fun v w' => v = .tuple #[.int .i64 1, .int .i64 0] ∧ Same [] w w') := by
  have hx_ : RX w0 [] w [Gc P7] [.int .i64 5, .string (bs []), .slice none 0 0, .slice (some ⟨bix, 0, none⟩) 2 2] := RX.tree ⟨by omega, by omega⟩ Sa RX.nils (hF.rowX (ids := []) ibix hbix (RX.append (ds := [_]) (RX.num [49] Sa) (RX.num [50] Sa)) Sa rfl (by simp [Je]))
  have hy_ : RX w0 [] w [Gc BT] [.int .i64 5, .string (bs []), .slice none 0 0, .slice (some ⟨biy, 0, none⟩) 1 1] := RX.tree ⟨by omega, by omega⟩ Sa RX.nils (hF.rowX (ids := []) ibiy hbiy (RX.num [50] Sa) Sa rfl (by simp [Je]))
  have h := Lj P7 BT _ _ _ [.int .i64 5, .string (bs []), .slice none 0 0, .slice (some ⟨bix, 0, none⟩) 2 2] [.int .i64 5, .string (bs []), .slice none 0 0, .slice (some ⟨biy, 0, none⟩) 1 1] hx_.rep hy_.rep (hG.ext hF.same) Oa Oa Oa Oa
  rw [YM.1, YM.2] at h
  exact h
theorem JT {w0 w : World} {bs_ : List (Nat × Obj)} (hG : Gl w0) (hF : FR w0 [] bs_ w) {biy : Nat} (ibiy : Nat) (hbiy : bs_[ibiy]? = some (biy, .cells #[.int .i64 3, .string (bs [49]), .slice none 0 0, .slice none 0 0] 25)) : Calls prog 7 #[.agg #[.int .i64 3, .string (bs [49]), .slice none 0 0, .slice none 0 0], .agg #[.int .i64 5, .string (bs []), .slice none 0 0, .slice (some ⟨biy, 0, none⟩) 1 1]] w (Ce fun v w' => v = .tuple #[.int .i64 1, .int .i64 0] ∧ Same [] w w') := by
  have hx_ : RX w0 [] w [Gc CT] [.int .i64 3, .string (bs [49]), .slice none 0 0, .slice none 0 0] := RX.num [49] Sa
  have hy_ : RX w0 [] w [Gc KL] [.int .i64 5, .string (bs []), .slice none 0 0, .slice (some ⟨biy, 0, none⟩) 1 1] := RX.tree ⟨by omega, by omega⟩ Sa RX.nils (hF.rowX (ids := []) ibiy hbiy (RX.num [49] Sa) Sa rfl (by simp [Je]))
  have h := Lj CT KL _ _ _ [.int .i64 3, .string (bs [49]), .slice none 0 0, .slice none 0 0] [.int .i64 5, .string (bs []), .slice none 0 0, .slice (some ⟨biy, 0, none⟩) 1 1] hx_.rep hy_.rep (hG.ext hF.same) Oa Oa Oa Oa
  rw [EN.1, EN.2] at h
  exact h
theorem Mi {w0 w : World} {bs_ : List (Nat × Obj)} (hG : Gl w0) (hF : FR w0 [] bs_ w) {bkx : Nat} (ibkx : Nat) (hbkx : bs_[ibkx]? = some (bkx, .cells #[.string (bs [97])] 9)) {bix : Nat} (ibix : Nat) (hbix : bs_[ibix]? = some (bix, .cells #[.int .i64 3, .string (bs [49]), .slice none 0 0, .slice none 0 0] 25)) {bky : Nat} (ibky : Nat) (hbky : bs_[ibky]? = some (bky, .cells #[.string (bs [98])] 9)) {biy : Nat} (ibiy : Nat) (hbiy : bs_[ibiy]? = some (biy, .cells #[.int .i64 3, .string (bs [49]), .slice none 0 0, .slice none 0 0] 25)) : Calls prog 7 #[.agg #[.int .i64 6, .string (bs []), .slice (some ⟨bkx, 0, none⟩) 1 1, .slice (some ⟨bix, 0, none⟩) 1 1], .agg #[.int .i64 6, .string (bs []), .slice (some ⟨bky, 0, none⟩) 1 1, .slice (some ⟨biy, 0, none⟩) 1 1]] w (Ce fun v w' => v = .tuple #[.int .i64 1, .int .i64 0] ∧ Same [] w w') := by
  have hx_ : RX w0 [] w [Gc taT] [.int .i64 6, .string (bs []), .slice (some ⟨bkx, 0, none⟩) 1 1, .slice (some ⟨bix, 0, none⟩) 1 1] := RX.tree ⟨by omega, by omega⟩ Sa (hF.rowX (ids := []) ibkx hbkx (RX.strs (ks := [[97]]) Sa) Sa rfl by_Om) (hF.rowX (ids := []) ibix hbix (RX.num [49] Sa) Sa rfl (by simp [Je]))
  have hy_ : RX w0 [] w [Gc tbT] [.int .i64 6, .string (bs []), .slice (some ⟨bky, 0, none⟩) 1 1, .slice (some ⟨biy, 0, none⟩) 1 1] := RX.tree ⟨by omega, by omega⟩ Sa (hF.rowX (ids := []) ibky hbky (RX.strs (ks := [[98]]) Sa) Sa rfl by_Om) (hF.rowX (ids := []) ibiy hbiy (RX.num [49] Sa) Sa rfl (by simp [Je]))
  have h := Lj taT tbT _ _ _ [.int .i64 6, .string (bs []), .slice (some ⟨bkx, 0, none⟩) 1 1, .slice (some ⟨bix, 0, none⟩) 1 1] [.int .i64 6, .string (bs []), .slice (some ⟨bky, 0, none⟩) 1 1, .slice (some ⟨biy, 0, none⟩) 1 1] hx_.rep hy_.rep (hG.ext hF.same) Oa Oa Oa Oa
  rw [RM.1, RM.2] at h
  exact h
theorem PT {w0 w : World} {bs_ : List (Nat × Obj)} (hG : Gl w0) (hF : FR w0 [] bs_ w) {bkx : Nat} (ibkx : Nat) (hbkx : bs_[ibkx]? = some (bkx, .cells #[.string (bs [97])] 9)) {bix : Nat} (ibix : Nat) (hbix : bs_[ibix]? = some (bix, .cells #[.int .i64 3, .string (bs [49]), .slice none 0 0, .slice none 0 0] 25)) : Calls prog 7 #[.agg #[.int .i64 6, .string (bs []), .slice (some ⟨bkx, 0, none⟩) 1 1, .slice (some ⟨bix, 0, none⟩) 1 1], .agg #[.int .i64 5, .string (bs []), .slice none 0 0, .slice none 0 0]] w (Ce fun v w' => v = .tuple #[.int .i64 3, .int .i64 0] ∧ Same [] w w') := by
  have hx_ : RX w0 [] w [Gc taT] [.int .i64 6, .string (bs []), .slice (some ⟨bkx, 0, none⟩) 1 1, .slice (some ⟨bix, 0, none⟩) 1 1] := RX.tree ⟨by omega, by omega⟩ Sa (hF.rowX (ids := []) ibkx hbkx (RX.strs (ks := [[97]]) Sa) Sa rfl by_Om) (hF.rowX (ids := []) ibix hbix (RX.num [49] Sa) Sa rfl (by simp [Je]))
  have hy_ : RX w0 [] w [Gc ZS] [.int .i64 5, .string (bs []), .slice none 0 0, .slice none 0 0] := RX.tree ⟨by omega, by omega⟩ Sa RX.nils RX.nils
  have h := Lj taT ZS _ _ _ [.int .i64 6, .string (bs []), .slice (some ⟨bkx, 0, none⟩) 1 1, .slice (some ⟨bix, 0, none⟩) 1 1] [.int .i64 5, .string (bs []), .slice none 0 0, .slice none 0 0] hx_.rep hy_.rep (hG.ext hF.same) Oa Oa Oa Oa
  rw [CN.1, CN.2] at h
  exact h
theorem Ur (w0 : World) (hG : Gl w0) : Calls prog 4 #[] w0 (Ce fun v w' => v = .bool true ∧ Same [] w0 w') := by
 refine Ma func4 rfl ntmps4 Qb (QH) ?_
 have hF := FR.start w0 []
 refine Ha (Ca (Cc rfl) (Yb ?_))
 refine Va hF (Hr (v' := .agg #[.int .i64 3, .string (bs [49]), .slice none 0 0, .slice none 0 0]) (FF 1 by_Om by_Om _ (hG.ext hF.same)) Fb) (Ua YO rfl rfl) ?_
 clear hF; intro w hF
 refine Hh hF zeroValue25 sizeOf25 rfl ?_
 clear hF; rintro b1 w hb1 hF -
 refine Yb ?_
 refine Va hF (Hr (v' := .agg #[.int .i64 3, .string (bs [50]), .slice none 0 0, .slice none 0 0]) (FF 2 by_Om by_Om _ (hG.ext hF.same)) Fb) (Ua YO rfl rfl) ?_
 clear hF; intro w hF
 refine Hh hF zeroValue25 sizeOf25 rfl ?_
 clear hF; rintro b2 w hb2 hF -
 refine Da (Ia ?_)
 refine Hf (fun σ w => AllEq σ [(1, .pointer (some ⟨b1, 0, none⟩)), (2, .pointer (some ⟨b2, 0, none⟩)), (3, .int .i64 1), (4, .int .i64 0)] ∧ FR w0 [] [(b2, .cells #[.int .i64 3, .string (bs [50]), .slice none 0 0, .slice none 0 0] 25), (b1, .cells #[.int .i64 3, .string (bs [49]), .slice none 0 0, .slice none 0 0] 25)] w) ?_ ?_
 refine Ag (zs := []) (.free 0 (.free 1 (.free 4 (.act 2 (.act 3 (.act 5 (.act 6 (.act 7 (.act 8 (.free 9 (.free 10 (.free 11 (.free 12 (.free 13 .nil)))))))))))))) hF ?_
 clear hF; intro w hF
 refine Bk rfl (Bi isAgg25 sizeOf25 rfl C0 1 rfl rfl) (Bk rfl (Bi isAgg25 sizeOf25 rfl C0 0 rfl rfl) (Bk rfl (Bi isAgg25 sizeOf25 rfl C0 1 rfl rfl) ?_))
 refine Xb 2 rfl hF (Ka (cs := #[.int .i64 3, .string (bs [49]), .slice none 0 0, .slice none 0 0, .int .i64 3, .string (bs [50]), .slice none 0 0, .slice none 0 0]) underlying23 sizeOf25 zeroValue25 Oa Oa Fb) ?_
 clear hF; rintro b3 w hb3 hF -
 refine ⟨hF.drop 1, ?_⟩
 refine Wa hF (Ys (some ⟨b3, 0, none⟩) 2 2 _) rfl (Ua Ns rfl rfl) ?_
 clear hF; intro w hF
 refine ⟨hF.drop 1, ?_⟩
 refine Wa hF (Hr (v' := .agg #[.int .i64 3, .string (bs [51]), .slice none 0 0, .slice none 0 0]) (FF 3 by_Om by_Om _ (hG.ext hF.same)) Fb) rfl (Ua YO rfl rfl) ?_
 clear hF; intro w hF
 refine ⟨hF.drop 1, ?_⟩
 refine Xb 2 rfl hF (Ka (cs := #[.int .i64 3, .string (bs [49]), .slice none 0 0, .slice none 0 0, .int .i64 3, .string (bs [51]), .slice none 0 0, .slice none 0 0]) underlying23 sizeOf25 zeroValue25 Oa Oa Fb) ?_
 clear hF; rintro b4 w hb4 hF -
 refine ⟨hF.drop 2, ?_⟩
 refine Wa hF (Ys (some ⟨b4, 0, none⟩) 2 2 _) rfl (Ua Ns rfl rfl) ?_
 clear hF; intro w hF
 refine ⟨hF.drop 2, ?_⟩
 refine Wa hF (QT hG hF 1 rfl 0 rfl) rfl (Pa Sg rfl rfl rfl) ?_
 clear hF; intro w hF
 refine ⟨hF.drop 2, ?_⟩
 refine Eb rfl (Qg rfl) (Eb rfl (Re rfl rfl) (Eb rfl (Re rfl rfl) (Eb rfl (Kb rfl) (Eb rfl (Kb rfl) (Ic ?_)))))
 exact Gb ⟨An, ((((hF.front 3 rfl).front 3 rfl).erase 2).erase 2)⟩
 clear hF; rintro σ w ⟨hs, hF⟩
 refine Eg.slots hs ?_
 clear hs; intro σ
 refine Ja (Ia ?_)
 refine Hf (fun σ w => AllEq σ [(1, .pointer (some ⟨b1, 0, none⟩)), (3, .int .i64 1), (4, .int .i64 0), (5, .int .i64 1), (6, .int .i64 0)] ∧ FR w0 [] [(b2, .cells #[.int .i64 3, .string (bs [50]), .slice none 0 0, .slice none 0 0] 25), (b1, .cells #[.int .i64 3, .string (bs [49]), .slice none 0 0, .slice none 0 0] 25)] w) ?_ ?_
 refine Ag (zs := []) (.free 0 (.free 1 (.free 4 (.alt 2 (.alt 3 (.act 5 (.act 6 (.act 7 (.free 8 (.free 9 (.free 10 (.free 11 (.free 12 .nil)))))))) (.act 5 (.act 3 (.act 6 (.act 7 (.free 8 (.free 9 (.free 10 (.free 11 (.free 12 .nil)))))))))) (.act 5 (.act 2 (.act 3 (.act 6 (.act 7 (.free 8 (.free 9 (.free 10 (.free 11 (.free 12 .nil)))))))))))))) hF ?_
 clear hF; intro w hF
 refine Bk rfl (Bi isAgg25 sizeOf25 rfl C0 1 rfl rfl) (Bk rfl (Bi isAgg25 sizeOf25 rfl C0 0 rfl rfl) (Bk rfl (Bi isAgg25 sizeOf25 rfl C0 0 rfl rfl) ?_))
 refine Ue ?_ ?_
 refine Xb 2 rfl hF (Ka (cs := #[.int .i64 3, .string (bs [49]), .slice none 0 0, .slice none 0 0, .int .i64 3, .string (bs [50]), .slice none 0 0, .slice none 0 0]) underlying23 sizeOf25 zeroValue25 Oa Oa Fb) ?_
 clear hF; rintro b5 w hb5 hF -
 refine ⟨hF.drop 1, ?_⟩
 refine Ue ?_ ?_
 refine Wa hF (Ys (some ⟨b5, 0, none⟩) 2 2 _) rfl (Ua Ns rfl rfl) ?_
 clear hF; intro w hF
 refine ⟨hF.drop 1, ?_⟩
 refine Xb 1 rfl hF (Ka (cs := #[.int .i64 3, .string (bs [50]), .slice none 0 0, .slice none 0 0]) underlying23 sizeOf25 zeroValue25 Oa Oa Fb) ?_
 clear hF; rintro b6 w hb6 hF -
 refine ⟨hF.drop 2, ?_⟩
 refine Wa hF (Ys (some ⟨b6, 0, none⟩) 1 1 _) rfl (Ua Ns rfl rfl) ?_
 clear hF; intro w hF
 refine ⟨hF.drop 2, ?_⟩
 refine Wa hF (ZN hG hF 1 rfl 0 rfl) rfl (Pa Sg rfl rfl rfl) ?_
 clear hF; intro w hF
 refine ⟨hF.drop 2, ?_⟩
 refine Eb rfl (Qg rfl) (Eb rfl (Re rfl rfl) (Eb rfl (Re rfl rfl) (Eb rfl (Kb rfl) (Eb rfl (Kb rfl) (Ic ?_)))))
 exact Gb ⟨Fp, ((((hF.front 3 rfl).front 3 rfl).erase 2).erase 2)⟩
 refine Xb 1 rfl hF (Ka (cs := #[.int .i64 3, .string (bs [50]), .slice none 0 0, .slice none 0 0]) underlying23 sizeOf25 zeroValue25 Oa Oa Fb) ?_
 clear hF; rintro b7 w hb7 hF -
 refine ⟨hF.drop 2, ?_⟩
 refine Wa hF (Ys (some ⟨b5, 0, none⟩) 2 2 _) rfl (Ua Ns rfl rfl) ?_
 clear hF; intro w hF
 refine ⟨hF.drop 2, ?_⟩
 refine Wa hF (Ys (some ⟨b7, 0, none⟩) 1 1 _) rfl (Ua Ns rfl rfl) ?_
 clear hF; intro w hF
 refine ⟨hF.drop 2, ?_⟩
 refine Wa hF (ZN hG hF 1 rfl 0 rfl) rfl (Pa Sg rfl rfl rfl) ?_
 clear hF; intro w hF
 refine ⟨hF.drop 2, ?_⟩
 refine Eb rfl (Qg rfl) (Eb rfl (Re rfl rfl) (Eb rfl (Re rfl rfl) (Eb rfl (Kb rfl) (Eb rfl (Kb rfl) (Ic ?_)))))
 exact Gb ⟨Fp, ((((hF.front 3 rfl).front 3 rfl).erase 2).erase 2)⟩
 refine Xb 1 rfl hF (Ka (cs := #[.int .i64 3, .string (bs [50]), .slice none 0 0, .slice none 0 0]) underlying23 sizeOf25 zeroValue25 Oa Oa Fb) ?_
 clear hF; rintro b8 w hb8 hF -
 refine ⟨hF.drop 1, ?_⟩
 refine Xb 2 rfl hF (Ka (cs := #[.int .i64 3, .string (bs [49]), .slice none 0 0, .slice none 0 0, .int .i64 3, .string (bs [50]), .slice none 0 0, .slice none 0 0]) underlying23 sizeOf25 zeroValue25 Oa Oa Fb) ?_
 clear hF; rintro b9 w hb9 hF -
 refine ⟨hF.drop 2, ?_⟩
 refine Wa hF (Ys (some ⟨b9, 0, none⟩) 2 2 _) rfl (Ua Ns rfl rfl) ?_
 clear hF; intro w hF
 refine ⟨hF.drop 2, ?_⟩
 refine Wa hF (Ys (some ⟨b8, 0, none⟩) 1 1 _) rfl (Ua Ns rfl rfl) ?_
 clear hF; intro w hF
 refine ⟨hF.drop 2, ?_⟩
 refine Wa hF (ZN hG hF 0 rfl 1 rfl) rfl (Pa Sg rfl rfl rfl) ?_
 clear hF; intro w hF
 refine ⟨hF.drop 2, ?_⟩
 refine Eb rfl (Qg rfl) (Eb rfl (Re rfl rfl) (Eb rfl (Re rfl rfl) (Eb rfl (Kb rfl) (Eb rfl (Kb rfl) (Ic ?_)))))
 exact Gb ⟨Fp, ((((hF.front 3 rfl).front 3 rfl).erase 2).erase 2)⟩
 clear hF; rintro σ w ⟨hs, hF⟩
 refine Eg.slots hs ?_
 clear hs; intro σ
 refine Ja (Ia ?_)
 refine Hf (fun σ w => AllEq σ [(1, .pointer (some ⟨b1, 0, none⟩)), (3, .int .i64 1), (4, .int .i64 0), (5, .int .i64 1), (6, .int .i64 0), (7, .int .i64 1), (8, .int .i64 0)] ∧ FR w0 [] [(b2, .cells #[.int .i64 3, .string (bs [50]), .slice none 0 0, .slice none 0 0] 25), (b1, .cells #[.int .i64 3, .string (bs [49]), .slice none 0 0, .slice none 0 0] 25)] w) ?_ ?_
 refine Ag (zs := []) (.free 0 (.free 1 (.act 2 (.act 3 (.act 4 (.free 5 (.free 6 (.free 7 (.free 8 (.free 9 .nil)))))))))) hF ?_
 clear hF; intro w hF
 refine Bk rfl (Bi isAgg25 sizeOf25 rfl C0 1 rfl rfl) (Bk rfl (Bi isAgg25 sizeOf25 rfl C0 1 rfl rfl) ?_)
 refine Xb 1 rfl hF (Ka (cs := #[.int .i64 3, .string (bs [49]), .slice none 0 0, .slice none 0 0]) underlying23 sizeOf25 zeroValue25 Oa Oa Fb) ?_
 clear hF; rintro b10 w hb10 hF -
 refine ⟨hF.drop 1, ?_⟩
 refine Wa hF (Ys (some ⟨b10, 0, none⟩) 1 1 _) rfl (Ua Ns rfl rfl) ?_
 clear hF; intro w hF
 refine ⟨hF.drop 1, ?_⟩
 refine Wa hF (JT hG hF 0 rfl) rfl (Pa Sg rfl rfl rfl) ?_
 clear hF; intro w hF
 refine ⟨hF.drop 1, ?_⟩
 refine Eb rfl (Qg rfl) (Eb rfl (Re rfl rfl) (Eb rfl (Re rfl rfl) (Eb rfl (Kb rfl) (Eb rfl (Kb rfl) (Ic ?_)))))
 exact Gb ⟨SB, (((hF.front 2 rfl).front 2 rfl).erase 2)⟩
 clear hF; rintro σ w ⟨hs, hF⟩
 refine Eg.slots hs ?_
 clear hs; intro σ
 refine Ja (Ia ?_)
 refine Hf (fun σ w => AllEq σ [(1, .pointer (some ⟨b1, 0, none⟩)), (3, .int .i64 1), (4, .int .i64 0), (5, .int .i64 1), (6, .int .i64 0), (7, .int .i64 1), (8, .int .i64 0), (9, .int .i64 1), (10, .int .i64 0)] ∧ FR w0 [] [(b2, .cells #[.int .i64 3, .string (bs [50]), .slice none 0 0, .slice none 0 0] 25), (b1, .cells #[.int .i64 3, .string (bs [49]), .slice none 0 0, .slice none 0 0] 25)] w) ?_ ?_
 refine Ag (zs := []) (.free 1 (.free 5 (.alt 0 (.alt 2 (.alt 3 (.alt 4 (.act 6 (.act 7 (.act 8 (.free 9 (.free 10 (.free 11 (.free 12 (.free 13 .nil)))))))) (.act 6 (.act 4 (.act 7 (.act 8 (.free 9 (.free 10 (.free 11 (.free 12 (.free 13 .nil)))))))))) (.alt 4 (.alt 3 (.act 6 (.act 7 (.act 8 (.free 9 (.free 10 (.free 11 (.free 12 (.free 13 .nil)))))))) (.act 6 (.act 3 (.act 7 (.act 8 (.free 9 (.free 10 (.free 11 (.free 12 (.free 13 .nil)))))))))) (.act 6 (.alt 3 (.act 4 (.act 7 (.act 8 (.free 9 (.free 10 (.free 11 (.free 12 (.free 13 .nil)))))))) (.act 4 (.act 3 (.act 7 (.act 8 (.free 9 (.free 10 (.free 11 (.free 12 (.free 13 .nil))))))))))))) (.alt 4 (.alt 2 (.alt 3 (.act 6 (.act 7 (.act 8 (.free 9 (.free 10 (.free 11 (.free 12 (.free 13 .nil)))))))) (.act 6 (.act 3 (.act 7 (.act 8 (.free 9 (.free 10 (.free 11 (.free 12 (.free 13 .nil)))))))))) (.act 6 (.act 2 (.act 3 (.act 7 (.act 8 (.free 9 (.free 10 (.free 11 (.free 12 (.free 13 .nil))))))))))) (.act 6 (.alt 2 (.alt 3 (.act 4 (.act 7 (.act 8 (.free 9 (.free 10 (.free 11 (.free 12 (.free 13 .nil)))))))) (.act 4 (.act 3 (.act 7 (.act 8 (.free 9 (.free 10 (.free 11 (.free 12 (.free 13 .nil)))))))))) (.act 4 (.act 2 (.act 3 (.act 7 (.act 8 (.free 9 (.free 10 (.free 11 (.free 12 (.free 13 .nil)))))))))))))) (.alt 2 (.alt 0 (.alt 3 (.alt 4 (.act 6 (.act 7 (.act 8 (.free 9 (.free 10 (.free 11 (.free 12 (.free 13 .nil)))))))) (.act 6 (.act 4 (.act 7 (.act 8 (.free 9 (.free 10 (.free 11 (.free 12 (.free 13 .nil)))))))))) (.alt 4 (.alt 3 (.act 6 (.act 7 (.act 8 (.free 9 (.free 10 (.free 11 (.free 12 (.free 13 .nil)))))))) (.act 6 (.act 3 (.act 7 (.act 8 (.free 9 (.free 10 (.free 11 (.free 12 (.free 13 .nil)))))))))) (.act 6 (.alt 3 (.act 4 (.act 7 (.act 8 (.free 9 (.free 10 (.free 11 (.free 12 (.free 13 .nil)))))))) (.act 4 (.act 3 (.act 7 (.act 8 (.free 9 (.free 10 (.free 11 (.free 12 (.free 13 .nil))))))))))))) (.alt 4 (.alt 0 (.alt 3 (.act 6 (.act 7 (.act 8 (.free 9 (.free 10 (.free 11 (.free 12 (.free 13 .nil)))))))) (.act 6 (.act 3 (.act 7 (.act 8 (.free 9 (.free 10 (.free 11 (.free 12 (.free 13 .nil)))))))))) (.act 6 (.act 0 (.act 3 (.act 7 (.act 8 (.free 9 (.free 10 (.free 11 (.free 12 (.free 13 .nil))))))))))) (.act 6 (.alt 0 (.alt 3 (.act 4 (.act 7 (.act 8 (.free 9 (.free 10 (.free 11 (.free 12 (.free 13 .nil)))))))) (.act 4 (.act 3 (.act 7 (.act 8 (.free 9 (.free 10 (.free 11 (.free 12 (.free 13 .nil)))))))))) (.act 4 (.act 0 (.act 3 (.act 7 (.act 8 (.free 9 (.free 10 (.free 11 (.free 12 (.free 13 .nil)))))))))))))) (.alt 4 (.alt 0 (.alt 2 (.alt 3 (.act 6 (.act 7 (.act 8 (.free 9 (.free 10 (.free 11 (.free 12 (.free 13 .nil)))))))) (.act 6 (.act 3 (.act 7 (.act 8 (.free 9 (.free 10 (.free 11 (.free 12 (.free 13 .nil)))))))))) (.act 6 (.act 2 (.act 3 (.act 7 (.act 8 (.free 9 (.free 10 (.free 11 (.free 12 (.free 13 .nil))))))))))) (.alt 2 (.alt 0 (.alt 3 (.act 6 (.act 7 (.act 8 (.free 9 (.free 10 (.free 11 (.free 12 (.free 13 .nil)))))))) (.act 6 (.act 3 (.act 7 (.act 8 (.free 9 (.free 10 (.free 11 (.free 12 (.free 13 .nil)))))))))) (.act 6 (.act 0 (.act 3 (.act 7 (.act 8 (.free 9 (.free 10 (.free 11 (.free 12 (.free 13 .nil))))))))))) (.act 6 (.alt 0 (.act 2 (.act 3 (.act 7 (.act 8 (.free 9 (.free 10 (.free 11 (.free 12 (.free 13 .nil))))))))) (.act 2 (.act 0 (.act 3 (.act 7 (.act 8 (.free 9 (.free 10 (.free 11 (.free 12 (.free 13 .nil)))))))))))))) (.act 6 (.alt 0 (.alt 2 (.alt 3 (.act 4 (.act 7 (.act 8 (.free 9 (.free 10 (.free 11 (.free 12 (.free 13 .nil)))))))) (.act 4 (.act 3 (.act 7 (.act 8 (.free 9 (.free 10 (.free 11 (.free 12 (.free 13 .nil)))))))))) (.act 4 (.act 2 (.act 3 (.act 7 (.act 8 (.free 9 (.free 10 (.free 11 (.free 12 (.free 13 .nil))))))))))) (.alt 2 (.alt 0 (.alt 3 (.act 4 (.act 7 (.act 8 (.free 9 (.free 10 (.free 11 (.free 12 (.free 13 .nil)))))))) (.act 4 (.act 3 (.act 7 (.act 8 (.free 9 (.free 10 (.free 11 (.free 12 (.free 13 .nil)))))))))) (.act 4 (.act 0 (.act 3 (.act 7 (.act 8 (.free 9 (.free 10 (.free 11 (.free 12 (.free 13 .nil))))))))))) (.act 4 (.alt 0 (.act 2 (.act 3 (.act 7 (.act 8 (.free 9 (.free 10 (.free 11 (.free 12 (.free 13 .nil))))))))) (.act 2 (.act 0 (.act 3 (.act 7 (.act 8 (.free 9 (.free 10 (.free 11 (.free 12 (.free 13 .nil)))))))))))))))))))) hF ?_
 clear hF; intro w hF
 refine Bk rfl (Bi isAgg25 sizeOf25 rfl C0 1 rfl rfl) (Bk rfl (Bi isAgg25 sizeOf25 rfl C0 1 rfl rfl) ?_)
 refine Ue ?_ ?_
 refine Xb 1 rfl hF (Ka (cs := #[.string (bs [97])]) underlying22 sizeOf9 zeroValue9 Oa Oa Fb) ?_
 clear hF; rintro b11 w hb11 hF -
 refine ⟨hF.drop 1, ?_⟩
 refine Ue ?_ ?_
 refine Xb 1 rfl hF (Ka (cs := #[.int .i64 3, .string (bs [49]), .slice none 0 0, .slice none 0 0]) underlying23 sizeOf25 zeroValue25 Oa Oa Fb) ?_
 clear hF; rintro b12 w hb12 hF -
 refine ⟨hF.drop 2, ?_⟩
 refine Ue ?_ ?_
 refine Wa hF (Cd (some ⟨b11, 0, none⟩) 1 1 (some ⟨b12, 0, none⟩) 1 1 _) rfl (Pa Ad rfl rfl rfl) ?_
 clear hF; intro w hF
 refine ⟨hF.drop 2, ?_⟩
 refine Ue ?_ ?_
 refine Xb 1 rfl hF (Ka (cs := #[.string (bs [98])]) underlying22 sizeOf9 zeroValue9 Oa Oa Fb) ?_
 clear hF; rintro b13 w hb13 hF -
 refine ⟨hF.drop 3, ?_⟩
 refine Xb 1 rfl hF (Ka (cs := #[.int .i64 3, .string (bs [49]), .slice none 0 0, .slice none 0 0]) underlying23 sizeOf25 zeroValue25 Oa Oa Fb) ?_
 clear hF; rintro b14 w hb14 hF -
 refine ⟨hF.drop 4, ?_⟩
 refine Wa hF (Cd (some ⟨b13, 0, none⟩) 1 1 (some ⟨b14, 0, none⟩) 1 1 _) rfl (Pa Ad rfl rfl rfl) ?_
 clear hF; intro w hF
 refine ⟨hF.drop 4, ?_⟩
 refine Wa hF (Mi hG hF 3 rfl 2 rfl 1 rfl 0 rfl) rfl (Pa Sg rfl rfl rfl) ?_
 clear hF; intro w hF
 refine ⟨hF.drop 4, ?_⟩
 refine Eb rfl (Qg rfl) (Eb rfl (Re rfl rfl) (Eb rfl (Re rfl rfl) (Eb rfl (Kb rfl) (Eb rfl (Kb rfl) (Ic ?_)))))
 exact Gb ⟨Ro, ((((((hF.front 5 rfl).front 5 rfl).erase 2).erase 2).erase 2).erase 2)⟩
 refine Xb 1 rfl hF (Ka (cs := #[.int .i64 3, .string (bs [49]), .slice none 0 0, .slice none 0 0]) underlying23 sizeOf25 zeroValue25 Oa Oa Fb) ?_
 clear hF; rintro b15 w hb15 hF -
 refine ⟨hF.drop 3, ?_⟩
 refine Xb 1 rfl hF (Ka (cs := #[.string (bs [98])]) underlying22 sizeOf9 zeroValue9 Oa Oa Fb) ?_
 clear hF; rintro b16 w hb16 hF -
 refine ⟨hF.drop 4, ?_⟩
 refine Wa hF (Cd (some ⟨b16, 0, none⟩) 1 1 (some ⟨b15, 0, none⟩) 1 1 _) rfl (Pa Ad rfl rfl rfl) ?_
 clear hF; intro w hF
 refine ⟨hF.drop 4, ?_⟩
 refine Wa hF (Mi hG hF 3 rfl 2 rfl 0 rfl 1 rfl) rfl (Pa Sg rfl rfl rfl) ?_
 clear hF; intro w hF
 refine ⟨hF.drop 4, ?_⟩
 refine Eb rfl (Qg rfl) (Eb rfl (Re rfl rfl) (Eb rfl (Re rfl rfl) (Eb rfl (Kb rfl) (Eb rfl (Kb rfl) (Ic ?_)))))
 exact Gb ⟨Ro, ((((((hF.front 5 rfl).front 5 rfl).erase 2).erase 2).erase 2).erase 2)⟩
 refine Ue ?_ ?_
 refine Xb 1 rfl hF (Ka (cs := #[.string (bs [98])]) underlying22 sizeOf9 zeroValue9 Oa Oa Fb) ?_
 clear hF; rintro b17 w hb17 hF -
 refine ⟨hF.drop 3, ?_⟩
 refine Ue ?_ ?_
 refine Wa hF (Cd (some ⟨b11, 0, none⟩) 1 1 (some ⟨b12, 0, none⟩) 1 1 _) rfl (Pa Ad rfl rfl rfl) ?_
 clear hF; intro w hF
 refine ⟨hF.drop 3, ?_⟩
 refine Xb 1 rfl hF (Ka (cs := #[.int .i64 3, .string (bs [49]), .slice none 0 0, .slice none 0 0]) underlying23 sizeOf25 zeroValue25 Oa Oa Fb) ?_
 clear hF; rintro b18 w hb18 hF -
 refine ⟨hF.drop 4, ?_⟩
 refine Wa hF (Cd (some ⟨b17, 0, none⟩) 1 1 (some ⟨b18, 0, none⟩) 1 1 _) rfl (Pa Ad rfl rfl rfl) ?_
 clear hF; intro w hF
 refine ⟨hF.drop 4, ?_⟩
 refine Wa hF (Mi hG hF 3 rfl 2 rfl 1 rfl 0 rfl) rfl (Pa Sg rfl rfl rfl) ?_
 clear hF; intro w hF
 refine ⟨hF.drop 4, ?_⟩
 refine Eb rfl (Qg rfl) (Eb rfl (Re rfl rfl) (Eb rfl (Re rfl rfl) (Eb rfl (Kb rfl) (Eb rfl (Kb rfl) (Ic ?_)))))
 exact Gb ⟨Ro, ((((((hF.front 5 rfl).front 5 rfl).erase 2).erase 2).erase 2).erase 2)⟩
 refine Xb 1 rfl hF (Ka (cs := #[.int .i64 3, .string (bs [49]), .slice none 0 0, .slice none 0 0]) underlying23 sizeOf25 zeroValue25 Oa Oa Fb) ?_
 clear hF; rintro b19 w hb19 hF -
 refine ⟨hF.drop 4, ?_⟩
 refine Wa hF (Cd (some ⟨b11, 0, none⟩) 1 1 (some ⟨b12, 0, none⟩) 1 1 _) rfl (Pa Ad rfl rfl rfl) ?_
 clear hF; intro w hF
 refine ⟨hF.drop 4, ?_⟩
 refine Wa hF (Cd (some ⟨b17, 0, none⟩) 1 1 (some ⟨b19, 0, none⟩) 1 1 _) rfl (Pa Ad rfl rfl rfl) ?_
 clear hF; intro w hF
 refine ⟨hF.drop 4, ?_⟩
 refine Wa hF (Mi hG hF 3 rfl 2 rfl 1 rfl 0 rfl) rfl (Pa Sg rfl rfl rfl) ?_
 clear hF; intro w hF
 refine ⟨hF.drop 4, ?_⟩
 refine Eb rfl (Qg rfl) (Eb rfl (Re rfl rfl) (Eb rfl (Re rfl rfl) (Eb rfl (Kb rfl) (Eb rfl (Kb rfl) (Ic ?_)))))
 exact Gb ⟨Ro, ((((((hF.front 5 rfl).front 5 rfl).erase 2).erase 2).erase 2).erase 2)⟩
 refine Xb 1 rfl hF (Ka (cs := #[.int .i64 3, .string (bs [49]), .slice none 0 0, .slice none 0 0]) underlying23 sizeOf25 zeroValue25 Oa Oa Fb) ?_
 clear hF; rintro b20 w hb20 hF -
 refine ⟨hF.drop 3, ?_⟩
 refine Ue ?_ ?_
 refine Wa hF (Cd (some ⟨b11, 0, none⟩) 1 1 (some ⟨b12, 0, none⟩) 1 1 _) rfl (Pa Ad rfl rfl rfl) ?_
 clear hF; intro w hF
 refine ⟨hF.drop 3, ?_⟩
 refine Xb 1 rfl hF (Ka (cs := #[.string (bs [98])]) underlying22 sizeOf9 zeroValue9 Oa Oa Fb) ?_
 clear hF; rintro b21 w hb21 hF -
 refine ⟨hF.drop 4, ?_⟩
 refine Wa hF (Cd (some ⟨b21, 0, none⟩) 1 1 (some ⟨b20, 0, none⟩) 1 1 _) rfl (Pa Ad rfl rfl rfl) ?_
 clear hF; intro w hF
 refine ⟨hF.drop 4, ?_⟩
 refine Wa hF (Mi hG hF 3 rfl 2 rfl 0 rfl 1 rfl) rfl (Pa Sg rfl rfl rfl) ?_
 clear hF; intro w hF
 refine ⟨hF.drop 4, ?_⟩
 refine Eb rfl (Qg rfl) (Eb rfl (Re rfl rfl) (Eb rfl (Re rfl rfl) (Eb rfl (Kb rfl) (Eb rfl (Kb rfl) (Ic ?_)))))
 exact Gb ⟨Ro, ((((((hF.front 5 rfl).front 5 rfl).erase 2).erase 2).erase 2).erase 2)⟩
 refine Xb 1 rfl hF (Ka (cs := #[.string (bs [98])]) underlying22 sizeOf9 zeroValue9 Oa Oa Fb) ?_
 clear hF; rintro b22 w hb22 hF -
 refine ⟨hF.drop 4, ?_⟩
 refine Wa hF (Cd (some ⟨b11, 0, none⟩) 1 1 (some ⟨b12, 0, none⟩) 1 1 _) rfl (Pa Ad rfl rfl rfl) ?_
 clear hF; intro w hF
 refine ⟨hF.drop 4, ?_⟩
 refine Wa hF (Cd (some ⟨b22, 0, none⟩) 1 1 (some ⟨b20, 0, none⟩) 1 1 _) rfl (Pa Ad rfl rfl rfl) ?_
 clear hF; intro w hF
 refine ⟨hF.drop 4, ?_⟩
 refine Wa hF (Mi hG hF 3 rfl 2 rfl 0 rfl 1 rfl) rfl (Pa Sg rfl rfl rfl) ?_
 clear hF; intro w hF
 refine ⟨hF.drop 4, ?_⟩
 refine Eb rfl (Qg rfl) (Eb rfl (Re rfl rfl) (Eb rfl (Re rfl rfl) (Eb rfl (Kb rfl) (Eb rfl (Kb rfl) (Ic ?_)))))
 exact Gb ⟨Ro, ((((((hF.front 5 rfl).front 5 rfl).erase 2).erase 2).erase 2).erase 2)⟩
 refine Ue ?_ ?_
 refine Xb 1 rfl hF (Ka (cs := #[.string (bs [98])]) underlying22 sizeOf9 zeroValue9 Oa Oa Fb) ?_
 clear hF; rintro b23 w hb23 hF -
 refine ⟨hF.drop 2, ?_⟩
 refine Ue ?_ ?_
 refine Xb 1 rfl hF (Ka (cs := #[.int .i64 3, .string (bs [49]), .slice none 0 0, .slice none 0 0]) underlying23 sizeOf25 zeroValue25 Oa Oa Fb) ?_
 clear hF; rintro b24 w hb24 hF -
 refine ⟨hF.drop 3, ?_⟩
 refine Ue ?_ ?_
 refine Wa hF (Cd (some ⟨b11, 0, none⟩) 1 1 (some ⟨b24, 0, none⟩) 1 1 _) rfl (Pa Ad rfl rfl rfl) ?_
 clear hF; intro w hF
 refine ⟨hF.drop 3, ?_⟩
 refine Xb 1 rfl hF (Ka (cs := #[.int .i64 3, .string (bs [49]), .slice none 0 0, .slice none 0 0]) underlying23 sizeOf25 zeroValue25 Oa Oa Fb) ?_
 clear hF; rintro b25 w hb25 hF -
 refine ⟨hF.drop 4, ?_⟩
 refine Wa hF (Cd (some ⟨b23, 0, none⟩) 1 1 (some ⟨b25, 0, none⟩) 1 1 _) rfl (Pa Ad rfl rfl rfl) ?_
 clear hF; intro w hF
 refine ⟨hF.drop 4, ?_⟩
 refine Wa hF (Mi hG hF 3 rfl 1 rfl 2 rfl 0 rfl) rfl (Pa Sg rfl rfl rfl) ?_
 clear hF; intro w hF
 refine ⟨hF.drop 4, ?_⟩
 refine Eb rfl (Qg rfl) (Eb rfl (Re rfl rfl) (Eb rfl (Re rfl rfl) (Eb rfl (Kb rfl) (Eb rfl (Kb rfl) (Ic ?_)))))
 exact Gb ⟨Ro, ((((((hF.front 5 rfl).front 5 rfl).erase 2).erase 2).erase 2).erase 2)⟩
 refine Xb 1 rfl hF (Ka (cs := #[.int .i64 3, .string (bs [49]), .slice none 0 0, .slice none 0 0]) underlying23 sizeOf25 zeroValue25 Oa Oa Fb) ?_
 clear hF; rintro b26 w hb26 hF -
 refine ⟨hF.drop 4, ?_⟩
 refine Wa hF (Cd (some ⟨b11, 0, none⟩) 1 1 (some ⟨b24, 0, none⟩) 1 1 _) rfl (Pa Ad rfl rfl rfl) ?_
 clear hF; intro w hF
 refine ⟨hF.drop 4, ?_⟩
 refine Wa hF (Cd (some ⟨b23, 0, none⟩) 1 1 (some ⟨b26, 0, none⟩) 1 1 _) rfl (Pa Ad rfl rfl rfl) ?_
 clear hF; intro w hF
 refine ⟨hF.drop 4, ?_⟩
 refine Wa hF (Mi hG hF 3 rfl 1 rfl 2 rfl 0 rfl) rfl (Pa Sg rfl rfl rfl) ?_
 clear hF; intro w hF
 refine ⟨hF.drop 4, ?_⟩
 refine Eb rfl (Qg rfl) (Eb rfl (Re rfl rfl) (Eb rfl (Re rfl rfl) (Eb rfl (Kb rfl) (Eb rfl (Kb rfl) (Ic ?_)))))
 exact Gb ⟨Ro, ((((((hF.front 5 rfl).front 5 rfl).erase 2).erase 2).erase 2).erase 2)⟩
 refine Xb 1 rfl hF (Ka (cs := #[.int .i64 3, .string (bs [49]), .slice none 0 0, .slice none 0 0]) underlying23 sizeOf25 zeroValue25 Oa Oa Fb) ?_
 clear hF; rintro b27 w hb27 hF -
 refine ⟨hF.drop 3, ?_⟩
 refine Xb 1 rfl hF (Ka (cs := #[.int .i64 3, .string (bs [49]), .slice none 0 0, .slice none 0 0]) underlying23 sizeOf25 zeroValue25 Oa Oa Fb) ?_
 clear hF; rintro b28 w hb28 hF -
 refine ⟨hF.drop 4, ?_⟩
 refine Wa hF (Cd (some ⟨b11, 0, none⟩) 1 1 (some ⟨b28, 0, none⟩) 1 1 _) rfl (Pa Ad rfl rfl rfl) ?_
 clear hF; intro w hF
 refine ⟨hF.drop 4, ?_⟩
 refine Wa hF (Cd (some ⟨b23, 0, none⟩) 1 1 (some ⟨b27, 0, none⟩) 1 1 _) rfl (Pa Ad rfl rfl rfl) ?_
 clear hF; intro w hF
 refine ⟨hF.drop 4, ?_⟩
 refine Wa hF (Mi hG hF 3 rfl 0 rfl 2 rfl 1 rfl) rfl (Pa Sg rfl rfl rfl) ?_
 clear hF; intro w hF
 refine ⟨hF.drop 4, ?_⟩
 refine Eb rfl (Qg rfl) (Eb rfl (Re rfl rfl) (Eb rfl (Re rfl rfl) (Eb rfl (Kb rfl) (Eb rfl (Kb rfl) (Ic ?_)))))
 exact Gb ⟨Ro, ((((((hF.front 5 rfl).front 5 rfl).erase 2).erase 2).erase 2).erase 2)⟩
 refine Xb 1 rfl hF (Ka (cs := #[.int .i64 3, .string (bs [49]), .slice none 0 0, .slice none 0 0]) underlying23 sizeOf25 zeroValue25 Oa Oa Fb) ?_
 clear hF; rintro b29 w hb29 hF -
 refine ⟨hF.drop 2, ?_⟩
 refine Ue ?_ ?_
 refine Xb 1 rfl hF (Ka (cs := #[.int .i64 3, .string (bs [49]), .slice none 0 0, .slice none 0 0]) underlying23 sizeOf25 zeroValue25 Oa Oa Fb) ?_
 clear hF; rintro b30 w hb30 hF -
 refine ⟨hF.drop 3, ?_⟩
 refine Ue ?_ ?_
 refine Wa hF (Cd (some ⟨b11, 0, none⟩) 1 1 (some ⟨b30, 0, none⟩) 1 1 _) rfl (Pa Ad rfl rfl rfl) ?_
 clear hF; intro w hF
 refine ⟨hF.drop 3, ?_⟩
 refine Xb 1 rfl hF (Ka (cs := #[.string (bs [98])]) underlying22 sizeOf9 zeroValue9 Oa Oa Fb) ?_
 clear hF; rintro b31 w hb31 hF -
 refine ⟨hF.drop 4, ?_⟩
 refine Wa hF (Cd (some ⟨b31, 0, none⟩) 1 1 (some ⟨b29, 0, none⟩) 1 1 _) rfl (Pa Ad rfl rfl rfl) ?_
 clear hF; intro w hF
 refine ⟨hF.drop 4, ?_⟩
 refine Wa hF (Mi hG hF 3 rfl 1 rfl 0 rfl 2 rfl) rfl (Pa Sg rfl rfl rfl) ?_
 clear hF; intro w hF
 refine ⟨hF.drop 4, ?_⟩
 refine Eb rfl (Qg rfl) (Eb rfl (Re rfl rfl) (Eb rfl (Re rfl rfl) (Eb rfl (Kb rfl) (Eb rfl (Kb rfl) (Ic ?_)))))
 exact Gb ⟨Ro, ((((((hF.front 5 rfl).front 5 rfl).erase 2).erase 2).erase 2).erase 2)⟩
 refine Xb 1 rfl hF (Ka (cs := #[.string (bs [98])]) underlying22 sizeOf9 zeroValue9 Oa Oa Fb) ?_
 clear hF; rintro b32 w hb32 hF -
 refine ⟨hF.drop 4, ?_⟩
 refine Wa hF (Cd (some ⟨b11, 0, none⟩) 1 1 (some ⟨b30, 0, none⟩) 1 1 _) rfl (Pa Ad rfl rfl rfl) ?_
 clear hF; intro w hF
 refine ⟨hF.drop 4, ?_⟩
 refine Wa hF (Cd (some ⟨b32, 0, none⟩) 1 1 (some ⟨b29, 0, none⟩) 1 1 _) rfl (Pa Ad rfl rfl rfl) ?_
 clear hF; intro w hF
 refine ⟨hF.drop 4, ?_⟩
 refine Wa hF (Mi hG hF 3 rfl 1 rfl 0 rfl 2 rfl) rfl (Pa Sg rfl rfl rfl) ?_
 clear hF; intro w hF
 refine ⟨hF.drop 4, ?_⟩
 refine Eb rfl (Qg rfl) (Eb rfl (Re rfl rfl) (Eb rfl (Re rfl rfl) (Eb rfl (Kb rfl) (Eb rfl (Kb rfl) (Ic ?_)))))
 exact Gb ⟨Ro, ((((((hF.front 5 rfl).front 5 rfl).erase 2).erase 2).erase 2).erase 2)⟩
 refine Xb 1 rfl hF (Ka (cs := #[.string (bs [98])]) underlying22 sizeOf9 zeroValue9 Oa Oa Fb) ?_
 clear hF; rintro b33 w hb33 hF -
 refine ⟨hF.drop 3, ?_⟩
 refine Xb 1 rfl hF (Ka (cs := #[.int .i64 3, .string (bs [49]), .slice none 0 0, .slice none 0 0]) underlying23 sizeOf25 zeroValue25 Oa Oa Fb) ?_
 clear hF; rintro b34 w hb34 hF -
 refine ⟨hF.drop 4, ?_⟩
 refine Wa hF (Cd (some ⟨b11, 0, none⟩) 1 1 (some ⟨b34, 0, none⟩) 1 1 _) rfl (Pa Ad rfl rfl rfl) ?_
 clear hF; intro w hF
 refine ⟨hF.drop 4, ?_⟩
 refine Wa hF (Cd (some ⟨b33, 0, none⟩) 1 1 (some ⟨b29, 0, none⟩) 1 1 _) rfl (Pa Ad rfl rfl rfl) ?_
 clear hF; intro w hF
 refine ⟨hF.drop 4, ?_⟩
 refine Wa hF (Mi hG hF 3 rfl 0 rfl 1 rfl 2 rfl) rfl (Pa Sg rfl rfl rfl) ?_
 clear hF; intro w hF
 refine ⟨hF.drop 4, ?_⟩
 refine Eb rfl (Qg rfl) (Eb rfl (Re rfl rfl) (Eb rfl (Re rfl rfl) (Eb rfl (Kb rfl) (Eb rfl (Kb rfl) (Ic ?_)))))
 exact Gb ⟨Ro, ((((((hF.front 5 rfl).front 5 rfl).erase 2).erase 2).erase 2).erase 2)⟩
 refine Ue ?_ ?_
 refine Xb 1 rfl hF (Ka (cs := #[.int .i64 3, .string (bs [49]), .slice none 0 0, .slice none 0 0]) underlying23 sizeOf25 zeroValue25 Oa Oa Fb) ?_
 clear hF; rintro b35 w hb35 hF -
 refine ⟨hF.drop 1, ?_⟩
 refine Ue ?_ ?_
 refine Xb 1 rfl hF (Ka (cs := #[.string (bs [97])]) underlying22 sizeOf9 zeroValue9 Oa Oa Fb) ?_
 clear hF; rintro b36 w hb36 hF -
 refine ⟨hF.drop 2, ?_⟩
 refine Ue ?_ ?_
 refine Wa hF (Cd (some ⟨b36, 0, none⟩) 1 1 (some ⟨b35, 0, none⟩) 1 1 _) rfl (Pa Ad rfl rfl rfl) ?_
 clear hF; intro w hF
 refine ⟨hF.drop 2, ?_⟩
 refine Ue ?_ ?_
 refine Xb 1 rfl hF (Ka (cs := #[.string (bs [98])]) underlying22 sizeOf9 zeroValue9 Oa Oa Fb) ?_
 clear hF; rintro b37 w hb37 hF -
 refine ⟨hF.drop 3, ?_⟩
 refine Xb 1 rfl hF (Ka (cs := #[.int .i64 3, .string (bs [49]), .slice none 0 0, .slice none 0 0]) underlying23 sizeOf25 zeroValue25 Oa Oa Fb) ?_
 clear hF; rintro b38 w hb38 hF -
 refine ⟨hF.drop 4, ?_⟩
 refine Wa hF (Cd (some ⟨b37, 0, none⟩) 1 1 (some ⟨b38, 0, none⟩) 1 1 _) rfl (Pa Ad rfl rfl rfl) ?_
 clear hF; intro w hF
 refine ⟨hF.drop 4, ?_⟩
 refine Wa hF (Mi hG hF 2 rfl 3 rfl 1 rfl 0 rfl) rfl (Pa Sg rfl rfl rfl) ?_
 clear hF; intro w hF
 refine ⟨hF.drop 4, ?_⟩
 refine Eb rfl (Qg rfl) (Eb rfl (Re rfl rfl) (Eb rfl (Re rfl rfl) (Eb rfl (Kb rfl) (Eb rfl (Kb rfl) (Ic ?_)))))
 exact Gb ⟨Ro, ((((((hF.front 5 rfl).front 5 rfl).erase 2).erase 2).erase 2).erase 2)⟩
 refine Xb 1 rfl hF (Ka (cs := #[.int .i64 3, .string (bs [49]), .slice none 0 0, .slice none 0 0]) underlying23 sizeOf25 zeroValue25 Oa Oa Fb) ?_
 clear hF; rintro b39 w hb39 hF -
 refine ⟨hF.drop 3, ?_⟩
 refine Xb 1 rfl hF (Ka (cs := #[.string (bs [98])]) underlying22 sizeOf9 zeroValue9 Oa Oa Fb) ?_
 clear hF; rintro b40 w hb40 hF -
 refine ⟨hF.drop 4, ?_⟩
 refine Wa hF (Cd (some ⟨b40, 0, none⟩) 1 1 (some ⟨b39, 0, none⟩) 1 1 _) rfl (Pa Ad rfl rfl rfl) ?_
 clear hF; intro w hF
 refine ⟨hF.drop 4, ?_⟩
 refine Wa hF (Mi hG hF 2 rfl 3 rfl 0 rfl 1 rfl) rfl (Pa Sg rfl rfl rfl) ?_
 clear hF; intro w hF
 refine ⟨hF.drop 4, ?_⟩
 refine Eb rfl (Qg rfl) (Eb rfl (Re rfl rfl) (Eb rfl (Re rfl rfl) (Eb rfl (Kb rfl) (Eb rfl (Kb rfl) (Ic ?_)))))
 exact Gb ⟨Ro, ((((((hF.front 5 rfl).front 5 rfl).erase 2).erase 2).erase 2).erase 2)⟩
 refine Ue ?_ ?_
 refine Xb 1 rfl hF (Ka (cs := #[.string (bs [98])]) underlying22 sizeOf9 zeroValue9 Oa Oa Fb) ?_
 clear hF; rintro b41 w hb41 hF -
 refine ⟨hF.drop 3, ?_⟩
 refine Ue ?_ ?_
 refine Wa hF (Cd (some ⟨b36, 0, none⟩) 1 1 (some ⟨b35, 0, none⟩) 1 1 _) rfl (Pa Ad rfl rfl rfl) ?_
 clear hF; intro w hF
 refine ⟨hF.drop 3, ?_⟩
 refine Xb 1 rfl hF (Ka (cs := #[.int .i64 3, .string (bs [49]), .slice none 0 0, .slice none 0 0]) underlying23 sizeOf25 zeroValue25 Oa Oa Fb) ?_
 clear hF; rintro b42 w hb42 hF -
 refine ⟨hF.drop 4, ?_⟩
 refine Wa hF (Cd (some ⟨b41, 0, none⟩) 1 1 (some ⟨b42, 0, none⟩) 1 1 _) rfl (Pa Ad rfl rfl rfl) ?_
 clear hF; intro w hF
 refine ⟨hF.drop 4, ?_⟩
 refine Wa hF (Mi hG hF 2 rfl 3 rfl 1 rfl 0 rfl) rfl (Pa Sg rfl rfl rfl) ?_
 clear hF; intro w hF
 refine ⟨hF.drop 4, ?_⟩
 refine Eb rfl (Qg rfl) (Eb rfl (Re rfl rfl) (Eb rfl (Re rfl rfl) (Eb rfl (Kb rfl) (Eb rfl (Kb rfl) (Ic ?_)))))
 exact Gb ⟨Ro, ((((((hF.front 5 rfl).front 5 rfl).erase 2).erase 2).erase 2).erase 2)⟩
 refine Xb 1 rfl hF (Ka (cs := #[.int .i64 3, .string (bs [49]), .slice none 0 0, .slice none 0 0]) underlying23 sizeOf25 zeroValue25 Oa Oa Fb) ?_
 clear hF; rintro b43 w hb43 hF -
 refine ⟨hF.drop 4, ?_⟩
 refine Wa hF (Cd (some ⟨b36, 0, none⟩) 1 1 (some ⟨b35, 0, none⟩) 1 1 _) rfl (Pa Ad rfl rfl rfl) ?_
 clear hF; intro w hF
 refine ⟨hF.drop 4, ?_⟩
 refine Wa hF (Cd (some ⟨b41, 0, none⟩) 1 1 (some ⟨b43, 0, none⟩) 1 1 _) rfl (Pa Ad rfl rfl rfl) ?_
 clear hF; intro w hF
 refine ⟨hF.drop 4, ?_⟩
 refine Wa hF (Mi hG hF 2 rfl 3 rfl 1 rfl 0 rfl) rfl (Pa Sg rfl rfl rfl) ?_
 clear hF; intro w hF
 refine ⟨hF.drop 4, ?_⟩
 refine Eb rfl (Qg rfl) (Eb rfl (Re rfl rfl) (Eb rfl (Re rfl rfl) (Eb rfl (Kb rfl) (Eb rfl (Kb rfl) (Ic ?_)))))
 exact Gb ⟨Ro, ((((((hF.front 5 rfl).front 5 rfl).erase 2).erase 2).erase 2).erase 2)⟩
 refine Xb 1 rfl hF (Ka (cs := #[.int .i64 3, .string (bs [49]), .slice none 0 0, .slice none 0 0]) underlying23 sizeOf25 zeroValue25 Oa Oa Fb) ?_
 clear hF; rintro b44 w hb44 hF -
 refine ⟨hF.drop 3, ?_⟩
 refine Ue ?_ ?_
 refine Wa hF (Cd (some ⟨b36, 0, none⟩) 1 1 (some ⟨b35, 0, none⟩) 1 1 _) rfl (Pa Ad rfl rfl rfl) ?_
 clear hF; intro w hF
 refine ⟨hF.drop 3, ?_⟩
 refine Xb 1 rfl hF (Ka (cs := #[.string (bs [98])]) underlying22 sizeOf9 zeroValue9 Oa Oa Fb) ?_
 clear hF; rintro b45 w hb45 hF -
 refine ⟨hF.drop 4, ?_⟩
 refine Wa hF (Cd (some ⟨b45, 0, none⟩) 1 1 (some ⟨b44, 0, none⟩) 1 1 _) rfl (Pa Ad rfl rfl rfl) ?_
 clear hF; intro w hF
 refine ⟨hF.drop 4, ?_⟩
 refine Wa hF (Mi hG hF 2 rfl 3 rfl 0 rfl 1 rfl) rfl (Pa Sg rfl rfl rfl) ?_
 clear hF; intro w hF
 refine ⟨hF.drop 4, ?_⟩
 refine Eb rfl (Qg rfl) (Eb rfl (Re rfl rfl) (Eb rfl (Re rfl rfl) (Eb rfl (Kb rfl) (Eb rfl (Kb rfl) (Ic ?_)))))
 exact Gb ⟨Ro, ((((((hF.front 5 rfl).front 5 rfl).erase 2).erase 2).erase 2).erase 2)⟩
 refine Xb 1 rfl hF (Ka (cs := #[.string (bs [98])]) underlying22 sizeOf9 zeroValue9 Oa Oa Fb) ?_
 clear hF; rintro b46 w hb46 hF -
 refine ⟨hF.drop 4, ?_⟩
 refine Wa hF (Cd (some ⟨b36, 0, none⟩) 1 1 (some ⟨b35, 0, none⟩) 1 1 _) rfl (Pa Ad rfl rfl rfl) ?_
 clear hF; intro w hF
 refine ⟨hF.drop 4, ?_⟩
 refine Wa hF (Cd (some ⟨b46, 0, none⟩) 1 1 (some ⟨b44, 0, none⟩) 1 1 _) rfl (Pa Ad rfl rfl rfl) ?_
 clear hF; intro w hF
 refine ⟨hF.drop 4, ?_⟩
 refine Wa hF (Mi hG hF 2 rfl 3 rfl 0 rfl 1 rfl) rfl (Pa Sg rfl rfl rfl) ?_
 clear hF; intro w hF
 refine ⟨hF.drop 4, ?_⟩
 refine Eb rfl (Qg rfl) (Eb rfl (Re rfl rfl) (Eb rfl (Re rfl rfl) (Eb rfl (Kb rfl) (Eb rfl (Kb rfl) (Ic ?_)))))
 exact Gb ⟨Ro, ((((((hF.front 5 rfl).front 5 rfl).erase 2).erase 2).erase 2).erase 2)⟩
 refine Ue ?_ ?_
 refine Xb 1 rfl hF (Ka (cs := #[.string (bs [98])]) underlying22 sizeOf9 zeroValue9 Oa Oa Fb) ?_
 clear hF; rintro b47 w hb47 hF -
 refine ⟨hF.drop 2, ?_⟩
 refine Ue ?_ ?_
 refine Xb 1 rfl hF (Ka (cs := #[.string (bs [97])]) underlying22 sizeOf9 zeroValue9 Oa Oa Fb) ?_
 clear hF; rintro b48 w hb48 hF -
 refine ⟨hF.drop 3, ?_⟩
 refine Ue ?_ ?_
 refine Wa hF (Cd (some ⟨b48, 0, none⟩) 1 1 (some ⟨b35, 0, none⟩) 1 1 _) rfl (Pa Ad rfl rfl rfl) ?_
 clear hF; intro w hF
 refine ⟨hF.drop 3, ?_⟩
 refine Xb 1 rfl hF (Ka (cs := #[.int .i64 3, .string (bs [49]), .slice none 0 0, .slice none 0 0]) underlying23 sizeOf25 zeroValue25 Oa Oa Fb) ?_
 clear hF; rintro b49 w hb49 hF -
 refine ⟨hF.drop 4, ?_⟩
 refine Wa hF (Cd (some ⟨b47, 0, none⟩) 1 1 (some ⟨b49, 0, none⟩) 1 1 _) rfl (Pa Ad rfl rfl rfl) ?_
 clear hF; intro w hF
 refine ⟨hF.drop 4, ?_⟩
 refine Wa hF (Mi hG hF 1 rfl 3 rfl 2 rfl 0 rfl) rfl (Pa Sg rfl rfl rfl) ?_
 clear hF; intro w hF
 refine ⟨hF.drop 4, ?_⟩
 refine Eb rfl (Qg rfl) (Eb rfl (Re rfl rfl) (Eb rfl (Re rfl rfl) (Eb rfl (Kb rfl) (Eb rfl (Kb rfl) (Ic ?_)))))
 exact Gb ⟨Ro, ((((((hF.front 5 rfl).front 5 rfl).erase 2).erase 2).erase 2).erase 2)⟩
 refine Xb 1 rfl hF (Ka (cs := #[.int .i64 3, .string (bs [49]), .slice none 0 0, .slice none 0 0]) underlying23 sizeOf25 zeroValue25 Oa Oa Fb) ?_
 clear hF; rintro b50 w hb50 hF -
 refine ⟨hF.drop 4, ?_⟩
 refine Wa hF (Cd (some ⟨b48, 0, none⟩) 1 1 (some ⟨b35, 0, none⟩) 1 1 _) rfl (Pa Ad rfl rfl rfl) ?_
 clear hF; intro w hF
 refine ⟨hF.drop 4, ?_⟩
 refine Wa hF (Cd (some ⟨b47, 0, none⟩) 1 1 (some ⟨b50, 0, none⟩) 1 1 _) rfl (Pa Ad rfl rfl rfl) ?_
 clear hF; intro w hF
 refine ⟨hF.drop 4, ?_⟩
 refine Wa hF (Mi hG hF 1 rfl 3 rfl 2 rfl 0 rfl) rfl (Pa Sg rfl rfl rfl) ?_
 clear hF; intro w hF
 refine ⟨hF.drop 4, ?_⟩
 refine Eb rfl (Qg rfl) (Eb rfl (Re rfl rfl) (Eb rfl (Re rfl rfl) (Eb rfl (Kb rfl) (Eb rfl (Kb rfl) (Ic ?_)))))
 exact Gb ⟨Ro, ((((((hF.front 5 rfl).front 5 rfl).erase 2).erase 2).erase 2).erase 2)⟩
 refine Xb 1 rfl hF (Ka (cs := #[.int .i64 3, .string (bs [49]), .slice none 0 0, .slice none 0 0]) underlying23 sizeOf25 zeroValue25 Oa Oa Fb) ?_
 clear hF; rintro b51 w hb51 hF -
 refine ⟨hF.drop 3, ?_⟩
 refine Xb 1 rfl hF (Ka (cs := #[.string (bs [97])]) underlying22 sizeOf9 zeroValue9 Oa Oa Fb) ?_
 clear hF; rintro b52 w hb52 hF -
 refine ⟨hF.drop 4, ?_⟩
 refine Wa hF (Cd (some ⟨b52, 0, none⟩) 1 1 (some ⟨b35, 0, none⟩) 1 1 _) rfl (Pa Ad rfl rfl rfl) ?_
 clear hF; intro w hF
 refine ⟨hF.drop 4, ?_⟩
 refine Wa hF (Cd (some ⟨b47, 0, none⟩) 1 1 (some ⟨b51, 0, none⟩) 1 1 _) rfl (Pa Ad rfl rfl rfl) ?_
 clear hF; intro w hF
 refine ⟨hF.drop 4, ?_⟩
 refine Wa hF (Mi hG hF 0 rfl 3 rfl 2 rfl 1 rfl) rfl (Pa Sg rfl rfl rfl) ?_
 clear hF; intro w hF
 refine ⟨hF.drop 4, ?_⟩
 refine Eb rfl (Qg rfl) (Eb rfl (Re rfl rfl) (Eb rfl (Re rfl rfl) (Eb rfl (Kb rfl) (Eb rfl (Kb rfl) (Ic ?_)))))
 exact Gb ⟨Ro, ((((((hF.front 5 rfl).front 5 rfl).erase 2).erase 2).erase 2).erase 2)⟩
 refine Xb 1 rfl hF (Ka (cs := #[.int .i64 3, .string (bs [49]), .slice none 0 0, .slice none 0 0]) underlying23 sizeOf25 zeroValue25 Oa Oa Fb) ?_
 clear hF; rintro b53 w hb53 hF -
 refine ⟨hF.drop 2, ?_⟩
 refine Ue ?_ ?_
 refine Xb 1 rfl hF (Ka (cs := #[.string (bs [97])]) underlying22 sizeOf9 zeroValue9 Oa Oa Fb) ?_
 clear hF; rintro b54 w hb54 hF -
 refine ⟨hF.drop 3, ?_⟩
 refine Ue ?_ ?_
 refine Wa hF (Cd (some ⟨b54, 0, none⟩) 1 1 (some ⟨b35, 0, none⟩) 1 1 _) rfl (Pa Ad rfl rfl rfl) ?_
 clear hF; intro w hF
 refine ⟨hF.drop 3, ?_⟩
 refine Xb 1 rfl hF (Ka (cs := #[.string (bs [98])]) underlying22 sizeOf9 zeroValue9 Oa Oa Fb) ?_
 clear hF; rintro b55 w hb55 hF -
 refine ⟨hF.drop 4, ?_⟩
 refine Wa hF (Cd (some ⟨b55, 0, none⟩) 1 1 (some ⟨b53, 0, none⟩) 1 1 _) rfl (Pa Ad rfl rfl rfl) ?_
 clear hF; intro w hF
 refine ⟨hF.drop 4, ?_⟩
 refine Wa hF (Mi hG hF 1 rfl 3 rfl 0 rfl 2 rfl) rfl (Pa Sg rfl rfl rfl) ?_
 clear hF; intro w hF
 refine ⟨hF.drop 4, ?_⟩
 refine Eb rfl (Qg rfl) (Eb rfl (Re rfl rfl) (Eb rfl (Re rfl rfl) (Eb rfl (Kb rfl) (Eb rfl (Kb rfl) (Ic ?_)))))
 exact Gb ⟨Ro, ((((((hF.front 5 rfl).front 5 rfl).erase 2).erase 2).erase 2).erase 2)⟩
 refine Xb 1 rfl hF (Ka (cs := #[.string (bs [98])]) underlying22 sizeOf9 zeroValue9 Oa Oa Fb) ?_
 clear hF; rintro b56 w hb56 hF -
 refine ⟨hF.drop 4, ?_⟩
 refine Wa hF (Cd (some ⟨b54, 0, none⟩) 1 1 (some ⟨b35, 0, none⟩) 1 1 _) rfl (Pa Ad rfl rfl rfl) ?_
 clear hF; intro w hF
 refine ⟨hF.drop 4, ?_⟩
 refine Wa hF (Cd (some ⟨b56, 0, none⟩) 1 1 (some ⟨b53, 0, none⟩) 1 1 _) rfl (Pa Ad rfl rfl rfl) ?_
 clear hF; intro w hF
 refine ⟨hF.drop 4, ?_⟩
 refine Wa hF (Mi hG hF 1 rfl 3 rfl 0 rfl 2 rfl) rfl (Pa Sg rfl rfl rfl) ?_
 clear hF; intro w hF
 refine ⟨hF.drop 4, ?_⟩
 refine Eb rfl (Qg rfl) (Eb rfl (Re rfl rfl) (Eb rfl (Re rfl rfl) (Eb rfl (Kb rfl) (Eb rfl (Kb rfl) (Ic ?_)))))
 exact Gb ⟨Ro, ((((((hF.front 5 rfl).front 5 rfl).erase 2).erase 2).erase 2).erase 2)⟩
 refine Xb 1 rfl hF (Ka (cs := #[.string (bs [98])]) underlying22 sizeOf9 zeroValue9 Oa Oa Fb) ?_
 clear hF; rintro b57 w hb57 hF -
 refine ⟨hF.drop 3, ?_⟩
 refine Xb 1 rfl hF (Ka (cs := #[.string (bs [97])]) underlying22 sizeOf9 zeroValue9 Oa Oa Fb) ?_
 clear hF; rintro b58 w hb58 hF -
 refine ⟨hF.drop 4, ?_⟩
 refine Wa hF (Cd (some ⟨b58, 0, none⟩) 1 1 (some ⟨b35, 0, none⟩) 1 1 _) rfl (Pa Ad rfl rfl rfl) ?_
 clear hF; intro w hF
 refine ⟨hF.drop 4, ?_⟩
 refine Wa hF (Cd (some ⟨b57, 0, none⟩) 1 1 (some ⟨b53, 0, none⟩) 1 1 _) rfl (Pa Ad rfl rfl rfl) ?_
 clear hF; intro w hF
 refine ⟨hF.drop 4, ?_⟩
 refine Wa hF (Mi hG hF 0 rfl 3 rfl 1 rfl 2 rfl) rfl (Pa Sg rfl rfl rfl) ?_
 clear hF; intro w hF
 refine ⟨hF.drop 4, ?_⟩
 refine Eb rfl (Qg rfl) (Eb rfl (Re rfl rfl) (Eb rfl (Re rfl rfl) (Eb rfl (Kb rfl) (Eb rfl (Kb rfl) (Ic ?_)))))
 exact Gb ⟨Ro, ((((((hF.front 5 rfl).front 5 rfl).erase 2).erase 2).erase 2).erase 2)⟩
 refine Ue ?_ ?_
 refine Xb 1 rfl hF (Ka (cs := #[.string (bs [98])]) underlying22 sizeOf9 zeroValue9 Oa Oa Fb) ?_
 clear hF; rintro b59 w hb59 hF -
 refine ⟨hF.drop 1, ?_⟩
 refine Ue ?_ ?_
 refine Xb 1 rfl hF (Ka (cs := #[.string (bs [97])]) underlying22 sizeOf9 zeroValue9 Oa Oa Fb) ?_
 clear hF; rintro b60 w hb60 hF -
 refine ⟨hF.drop 2, ?_⟩
 refine Ue ?_ ?_
 refine Xb 1 rfl hF (Ka (cs := #[.int .i64 3, .string (bs [49]), .slice none 0 0, .slice none 0 0]) underlying23 sizeOf25 zeroValue25 Oa Oa Fb) ?_
 clear hF; rintro b61 w hb61 hF -
 refine ⟨hF.drop 3, ?_⟩
 refine Ue ?_ ?_
 refine Wa hF (Cd (some ⟨b60, 0, none⟩) 1 1 (some ⟨b61, 0, none⟩) 1 1 _) rfl (Pa Ad rfl rfl rfl) ?_
 clear hF; intro w hF
 refine ⟨hF.drop 3, ?_⟩
 refine Xb 1 rfl hF (Ka (cs := #[.int .i64 3, .string (bs [49]), .slice none 0 0, .slice none 0 0]) underlying23 sizeOf25 zeroValue25 Oa Oa Fb) ?_
 clear hF; rintro b62 w hb62 hF -
 refine ⟨hF.drop 4, ?_⟩
 refine Wa hF (Cd (some ⟨b59, 0, none⟩) 1 1 (some ⟨b62, 0, none⟩) 1 1 _) rfl (Pa Ad rfl rfl rfl) ?_
 clear hF; intro w hF
 refine ⟨hF.drop 4, ?_⟩
 refine Wa hF (Mi hG hF 2 rfl 1 rfl 3 rfl 0 rfl) rfl (Pa Sg rfl rfl rfl) ?_
 clear hF; intro w hF
 refine ⟨hF.drop 4, ?_⟩
 refine Eb rfl (Qg rfl) (Eb rfl (Re rfl rfl) (Eb rfl (Re rfl rfl) (Eb rfl (Kb rfl) (Eb rfl (Kb rfl) (Ic ?_)))))
 exact Gb ⟨Ro, ((((((hF.front 5 rfl).front 5 rfl).erase 2).erase 2).erase 2).erase 2)⟩
 refine Xb 1 rfl hF (Ka (cs := #[.int .i64 3, .string (bs [49]), .slice none 0 0, .slice none 0 0]) underlying23 sizeOf25 zeroValue25 Oa Oa Fb) ?_
 clear hF; rintro b63 w hb63 hF -
 refine ⟨hF.drop 4, ?_⟩
 refine Wa hF (Cd (some ⟨b60, 0, none⟩) 1 1 (some ⟨b61, 0, none⟩) 1 1 _) rfl (Pa Ad rfl rfl rfl) ?_
 clear hF; intro w hF
 refine ⟨hF.drop 4, ?_⟩
 refine Wa hF (Cd (some ⟨b59, 0, none⟩) 1 1 (some ⟨b63, 0, none⟩) 1 1 _) rfl (Pa Ad rfl rfl rfl) ?_
 clear hF; intro w hF
 refine ⟨hF.drop 4, ?_⟩
 refine Wa hF (Mi hG hF 2 rfl 1 rfl 3 rfl 0 rfl) rfl (Pa Sg rfl rfl rfl) ?_
 clear hF; intro w hF
 refine ⟨hF.drop 4, ?_⟩
 refine Eb rfl (Qg rfl) (Eb rfl (Re rfl rfl) (Eb rfl (Re rfl rfl) (Eb rfl (Kb rfl) (Eb rfl (Kb rfl) (Ic ?_)))))
 exact Gb ⟨Ro, ((((((hF.front 5 rfl).front 5 rfl).erase 2).erase 2).erase 2).erase 2)⟩
 refine Xb 1 rfl hF (Ka (cs := #[.int .i64 3, .string (bs [49]), .slice none 0 0, .slice none 0 0]) underlying23 sizeOf25 zeroValue25 Oa Oa Fb) ?_
 clear hF; rintro b64 w hb64 hF -
 refine ⟨hF.drop 3, ?_⟩
 refine Xb 1 rfl hF (Ka (cs := #[.int .i64 3, .string (bs [49]), .slice none 0 0, .slice none 0 0]) underlying23 sizeOf25 zeroValue25 Oa Oa Fb) ?_
 clear hF; rintro b65 w hb65 hF -
 refine ⟨hF.drop 4, ?_⟩
 refine Wa hF (Cd (some ⟨b60, 0, none⟩) 1 1 (some ⟨b65, 0, none⟩) 1 1 _) rfl (Pa Ad rfl rfl rfl) ?_
 clear hF; intro w hF
 refine ⟨hF.drop 4, ?_⟩
 refine Wa hF (Cd (some ⟨b59, 0, none⟩) 1 1 (some ⟨b64, 0, none⟩) 1 1 _) rfl (Pa Ad rfl rfl rfl) ?_
 clear hF; intro w hF
 refine ⟨hF.drop 4, ?_⟩
 refine Wa hF (Mi hG hF 2 rfl 0 rfl 3 rfl 1 rfl) rfl (Pa Sg rfl rfl rfl) ?_
 clear hF; intro w hF
 refine ⟨hF.drop 4, ?_⟩
 refine Eb rfl (Qg rfl) (Eb rfl (Re rfl rfl) (Eb rfl (Re rfl rfl) (Eb rfl (Kb rfl) (Eb rfl (Kb rfl) (Ic ?_)))))
 exact Gb ⟨Ro, ((((((hF.front 5 rfl).front 5 rfl).erase 2).erase 2).erase 2).erase 2)⟩
 refine Ue ?_ ?_
 refine Xb 1 rfl hF (Ka (cs := #[.int .i64 3, .string (bs [49]), .slice none 0 0, .slice none 0 0]) underlying23 sizeOf25 zeroValue25 Oa Oa Fb) ?_
 clear hF; rintro b66 w hb66 hF -
 refine ⟨hF.drop 2, ?_⟩
 refine Ue ?_ ?_
 refine Xb 1 rfl hF (Ka (cs := #[.string (bs [97])]) underlying22 sizeOf9 zeroValue9 Oa Oa Fb) ?_
 clear hF; rintro b67 w hb67 hF -
 refine ⟨hF.drop 3, ?_⟩
 refine Ue ?_ ?_
 refine Wa hF (Cd (some ⟨b67, 0, none⟩) 1 1 (some ⟨b66, 0, none⟩) 1 1 _) rfl (Pa Ad rfl rfl rfl) ?_
 clear hF; intro w hF
 refine ⟨hF.drop 3, ?_⟩
 refine Xb 1 rfl hF (Ka (cs := #[.int .i64 3, .string (bs [49]), .slice none 0 0, .slice none 0 0]) underlying23 sizeOf25 zeroValue25 Oa Oa Fb) ?_
 clear hF; rintro b68 w hb68 hF -
 refine ⟨hF.drop 4, ?_⟩
 refine Wa hF (Cd (some ⟨b59, 0, none⟩) 1 1 (some ⟨b68, 0, none⟩) 1 1 _) rfl (Pa Ad rfl rfl rfl) ?_
 clear hF; intro w hF
 refine ⟨hF.drop 4, ?_⟩
 refine Wa hF (Mi hG hF 1 rfl 2 rfl 3 rfl 0 rfl) rfl (Pa Sg rfl rfl rfl) ?_
 clear hF; intro w hF
 refine ⟨hF.drop 4, ?_⟩
 refine Eb rfl (Qg rfl) (Eb rfl (Re rfl rfl) (Eb rfl (Re rfl rfl) (Eb rfl (Kb rfl) (Eb rfl (Kb rfl) (Ic ?_)))))
 exact Gb ⟨Ro, ((((((hF.front 5 rfl).front 5 rfl).erase 2).erase 2).erase 2).erase 2)⟩
 refine Xb 1 rfl hF (Ka (cs := #[.int .i64 3, .string (bs [49]), .slice none 0 0, .slice none 0 0]) underlying23 sizeOf25 zeroValue25 Oa Oa Fb) ?_
 clear hF; rintro b69 w hb69 hF -
 refine ⟨hF.drop 4, ?_⟩
 refine Wa hF (Cd (some ⟨b67, 0, none⟩) 1 1 (some ⟨b66, 0, none⟩) 1 1 _) rfl (Pa Ad rfl rfl rfl) ?_
 clear hF; intro w hF
 refine ⟨hF.drop 4, ?_⟩
 refine Wa hF (Cd (some ⟨b59, 0, none⟩) 1 1 (some ⟨b69, 0, none⟩) 1 1 _) rfl (Pa Ad rfl rfl rfl) ?_
 clear hF; intro w hF
 refine ⟨hF.drop 4, ?_⟩
 refine Wa hF (Mi hG hF 1 rfl 2 rfl 3 rfl 0 rfl) rfl (Pa Sg rfl rfl rfl) ?_
 clear hF; intro w hF
 refine ⟨hF.drop 4, ?_⟩
 refine Eb rfl (Qg rfl) (Eb rfl (Re rfl rfl) (Eb rfl (Re rfl rfl) (Eb rfl (Kb rfl) (Eb rfl (Kb rfl) (Ic ?_)))))
 exact Gb ⟨Ro, ((((((hF.front 5 rfl).front 5 rfl).erase 2).erase 2).erase 2).erase 2)⟩
 refine Xb 1 rfl hF (Ka (cs := #[.int .i64 3, .string (bs [49]), .slice none 0 0, .slice none 0 0]) underlying23 sizeOf25 zeroValue25 Oa Oa Fb) ?_
 clear hF; rintro b70 w hb70 hF -
 refine ⟨hF.drop 3, ?_⟩
 refine Xb 1 rfl hF (Ka (cs := #[.string (bs [97])]) underlying22 sizeOf9 zeroValue9 Oa Oa Fb) ?_
 clear hF; rintro b71 w hb71 hF -
 refine ⟨hF.drop 4, ?_⟩
 refine Wa hF (Cd (some ⟨b71, 0, none⟩) 1 1 (some ⟨b66, 0, none⟩) 1 1 _) rfl (Pa Ad rfl rfl rfl) ?_
 clear hF; intro w hF
 refine ⟨hF.drop 4, ?_⟩
 refine Wa hF (Cd (some ⟨b59, 0, none⟩) 1 1 (some ⟨b70, 0, none⟩) 1 1 _) rfl (Pa Ad rfl rfl rfl) ?_
 clear hF; intro w hF
 refine ⟨hF.drop 4, ?_⟩
 refine Wa hF (Mi hG hF 0 rfl 2 rfl 3 rfl 1 rfl) rfl (Pa Sg rfl rfl rfl) ?_
 clear hF; intro w hF
 refine ⟨hF.drop 4, ?_⟩
 refine Eb rfl (Qg rfl) (Eb rfl (Re rfl rfl) (Eb rfl (Re rfl rfl) (Eb rfl (Kb rfl) (Eb rfl (Kb rfl) (Ic ?_)))))
 exact Gb ⟨Ro, ((((((hF.front 5 rfl).front 5 rfl).erase 2).erase 2).erase 2).erase 2)⟩
 refine Xb 1 rfl hF (Ka (cs := #[.int .i64 3, .string (bs [49]), .slice none 0 0, .slice none 0 0]) underlying23 sizeOf25 zeroValue25 Oa Oa Fb) ?_
 clear hF; rintro b72 w hb72 hF -
 refine ⟨hF.drop 2, ?_⟩
 refine Ue ?_ ?_
 refine Xb 1 rfl hF (Ka (cs := #[.string (bs [97])]) underlying22 sizeOf9 zeroValue9 Oa Oa Fb) ?_
 clear hF; rintro b73 w hb73 hF -
 refine ⟨hF.drop 3, ?_⟩
 refine Xb 1 rfl hF (Ka (cs := #[.int .i64 3, .string (bs [49]), .slice none 0 0, .slice none 0 0]) underlying23 sizeOf25 zeroValue25 Oa Oa Fb) ?_
 clear hF; rintro b74 w hb74 hF -
 refine ⟨hF.drop 4, ?_⟩
 refine Wa hF (Cd (some ⟨b73, 0, none⟩) 1 1 (some ⟨b74, 0, none⟩) 1 1 _) rfl (Pa Ad rfl rfl rfl) ?_
 clear hF; intro w hF
 refine ⟨hF.drop 4, ?_⟩
 refine Wa hF (Cd (some ⟨b59, 0, none⟩) 1 1 (some ⟨b72, 0, none⟩) 1 1 _) rfl (Pa Ad rfl rfl rfl) ?_
 clear hF; intro w hF
 refine ⟨hF.drop 4, ?_⟩
 refine Wa hF (Mi hG hF 1 rfl 0 rfl 3 rfl 2 rfl) rfl (Pa Sg rfl rfl rfl) ?_
 clear hF; intro w hF
 refine ⟨hF.drop 4, ?_⟩
 refine Eb rfl (Qg rfl) (Eb rfl (Re rfl rfl) (Eb rfl (Re rfl rfl) (Eb rfl (Kb rfl) (Eb rfl (Kb rfl) (Ic ?_)))))
 exact Gb ⟨Ro, ((((((hF.front 5 rfl).front 5 rfl).erase 2).erase 2).erase 2).erase 2)⟩
 refine Xb 1 rfl hF (Ka (cs := #[.int .i64 3, .string (bs [49]), .slice none 0 0, .slice none 0 0]) underlying23 sizeOf25 zeroValue25 Oa Oa Fb) ?_
 clear hF; rintro b75 w hb75 hF -
 refine ⟨hF.drop 3, ?_⟩
 refine Xb 1 rfl hF (Ka (cs := #[.string (bs [97])]) underlying22 sizeOf9 zeroValue9 Oa Oa Fb) ?_
 clear hF; rintro b76 w hb76 hF -
 refine ⟨hF.drop 4, ?_⟩
 refine Wa hF (Cd (some ⟨b76, 0, none⟩) 1 1 (some ⟨b75, 0, none⟩) 1 1 _) rfl (Pa Ad rfl rfl rfl) ?_
 clear hF; intro w hF
 refine ⟨hF.drop 4, ?_⟩
 refine Wa hF (Cd (some ⟨b59, 0, none⟩) 1 1 (some ⟨b72, 0, none⟩) 1 1 _) rfl (Pa Ad rfl rfl rfl) ?_
 clear hF; intro w hF
 refine ⟨hF.drop 4, ?_⟩
 refine Wa hF (Mi hG hF 0 rfl 1 rfl 3 rfl 2 rfl) rfl (Pa Sg rfl rfl rfl) ?_
 clear hF; intro w hF
 refine ⟨hF.drop 4, ?_⟩
 refine Eb rfl (Qg rfl) (Eb rfl (Re rfl rfl) (Eb rfl (Re rfl rfl) (Eb rfl (Kb rfl) (Eb rfl (Kb rfl) (Ic ?_)))))
 exact Gb ⟨Ro, ((((((hF.front 5 rfl).front 5 rfl).erase 2).erase 2).erase 2).erase 2)⟩
 refine Xb 1 rfl hF (Ka (cs := #[.int .i64 3, .string (bs [49]), .slice none 0 0, .slice none 0 0]) underlying23 sizeOf25 zeroValue25 Oa Oa Fb) ?_
 clear hF; rintro b77 w hb77 hF -
 refine ⟨hF.drop 1, ?_⟩
 refine Ue ?_ ?_
 refine Xb 1 rfl hF (Ka (cs := #[.string (bs [97])]) underlying22 sizeOf9 zeroValue9 Oa Oa Fb) ?_
 clear hF; rintro b78 w hb78 hF -
 refine ⟨hF.drop 2, ?_⟩
 refine Ue ?_ ?_
 refine Xb 1 rfl hF (Ka (cs := #[.int .i64 3, .string (bs [49]), .slice none 0 0, .slice none 0 0]) underlying23 sizeOf25 zeroValue25 Oa Oa Fb) ?_
 clear hF; rintro b79 w hb79 hF -
 refine ⟨hF.drop 3, ?_⟩
 refine Ue ?_ ?_
 refine Wa hF (Cd (some ⟨b78, 0, none⟩) 1 1 (some ⟨b79, 0, none⟩) 1 1 _) rfl (Pa Ad rfl rfl rfl) ?_
 clear hF; intro w hF
 refine ⟨hF.drop 3, ?_⟩
 refine Xb 1 rfl hF (Ka (cs := #[.string (bs [98])]) underlying22 sizeOf9 zeroValue9 Oa Oa Fb) ?_
 clear hF; rintro b80 w hb80 hF -
 refine ⟨hF.drop 4, ?_⟩
 refine Wa hF (Cd (some ⟨b80, 0, none⟩) 1 1 (some ⟨b77, 0, none⟩) 1 1 _) rfl (Pa Ad rfl rfl rfl) ?_
 clear hF; intro w hF
 refine ⟨hF.drop 4, ?_⟩
 refine Wa hF (Mi hG hF 2 rfl 1 rfl 0 rfl 3 rfl) rfl (Pa Sg rfl rfl rfl) ?_
 clear hF; intro w hF
 refine ⟨hF.drop 4, ?_⟩
 refine Eb rfl (Qg rfl) (Eb rfl (Re rfl rfl) (Eb rfl (Re rfl rfl) (Eb rfl (Kb rfl) (Eb rfl (Kb rfl) (Ic ?_)))))
 exact Gb ⟨Ro, ((((((hF.front 5 rfl).front 5 rfl).erase 2).erase 2).erase 2).erase 2)⟩
 refine Xb 1 rfl hF (Ka (cs := #[.string (bs [98])]) underlying22 sizeOf9 zeroValue9 Oa Oa Fb) ?_
 clear hF; rintro b81 w hb81 hF -
 refine ⟨hF.drop 4, ?_⟩
 refine Wa hF (Cd (some ⟨b78, 0, none⟩) 1 1 (some ⟨b79, 0, none⟩) 1 1 _) rfl (Pa Ad rfl rfl rfl) ?_
 clear hF; intro w hF
 refine ⟨hF.drop 4, ?_⟩
 refine Wa hF (Cd (some ⟨b81, 0, none⟩) 1 1 (some ⟨b77, 0, none⟩) 1 1 _) rfl (Pa Ad rfl rfl rfl) ?_
 clear hF; intro w hF
 refine ⟨hF.drop 4, ?_⟩
 refine Wa hF (Mi hG hF 2 rfl 1 rfl 0 rfl 3 rfl) rfl (Pa Sg rfl rfl rfl) ?_
 clear hF; intro w hF
 refine ⟨hF.drop 4, ?_⟩
 refine Eb rfl (Qg rfl) (Eb rfl (Re rfl rfl) (Eb rfl (Re rfl rfl) (Eb rfl (Kb rfl) (Eb rfl (Kb rfl) (Ic ?_)))))
 exact Gb ⟨Ro, ((((((hF.front 5 rfl).front 5 rfl).erase 2).erase 2).erase 2).erase 2)⟩
 refine Xb 1 rfl hF (Ka (cs := #[.string (bs [98])]) underlying22 sizeOf9 zeroValue9 Oa Oa Fb) ?_
 clear hF; rintro b82 w hb82 hF -
 refine ⟨hF.drop 3, ?_⟩
 refine Xb 1 rfl hF (Ka (cs := #[.int .i64 3, .string (bs [49]), .slice none 0 0, .slice none 0 0]) underlying23 sizeOf25 zeroValue25 Oa Oa Fb) ?_
 clear hF; rintro b83 w hb83 hF -
 refine ⟨hF.drop 4, ?_⟩
 refine Wa hF (Cd (some ⟨b78, 0, none⟩) 1 1 (some ⟨b83, 0, none⟩) 1 1 _) rfl (Pa Ad rfl rfl rfl) ?_
 clear hF; intro w hF
 refine ⟨hF.drop 4, ?_⟩
 refine Wa hF (Cd (some ⟨b82, 0, none⟩) 1 1 (some ⟨b77, 0, none⟩) 1 1 _) rfl (Pa Ad rfl rfl rfl) ?_
 clear hF; intro w hF
 refine ⟨hF.drop 4, ?_⟩
 refine Wa hF (Mi hG hF 2 rfl 0 rfl 1 rfl 3 rfl) rfl (Pa Sg rfl rfl rfl) ?_
 clear hF; intro w hF
 refine ⟨hF.drop 4, ?_⟩
 refine Eb rfl (Qg rfl) (Eb rfl (Re rfl rfl) (Eb rfl (Re rfl rfl) (Eb rfl (Kb rfl) (Eb rfl (Kb rfl) (Ic ?_)))))
 exact Gb ⟨Ro, ((((((hF.front 5 rfl).front 5 rfl).erase 2).erase 2).erase 2).erase 2)⟩
 refine Ue ?_ ?_
 refine Xb 1 rfl hF (Ka (cs := #[.int .i64 3, .string (bs [49]), .slice none 0 0, .slice none 0 0]) underlying23 sizeOf25 zeroValue25 Oa Oa Fb) ?_
 clear hF; rintro b84 w hb84 hF -
 refine ⟨hF.drop 2, ?_⟩
 refine Ue ?_ ?_
 refine Xb 1 rfl hF (Ka (cs := #[.string (bs [97])]) underlying22 sizeOf9 zeroValue9 Oa Oa Fb) ?_
 clear hF; rintro b85 w hb85 hF -
 refine ⟨hF.drop 3, ?_⟩
 refine Ue ?_ ?_
 refine Wa hF (Cd (some ⟨b85, 0, none⟩) 1 1 (some ⟨b84, 0, none⟩) 1 1 _) rfl (Pa Ad rfl rfl rfl) ?_
 clear hF; intro w hF
 refine ⟨hF.drop 3, ?_⟩
 refine Xb 1 rfl hF (Ka (cs := #[.string (bs [98])]) underlying22 sizeOf9 zeroValue9 Oa Oa Fb) ?_
 clear hF; rintro b86 w hb86 hF -
 refine ⟨hF.drop 4, ?_⟩
 refine Wa hF (Cd (some ⟨b86, 0, none⟩) 1 1 (some ⟨b77, 0, none⟩) 1 1 _) rfl (Pa Ad rfl rfl rfl) ?_
 clear hF; intro w hF
 refine ⟨hF.drop 4, ?_⟩
 refine Wa hF (Mi hG hF 1 rfl 2 rfl 0 rfl 3 rfl) rfl (Pa Sg rfl rfl rfl) ?_
 clear hF; intro w hF
 refine ⟨hF.drop 4, ?_⟩
 refine Eb rfl (Qg rfl) (Eb rfl (Re rfl rfl) (Eb rfl (Re rfl rfl) (Eb rfl (Kb rfl) (Eb rfl (Kb rfl) (Ic ?_)))))
 exact Gb ⟨Ro, ((((((hF.front 5 rfl).front 5 rfl).erase 2).erase 2).erase 2).erase 2)⟩
 refine Xb 1 rfl hF (Ka (cs := #[.string (bs [98])]) underlying22 sizeOf9 zeroValue9 Oa Oa Fb) ?_
 clear hF; rintro b87 w hb87 hF -
 refine ⟨hF.drop 4, ?_⟩
 refine Wa hF (Cd (some ⟨b85, 0, none⟩) 1 1 (some ⟨b84, 0, none⟩) 1 1 _) rfl (Pa Ad rfl rfl rfl) ?_
 clear hF; intro w hF
 refine ⟨hF.drop 4, ?_⟩
 refine Wa hF (Cd (some ⟨b87, 0, none⟩) 1 1 (some ⟨b77, 0, none⟩) 1 1 _) rfl (Pa Ad rfl rfl rfl) ?_
 clear hF; intro w hF
 refine ⟨hF.drop 4, ?_⟩
 refine Wa hF (Mi hG hF 1 rfl 2 rfl 0 rfl 3 rfl) rfl (Pa Sg rfl rfl rfl) ?_
 clear hF; intro w hF
 refine ⟨hF.drop 4, ?_⟩
 refine Eb rfl (Qg rfl) (Eb rfl (Re rfl rfl) (Eb rfl (Re rfl rfl) (Eb rfl (Kb rfl) (Eb rfl (Kb rfl) (Ic ?_)))))
 exact Gb ⟨Ro, ((((((hF.front 5 rfl).front 5 rfl).erase 2).erase 2).erase 2).erase 2)⟩
 refine Xb 1 rfl hF (Ka (cs := #[.string (bs [98])]) underlying22 sizeOf9 zeroValue9 Oa Oa Fb) ?_
 clear hF; rintro b88 w hb88 hF -
 refine ⟨hF.drop 3, ?_⟩
 refine Xb 1 rfl hF (Ka (cs := #[.string (bs [97])]) underlying22 sizeOf9 zeroValue9 Oa Oa Fb) ?_
 clear hF; rintro b89 w hb89 hF -
 refine ⟨hF.drop 4, ?_⟩
 refine Wa hF (Cd (some ⟨b89, 0, none⟩) 1 1 (some ⟨b84, 0, none⟩) 1 1 _) rfl (Pa Ad rfl rfl rfl) ?_
 clear hF; intro w hF
 refine ⟨hF.drop 4, ?_⟩
 refine Wa hF (Cd (some ⟨b88, 0, none⟩) 1 1 (some ⟨b77, 0, none⟩) 1 1 _) rfl (Pa Ad rfl rfl rfl) ?_
 clear hF; intro w hF
 refine ⟨hF.drop 4, ?_⟩
 refine Wa hF (Mi hG hF 0 rfl 2 rfl 1 rfl 3 rfl) rfl (Pa Sg rfl rfl rfl) ?_
 clear hF; intro w hF
 refine ⟨hF.drop 4, ?_⟩
 refine Eb rfl (Qg rfl) (Eb rfl (Re rfl rfl) (Eb rfl (Re rfl rfl) (Eb rfl (Kb rfl) (Eb rfl (Kb rfl) (Ic ?_)))))
 exact Gb ⟨Ro, ((((((hF.front 5 rfl).front 5 rfl).erase 2).erase 2).erase 2).erase 2)⟩
 refine Xb 1 rfl hF (Ka (cs := #[.string (bs [98])]) underlying22 sizeOf9 zeroValue9 Oa Oa Fb) ?_
 clear hF; rintro b90 w hb90 hF -
 refine ⟨hF.drop 2, ?_⟩
 refine Ue ?_ ?_
 refine Xb 1 rfl hF (Ka (cs := #[.string (bs [97])]) underlying22 sizeOf9 zeroValue9 Oa Oa Fb) ?_
 clear hF; rintro b91 w hb91 hF -
 refine ⟨hF.drop 3, ?_⟩
 refine Xb 1 rfl hF (Ka (cs := #[.int .i64 3, .string (bs [49]), .slice none 0 0, .slice none 0 0]) underlying23 sizeOf25 zeroValue25 Oa Oa Fb) ?_
 clear hF; rintro b92 w hb92 hF -
 refine ⟨hF.drop 4, ?_⟩
 refine Wa hF (Cd (some ⟨b91, 0, none⟩) 1 1 (some ⟨b92, 0, none⟩) 1 1 _) rfl (Pa Ad rfl rfl rfl) ?_
 clear hF; intro w hF
 refine ⟨hF.drop 4, ?_⟩
 refine Wa hF (Cd (some ⟨b90, 0, none⟩) 1 1 (some ⟨b77, 0, none⟩) 1 1 _) rfl (Pa Ad rfl rfl rfl) ?_
 clear hF; intro w hF
 refine ⟨hF.drop 4, ?_⟩
 refine Wa hF (Mi hG hF 1 rfl 0 rfl 2 rfl 3 rfl) rfl (Pa Sg rfl rfl rfl) ?_
 clear hF; intro w hF
 refine ⟨hF.drop 4, ?_⟩
 refine Eb rfl (Qg rfl) (Eb rfl (Re rfl rfl) (Eb rfl (Re rfl rfl) (Eb rfl (Kb rfl) (Eb rfl (Kb rfl) (Ic ?_)))))
 exact Gb ⟨Ro, ((((((hF.front 5 rfl).front 5 rfl).erase 2).erase 2).erase 2).erase 2)⟩
 refine Xb 1 rfl hF (Ka (cs := #[.int .i64 3, .string (bs [49]), .slice none 0 0, .slice none 0 0]) underlying23 sizeOf25 zeroValue25 Oa Oa Fb) ?_
 clear hF; rintro b93 w hb93 hF -
 refine ⟨hF.drop 3, ?_⟩
 refine Xb 1 rfl hF (Ka (cs := #[.string (bs [97])]) underlying22 sizeOf9 zeroValue9 Oa Oa Fb) ?_
 clear hF; rintro b94 w hb94 hF -
 refine ⟨hF.drop 4, ?_⟩
 refine Wa hF (Cd (some ⟨b94, 0, none⟩) 1 1 (some ⟨b93, 0, none⟩) 1 1 _) rfl (Pa Ad rfl rfl rfl) ?_
 clear hF; intro w hF
 refine ⟨hF.drop 4, ?_⟩
 refine Wa hF (Cd (some ⟨b90, 0, none⟩) 1 1 (some ⟨b77, 0, none⟩) 1 1 _) rfl (Pa Ad rfl rfl rfl) ?_
 clear hF; intro w hF
 refine ⟨hF.drop 4, ?_⟩
 refine Wa hF (Mi hG hF 0 rfl 1 rfl 2 rfl 3 rfl) rfl (Pa Sg rfl rfl rfl) ?_
 clear hF; intro w hF
 refine ⟨hF.drop 4, ?_⟩
 refine Eb rfl (Qg rfl) (Eb rfl (Re rfl rfl) (Eb rfl (Re rfl rfl) (Eb rfl (Kb rfl) (Eb rfl (Kb rfl) (Ic ?_)))))
 exact Gb ⟨Ro, ((((((hF.front 5 rfl).front 5 rfl).erase 2).erase 2).erase 2).erase 2)⟩
 clear hF; rintro σ w ⟨hs, hF⟩
 refine Eg.slots hs ?_
 clear hs; intro σ
 refine Ja (Ha ?_)
 refine Yh 1 hF (Ka (cs := #[.string (bs [97])]) underlying22 sizeOf9 zeroValue9 Oa Oa Fb) ?_
 clear hF; rintro b95 w hb95 hF -
 refine Uc (Bi isAgg25 sizeOf25 rfl hF.F 2 rfl rfl) ?_
 refine Yh 1 hF (Ka (cs := #[.int .i64 3, .string (bs [49]), .slice none 0 0, .slice none 0 0]) underlying23 sizeOf25 zeroValue25 Oa Oa Fb) ?_
 clear hF; rintro b96 w hb96 hF -
 refine Va hF (Cd (some ⟨b95, 0, none⟩) 1 1 (some ⟨b96, 0, none⟩) 1 1 _) (Pa Ad rfl rfl rfl) ?_
 clear hF; intro w hF
 refine Va hF (Ys (none) 0 0 _) (Ua Ns rfl rfl) ?_
 clear hF; intro w hF
 refine Va hF (PT hG hF 1 rfl 0 rfl) (Pa Sg rfl rfl rfl) ?_
 clear hF; intro w hF
 refine Ca (Qg rfl) (Ca (Re rfl rfl) (Ca (Re rfl rfl) (Ca (Kb rfl) (Ca (Kb rfl) (Yb (Ca (Za rfl) (Fa (v := .bool true) (Sc (Bg rfl rfl) Oa) (Ca (Jc rfl) (Ca (Za rfl) (Fa (v := .bool true) (Sc (Bg rfl rfl) Oa) ?_))))))))))
 refine Ca (Lc rfl rfl) (Ca (Jc rfl) (Ca (Za rfl) (Fa (v := .bool true) (Sc (Bg rfl rfl) Oa) (Ca (Lc rfl rfl) (Ca (Jc rfl) (Ca (Za rfl) (Fa (v := .bool true) (Sc (Bg rfl rfl) Oa) (Ca (Lc rfl rfl) (Ca (Jc rfl) (Ca (Za rfl) (Fa (v := .bool true) (Sc (Bg rfl rfl) Oa) (Ca (Lc rfl rfl) (Ca (Jc rfl) ?_)))))))))))))
 refine Ca (Za rfl) (Fa (v := .bool true) (Sc (Bg rfl rfl) Oa) (Ca (Lc rfl rfl) (Ca (Jc rfl) (Ca (Za rfl) (Fa (v := .bool true) (Sc (Bg rfl rfl) Oa) (Ca (Lc rfl rfl) (Ca (Jc rfl) (Ca (Za rfl) (Fa (v := .bool true) (Sc (Bg rfl rfl) Oa) (Ca (Lc rfl rfl) (Ca (Jc rfl) (Ca (Za rfl) (Fa (v := .bool true) (Sc (Bg rfl rfl) Oa) ?_)))))))))))))
 refine Ca (Lc rfl rfl) (Ca (Jc rfl) (Ca (Za rfl) (Fa (v := .bool true) (Sc (Bg rfl rfl) Oa) (Ca (Lc rfl rfl) (Ca (Cc rfl) (Da ?_))))))
 refine Ud (v := .bool true) rfl rfl ?_
 exact ⟨rfl, hF.same⟩
end Go.Scarf
