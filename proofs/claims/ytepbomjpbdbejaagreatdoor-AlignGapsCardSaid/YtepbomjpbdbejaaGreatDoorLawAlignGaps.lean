/- The statement AlignGaps, for every input that its row names: proved. -/
import Derived.Test.YtepbomjpbdbejaaGreatDoorRow
import Derived.Test.YtepbomjpbdbejaaGreatDoorRow3
import Derived.Test.YtepbomjpbdbejaaGreatDoorCards
import Derived.Test.YtepbomjpbdbejaaGreatDoorX16
set_option linter.all false
set_option maxHeartbeats 8000000
set_option maxRecDepth 10000
namespace Go.Scarf
open Go.RowKit Go.Proofs Go.Proofs.Tryz
set_option maxRecDepth 100000
open Go.ChangeShapes Go.WideShapes Go.ChangeAt Go.Proofs.YtepbomjpbdbejaaGreatDoor
theorem Jt (os : Os) (started : os.Started) (H : Type) (enc : TypeId × Value → H) :
    ReturnsInHanded {} checked os 4 .any (fun w args => (Rows.alignGapsSpec.pre enc prog f4 [] false w args ∧ laidMetH prog Ql w) ∧ sizedMet enc prog f4 (OpenSpec.ofChange Rows.alignGapsSpec) false w args)
      (Rows.alignGapsSpec.post enc prog f4 false true false false) := by
  refine returnsInHanded_of_change_and (C := checked) (X := fun w _ => laidMetH prog Ql w) (fun _ _ _ hh h => h.of_heap hh) UM started Db func4
    (ChangeSpec.witness_shaped (enc := enc) (C := checked) (os := os) (X := fun w _ => laidMetH prog Ql w) false (World.laidAll prog os Ql) #[.int .i64 0, .slice none 0 0, .int .i64 0] 8 (World.laidAll_os _ _ _)
      (World.shaped_of_ZipB Db Db) Db Db Db (RM os _)) ?_
  intro W base args ds gs before hval0 hW _ _ hL _
  have hval : ∀ (j : Nat) t v, f4.params[j]? = some t → args[j]? = some v → Value.okWide prog W .any base t v := hval0
  have hW' := hW
  have hlt := hW.lt
  obtain ⟨p, q, hA0, hV, rfl, _, _⟩ := hW
  have hA : DataW.TrodAll enc prog W 0 (fun _ => true) true f4.params.toList args.toList ds p := hA0
  rw [params4] at hA hval
  obtain ⟨v0, v1, v2, d0, d1, d2, p0, p1, p2, rfl, rfl, rfl, h0, h1, h2⟩ := trodAll_three hA
  obtain ⟨rfl, rfl⟩ := trodVars_none hV
  clear hA0 hval0
  simp only [List.append_nil] at hW' hlt
  obtain ⟨x0, rfl, r0, s0⟩ := F5 (hval 0 3 v0 rfl rfl) h0
  obtain ⟨x1, A1, c1, rfl, r1⟩ := U7 (hval 1 29 v1 rfl rfl) h1
  obtain ⟨x2, rfl, r2, s2⟩ := F5 (hval 2 3 v2 rfl rfl) h2
  have hG := J6 hL
  refine ((fun W hG n _ _ m A c r s _ _ => V3 W hG n m A c r s) W hG x0 r0 s0 x1 A1 c1 r1 x2 r2 s2).mono fun e W' ⟨v, he, hv, hs⟩ => ?_
  subst he hv
  have hb := hs.below
  exact ⟨_, rfl, _, _, _, [], _, [], hW', trodAll_mk1 (shut_bool underlying4 _), trodAll_mk3 (I6 WK AM hb (fun q hq => hlt q (by simp [hq])) h0) (I6 GL TK hb (fun q hq => hlt q (by simp [hq])) h1) (I6 WK AM hb (fun q hq => hlt q (by simp [hq])) h2), rfl, hb.frame _, fun h => by cases h⟩
theorem Bv : Rows.AlignGapsSaid :=
  OpenClaim.holds_of_wide 4 f4 rfl rfl rfl rfl rfl rfl rfl ⟨rfl, rfl, rfl, rfl, rfl⟩ rfl rfl rfl rfl rfl Db func4 Db
    (of_decide_eq_true Db) (by unfold Func.isWrapper; first | (rw [if_pos (by decide +kernel)]; kernel_rfl) | (rw [if_neg (by decide +kernel)]; exact ⟨rfl, rfl⟩))
    (fun os started H enc _ => Jt os started H enc)
theorem alignGaps_card : Rows.AlignGapsCardSaid :=
  Claim7.holds_tied_plain_at .later [] [.data, .data, .data, .data, .sentinel, .sentinel, .pinned] true (true, "3b047a04734fc5366f4b80cf99c9af8128f6d2e2f0178afbfbe16ed10a164602") true
    Bv (fun _ h => by cases h) Db (fun _ h => by cases h) alignGaps_row_tie rfl ⟨rfl, rfl⟩ Db rfl
    (fun f fn hf hfn => by
      obtain rfl : f = 4 := Option.some.inj ((show prog.funcNamed "scarf/scarflaw20.AlignGaps" = some 4 by kernel_rfl).symm.trans hf) |>.symm
      obtain rfl : fn = f4 := (Option.some.inj (func4.symm.trans hfn)).symm
      exact ⟨by kernel_rfl, fun j t ht => by
        rw [params4] at ht
        have hm : t ∈ [3, 29, 3] := by simpa using Array.mem_of_getElem? ht
        have hall : ([3, 29, 3].all fun u => !prog.wantsStandIn u) = true := by kernel_rfl
        exact (show prog.wantsStandIn t = false by simpa using List.all_eq_true.1 hall t hm)⟩)
    Db
end Go.Scarf
namespace Go.Proofs.YtepbomjpbdbejaaGreatDoor
/-- The statement as it was given. -/
theorem alignGaps_proved : Rows.AlignGapsCardSaid := Go.Scarf.alignGaps_card
end Go.Proofs.YtepbomjpbdbejaaGreatDoor
