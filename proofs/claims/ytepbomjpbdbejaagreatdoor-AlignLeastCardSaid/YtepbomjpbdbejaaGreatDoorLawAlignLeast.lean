/- The statement AlignLeast, for every input that its row names: proved. -/
import Derived.Test.YtepbomjpbdbejaaGreatDoorRow
import Derived.Test.YtepbomjpbdbejaaGreatDoorRow3
import Derived.Test.YtepbomjpbdbejaaGreatDoorCards
import Derived.Test.YtepbomjpbdbejaaGreatDoorX17
set_option linter.all false
set_option maxHeartbeats 8000000
set_option maxRecDepth 10000
namespace Go.Scarf
open Go.RowKit Go.Proofs Go.Proofs.Tryz
set_option maxRecDepth 100000
open Go.ChangeShapes Go.WideShapes Go.ChangeAt Go.Proofs.YtepbomjpbdbejaaGreatDoor
theorem Ju (os : Os) (started : os.Started) (H : Type) (enc : TypeId × Value → H) :
    ReturnsInHanded {} checked os 7 .any (fun w args => (Rows.alignLeastSpec.pre enc prog f7 [] false w args ∧ laidMetH prog In w) ∧ sizedMet enc prog f7 (OpenSpec.ofChange Rows.alignLeastSpec) false w args)
      (Rows.alignLeastSpec.post enc prog f7 false true false false) := by
  refine returnsInHanded_of_change_and (C := checked) (X := fun w _ => laidMetH prog In w) (fun _ _ _ hh h => h.of_heap hh) GU started Ib func7
    (ChangeSpec.witness_shaped (enc := enc) (C := checked) (os := os) (X := fun w _ => laidMetH prog In w) false (World.laidAll prog os In) #[.slice none 0 0, .slice none 0 0, .slice none 0 0] 8 (World.laidAll_os _ _ _)
      (World.shaped_of_ZipB Ib Ib) Ib Ib Ib (FU os _)) ?_
  intro W base args ds gs before hval0 hW _ _ hL _
  have hval : ∀ (j : Nat) t v, f7.params[j]? = some t → args[j]? = some v → Value.okWide prog W .any base t v := hval0
  have hW' := hW
  have hlt := hW.lt
  obtain ⟨p, q, hA0, hV, rfl, _, _⟩ := hW
  have hA : DataW.TrodAll enc prog W 0 (fun _ => true) true f7.params.toList args.toList ds p := hA0
  rw [params7] at hA hval
  obtain ⟨v0, v1, v2, d0, d1, d2, p0, p1, p2, rfl, rfl, rfl, h0, h1, h2⟩ := trodAll_three hA
  obtain ⟨rfl, rfl⟩ := trodVars_none hV
  clear hA0 hval0
  simp only [List.append_nil] at hW' hlt
  obtain ⟨x0, A0, c0, rfl, r0⟩ := S3 (hval 0 22 v0 rfl rfl) h0
  obtain ⟨x1, A1, c1, rfl, r1⟩ := S3 (hval 1 22 v1 rfl rfl) h1
  obtain ⟨x2, A2, c2, rfl, r2⟩ := FB (hval 2 29 v2 rfl rfl) h2
  have hG := NB hL
  refine ((fun W hG a A c r b B e q m C f t => V5 W hG a A c r b B e q m C f t) W hG x0 A0 c0 r0 x1 A1 c1 r1 x2 A2 c2 r2).mono fun e W' ⟨v, he, hv, hs⟩ => ?_
  subst he hv
  have hb := hs.below
  exact ⟨_, rfl, _, _, _, [], _, [], hW', trodAll_mk1 (shut_bool underlying4 _), trodAll_mk3 (WA KP GP hb (fun q hq => hlt q (by simp [hq])) h0) (WA KP GP hb (fun q hq => hlt q (by simp [hq])) h1) (WA BU LT hb (fun q hq => hlt q (by simp [hq])) h2), rfl, hb.frame _, fun h => by cases h⟩
theorem Gv : Rows.AlignLeastSaid :=
  OpenClaim.holds_of_wide 7 f7 rfl rfl rfl rfl rfl rfl rfl ⟨rfl, rfl, rfl, rfl, rfl⟩ rfl rfl rfl rfl rfl Ib func7 Ib
    (of_decide_eq_true Ib) (by unfold Func.isWrapper; first | (rw [if_pos (by decide +kernel)]; kernel_rfl) | (rw [if_neg (by decide +kernel)]; exact ⟨rfl, rfl⟩))
    (fun os started H enc _ => Ju os started H enc)
theorem alignLeast_card : Rows.AlignLeastCardSaid :=
  Claim7.holds_tied_plain_at .later [] [.data, .data, .data, .data, .sentinel, .sentinel, .pinned] true (true, "3b047a04734fc5366f4b80cf99c9af8128f6d2e2f0178afbfbe16ed10a164602") true
    Gv (fun _ h => by cases h) Ib (fun _ h => by cases h) alignLeast_row_tie rfl ⟨rfl, rfl⟩ Ib rfl
    (fun f fn hf hfn => by
      obtain rfl : f = 7 := Option.some.inj ((show prog.funcNamed "scarf/scarflaw20.AlignLeast" = some 7 by kernel_rfl).symm.trans hf) |>.symm
      obtain rfl : fn = f7 := (Option.some.inj (func7.symm.trans hfn)).symm
      exact ⟨by kernel_rfl, fun j t ht => by
        rw [params7] at ht
        have hm : t ∈ [22, 22, 29] := by simpa using Array.mem_of_getElem? ht
        have hall : ([22, 22, 29].all fun u => !prog.wantsStandIn u) = true := by kernel_rfl
        exact (show prog.wantsStandIn t = false by simpa using List.all_eq_true.1 hall t hm)⟩)
    Ib
end Go.Scarf
namespace Go.Proofs.YtepbomjpbdbejaaGreatDoor
/-- The statement as it was given. -/
theorem alignLeast_proved : Rows.AlignLeastCardSaid := Go.Scarf.alignLeast_card
end Go.Proofs.YtepbomjpbdbejaaGreatDoor
