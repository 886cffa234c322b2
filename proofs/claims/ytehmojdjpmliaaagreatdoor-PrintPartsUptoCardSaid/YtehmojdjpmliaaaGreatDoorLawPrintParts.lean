/- The statement PrintParts, for every input that its row names: proved. -/
import Derived.Test.YtehmojdjpmliaaaGreatDoorRow
import Derived.Test.YtehmojdjpmliaaaGreatDoorRow2
import Derived.Test.YtehmojdjpmliaaaGreatDoorCards
import Derived.Test.YtehmojdjpmliaaaGreatDoorX4
set_option linter.all false
namespace Go.Scarf
open Go.RowKit Go.Proofs
set_option maxRecDepth 100000
open Go.ChangeShapes Go.WideShapes Go.ChangeAt Go.Proofs.YtehmojdjpmliaaaGreatDoor
theorem printParts_lifted (os : Os) (started : os.Started) (H : Type) (enc : TypeId × Value → H) (F : Stop.Interp) :
    ReturnsInHanded {} Tryz.checked os 5 .any (fun w args => ((Rows.OpenSpec.upto Rows.printPartsSpec).pre enc Tryz.prog Tryz.f5 [] false w args ∧ laidMetH Tryz.prog laidL w) ∧ sizedMet enc Tryz.prog Tryz.f5 (Rows.OpenSpec.upto Rows.printPartsSpec) false w args)
      (((Rows.OpenSpec.upto Rows.printPartsSpec).at F).post enc Tryz.prog Tryz.f5 false true false false) := by
  refine handed_cond (C := Tryz.checked) (k := Rows.uptoSmall) rfl (X := fun w => laidMetH Tryz.prog laidL w) (fun _ _ hh h => h.of_heap hh) own_ started (by kernel_rfl) Tryz.func5
    (World.laidAll Tryz.prog os laidL) #[.agg #[.int .i64 0, .string (bs []), .slice none 0 0, .slice none 0 0]] 8 (World.laidAll_os _ _ _) (World.shaped_of_ZipB (by kernel_rfl) (by kernel_rfl)) (by kernel_rfl)
    (x := ([.agg [.lit (.int .i64 0), .lit (.string []), .nil, .nil]], [], [])) (by kernel_rfl) (by kernel_rfl) (by kernel_rfl) (wit_ os _) ?_
  intro W base args ds gs before hval0 hW hkk hL
  have hval : ∀ (j : Nat) t v, Tryz.f5.params[j]? = some t → args[j]? = some v → Value.okWide Tryz.prog W .any base t v := hval0
  have hW' := hW
  have hlt := hW.lt
  obtain ⟨p, q, hA0, hV, rfl, _, _⟩ := hW
  have hA : DataW.TrodAll enc Tryz.prog W 0 (fun _ => true) true Tryz.f5.params.toList args.toList ds p := hA0
  rw [Tryz.params5] at hA hval
  obtain ⟨v0, d0, rfl, rfl, h0⟩ := trodAll_one hA
  obtain ⟨rfl, rfl⟩ := trodVars_none hV
  clear hA0 hval0
  simp only [List.append_nil] at hW' hlt
  have hbk := of_decide_eq_true hkk
  simp only [List.append_nil, Rows.uptoBulkAll] at hbk
  obtain ⟨x0, c0, rfl, r0, b0⟩ := open_treeB (hval 0 25 v0 rfl rfl) h0
  have hG := gl_of_laid hL
  refine (printParts_w W hG x0 c0 r0 (by omega)).mono fun e W' ⟨v, he, hv, hs⟩ => ?_
  subst he hv
  have hb := hs.below
  exact ⟨_, rfl, _, _, _, [], _, [], hW', trodAll_mk1 (shut_bool Tryz.underlying4 _), trodAll_mk1 (stays_ rec25 row25 hb (fun q hq => hlt q (by simp [hq])) h0), rfl, hb.frame _, fun h => by cases h⟩
theorem printParts_holds : Rows.PrintPartsUptoSaid :=
  OpenClaim.holds_of_cond 5 Tryz.f5 rfl rfl rfl rfl rfl rfl rfl ⟨rfl, rfl, rfl, rfl, rfl⟩ rfl rfl rfl rfl rfl (by kernel_rfl) Tryz.func5 (by kernel_rfl)
    (of_decide_eq_true (by kernel_rfl)) (by unfold Func.isWrapper; first | (rw [if_pos (by decide +kernel)]; kernel_rfl) | (rw [if_neg (by decide +kernel)]; exact ⟨rfl, rfl⟩))
    (fun os started H enc _ F => printParts_lifted os started H enc F)
theorem printParts_uptocard : Rows.PrintPartsUptoCardSaid :=
  Claim7.holds_tied_plain_at .later [] [.data, .data, .data, .data, .sentinel, .sentinel, .pinned] true (true, "406869160254475b7e63380e512646b81a63b233f1e606eca4ccc33e1e3afc40") true
    printParts_holds (fun _ h => by cases h) (by kernel_rfl) (fun _ h => by cases h) printPartsUpto_row_tie rfl ⟨rfl, rfl⟩ (by kernel_rfl) rfl
    (fun f fn hf hfn => by
      obtain rfl : f = 5 := Option.some.inj ((show Tryz.prog.funcNamed "scarf/scarflaw08.PrintParts" = some 5 by kernel_rfl).symm.trans hf) |>.symm
      obtain rfl : fn = Tryz.f5 := (Option.some.inj (Tryz.func5.symm.trans hfn)).symm
      exact ⟨by kernel_rfl, fun j t ht => by
        rw [Tryz.params5] at ht
        have hm : t ∈ [25] := by simpa using Array.mem_of_getElem? ht
        have hall : ([25].all fun u => !Tryz.prog.wantsStandIn u) = true := by kernel_rfl
        exact (show Tryz.prog.wantsStandIn t = false by simpa using List.all_eq_true.1 hall t hm)⟩)
    (by kernel_rfl)
end Go.Scarf
namespace Go.Proofs.YtehmojdjpmliaaaGreatDoor
/-- The statement as it was given. -/
theorem printParts_proved : Rows.PrintPartsUptoCardSaid := Go.Scarf.printParts_uptocard
end Go.Proofs.YtehmojdjpmliaaaGreatDoor
