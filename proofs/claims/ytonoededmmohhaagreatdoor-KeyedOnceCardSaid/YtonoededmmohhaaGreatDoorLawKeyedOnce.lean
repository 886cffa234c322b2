/- The statement KeyedOnce, for every input that its row names: proved. -/
import Derived.Test.YtonoededmmohhaaGreatDoorRow
import Derived.Test.YtonoededmmohhaaGreatDoorRow3
import Derived.Test.YtonoededmmohhaaGreatDoorCards
import Derived.Test.YtonoededmmohhaaGreatDoorX7
set_option linter.all false
namespace Go.Scarf
open Go.RowKit Go.Proofs
set_option maxRecDepth 100000
open Go.ChangeShapes Go.WideShapes Go.ChangeAt Go.Proofs.YtonoededmmohhaaGreatDoor
theorem keyedOnce_lifted (os : Os) (started : os.Started) (H : Type) (enc : TypeId × Value → H) :
    ReturnsInHanded {} Tryz.checked os 4 .any (fun w args => (Rows.keyedOnceSpec.pre enc Tryz.prog Tryz.f4 [] false w args ∧ laidMetH Tryz.prog laidL w) ∧ sizedMet enc Tryz.prog Tryz.f4 (OpenSpec.ofChange Rows.keyedOnceSpec) false w args)
      (Rows.keyedOnceSpec.post enc Tryz.prog Tryz.f4 false true false false) := by
  refine returnsInHanded_of_change_and (C := Tryz.checked) (X := fun w _ => laidMetH Tryz.prog laidL w) (fun _ _ _ hh h => h.of_heap hh) own_ started (by kernel_rfl) Tryz.func4
    (ChangeSpec.witness_shaped (enc := enc) (C := Tryz.checked) (os := os) (X := fun w _ => laidMetH Tryz.prog laidL w) false (World.laidAll Tryz.prog os laidL) #[.slice none 0 0, .slice none 0 0] 8 (World.laidAll_os _ _ _)
      (World.shaped_of_ZipB (by kernel_rfl) (by kernel_rfl)) (by kernel_rfl) (by kernel_rfl) (by kernel_rfl) (wit_ os _)) ?_
  intro W base args ds gs before hval0 hW _ _ hL _
  have hval : ∀ (j : Nat) t v, Tryz.f4.params[j]? = some t → args[j]? = some v → Value.okWide Tryz.prog W .any base t v := hval0
  have hW' := hW
  have hlt := hW.lt
  obtain ⟨p, q, hA0, hV, rfl, _, _⟩ := hW
  have hA : DataW.TrodAll enc Tryz.prog W 0 (fun _ => true) true Tryz.f4.params.toList args.toList ds p := hA0
  rw [Tryz.params4] at hA hval
  obtain ⟨v0, v1, d0, d1, p0, p1, rfl, rfl, rfl, h0, h1⟩ := trodAll_two hA
  obtain ⟨rfl, rfl⟩ := trodVars_none hV
  clear hA0 hval0
  simp only [List.append_nil] at hW' hlt
  obtain ⟨x0, A0, c0, rfl, r0⟩ := open_strs (hval 0 22 v0 rfl rfl) h0
  obtain ⟨x1, A1, c1, rfl, r1⟩ := open_strs (hval 1 22 v1 rfl rfl) h1
  have hG := gl_of_laid hL
  refine (keyedOnce_w W hG x0 A0 c0 r0 x1 A1 c1 r1).mono fun e W' ⟨v, he, hv, hs⟩ => ?_
  subst he hv
  have hb := hs.below
  exact ⟨_, rfl, _, _, _, [], _, [], hW', trodAll_mk1 (shut_bool Tryz.underlying4 _), trodAll_mk2 (stays_ rec22 row22 hb (fun q hq => hlt q (by simp [hq])) h0) (stays_ rec22 row22 hb (fun q hq => hlt q (by simp [hq])) h1), rfl, hb.frame _, fun h => by cases h⟩
theorem keyedOnce_holds : Rows.KeyedOnceSaid :=
  OpenClaim.holds_of_wide 4 Tryz.f4 rfl rfl rfl rfl rfl rfl rfl ⟨rfl, rfl, rfl, rfl, rfl⟩ rfl rfl rfl rfl rfl (by kernel_rfl) Tryz.func4 (by kernel_rfl)
    (of_decide_eq_true (by kernel_rfl)) (by unfold Func.isWrapper; first | (rw [if_pos (by decide +kernel)]; kernel_rfl) | (rw [if_neg (by decide +kernel)]; exact ⟨rfl, rfl⟩))
    (fun os started H enc _ => keyedOnce_lifted os started H enc)
theorem keyedOnce_card : Rows.KeyedOnceCardSaid :=
  Claim7.holds_tied_plain_at .later [] [.data, .data, .data, .data, .sentinel, .sentinel, .pinned] true (true, "c6690d40d71c0c25b6bf1af25e2ae7a2b3582b34f0b01d2eb5dc3eae261e5615") true
    keyedOnce_holds (fun _ h => by cases h) (by kernel_rfl) (fun _ h => by cases h) keyedOnce_row_tie rfl ⟨rfl, rfl⟩ (by kernel_rfl) rfl
    (fun f fn hf hfn => by
      obtain rfl : f = 4 := Option.some.inj ((show Tryz.prog.funcNamed "scarf/scarflaw19.KeyedOnce" = some 4 by kernel_rfl).symm.trans hf) |>.symm
      obtain rfl : fn = Tryz.f4 := (Option.some.inj (Tryz.func4.symm.trans hfn)).symm
      exact ⟨by kernel_rfl, fun j t ht => by
        rw [Tryz.params4] at ht
        have hm : t ∈ [22, 22] := by simpa using Array.mem_of_getElem? ht
        have hall : ([22, 22].all fun u => !Tryz.prog.wantsStandIn u) = true := by kernel_rfl
        exact (show Tryz.prog.wantsStandIn t = false by simpa using List.all_eq_true.1 hall t hm)⟩)
    (by kernel_rfl)
end Go.Scarf
namespace Go.Proofs.YtonoededmmohhaaGreatDoor
/-- The statement as it was given. -/
theorem keyedOnce_proved : Rows.KeyedOnceCardSaid := Go.Scarf.keyedOnce_card
end Go.Proofs.YtonoededmmohhaaGreatDoor
