/- The statement KeyedTells, for every input that its row names: proved. -/
import Derived.Test.YtonoededmmohhaaGreatDoorRow
import Derived.Test.YtonoededmmohhaaGreatDoorCards
import Derived.Test.YtonoededmmohhaaGreatDoorX8
set_option linter.all false
namespace Go.Scarf
open Go.RowKit Go.Proofs
set_option maxRecDepth 100000
open Go.ChangeShapes Go.WideShapes Go.ChangeAt Go.Proofs.YtonoededmmohhaaGreatDoor
theorem keyedTells_lifted (os : Os) (started : os.Started) (H : Type) (enc : TypeId × Value → H) :
    ReturnsInHanded {} Tryz.checked os 5 .any (fun w args => (Rows.keyedTellsSpec.pre enc Tryz.prog Tryz.f5 [] false w args ∧ laidMetH Tryz.prog laidL w) ∧ sizedMet enc Tryz.prog Tryz.f5 (OpenSpec.ofChange Rows.keyedTellsSpec) false w args)
      (Rows.keyedTellsSpec.post enc Tryz.prog Tryz.f5 false true false false) := by
  refine returnsInHanded_of_change_and (C := Tryz.checked) (X := fun w _ => laidMetH Tryz.prog laidL w) (fun _ _ _ hh h => h.of_heap hh) own_ started (by kernel_rfl) Tryz.func5
    (ChangeSpec.witness_shaped (enc := enc) (C := Tryz.checked) (os := os) (X := fun w _ => laidMetH Tryz.prog laidL w) false (World.laidAll Tryz.prog os laidL) #[.agg #[.int .i64 0, .string (bs []), .slice none 0 0, .slice none 0 0], .agg #[.int .i64 0, .string (bs []), .slice none 0 0, .slice none 0 0], .string (bs []), .string (bs [])] 8 (World.laidAll_os _ _ _)
      (World.shaped_of_ZipB (by kernel_rfl) (by kernel_rfl)) (by kernel_rfl) (by kernel_rfl) (by kernel_rfl) (wit_ os _)) ?_
  intro W base args ds gs before hval0 hW _ _ hL _
  have hval : ∀ (j : Nat) t v, Tryz.f5.params[j]? = some t → args[j]? = some v → Value.okWide Tryz.prog W .any base t v := hval0
  have hW' := hW
  have hlt := hW.lt
  obtain ⟨p, q, hA0, hV, rfl, _, _⟩ := hW
  have hA : DataW.TrodAll enc Tryz.prog W 0 (fun _ => true) true Tryz.f5.params.toList args.toList ds p := hA0
  rw [Tryz.params5] at hA hval
  obtain ⟨v0, v1, v2, v3, d0, d1, d2, d3, p0, p1, p2, p3, rfl, rfl, rfl, h0, h1, h2, h3⟩ := trodAll_four hA
  obtain ⟨rfl, rfl⟩ := trodVars_none hV
  clear hA0 hval0
  simp only [List.append_nil] at hW' hlt
  obtain ⟨x0, c0, rfl, r0⟩ := open_tree (hval 0 32 v0 rfl rfl) h0
  obtain ⟨x1, c1, rfl, r1⟩ := open_tree (hval 1 32 v1 rfl rfl) h1
  obtain ⟨x2, rfl, r2⟩ := open_text (hval 2 9 v2 rfl rfl) h2
  obtain ⟨x3, rfl, r3⟩ := open_text (hval 3 9 v3 rfl rfl) h3
  have hG := gl_of_laid hL
  refine (keyedTells_w W hG x0 c0 r0 x1 c1 r1 x2 r2 x3 r3).mono fun e W' ⟨v, he, hv, hs⟩ => ?_
  subst he hv
  have hb := hs.below
  exact ⟨_, rfl, _, _, _, [], _, [], hW', trodAll_mk1 (shut_bool Tryz.underlying4 _), trodAll_mk4 (stays_ rec32 row32 hb (fun q hq => hlt q (by simp [hq])) h0) (stays_ rec32 row32 hb (fun q hq => hlt q (by simp [hq])) h1) (stays_ rec9 row9 hb (fun q hq => hlt q (by simp [hq])) h2) (stays_ rec9 row9 hb (fun q hq => hlt q (by simp [hq])) h3), rfl, hb.frame _, fun h => by cases h⟩
theorem keyedTells_holds : Rows.KeyedTellsSaid :=
  OpenClaim.holds_of_wide 5 Tryz.f5 rfl rfl rfl rfl rfl rfl rfl ⟨rfl, rfl, rfl, rfl, rfl⟩ rfl rfl rfl rfl rfl (by kernel_rfl) Tryz.func5 (by kernel_rfl)
    (of_decide_eq_true (by kernel_rfl)) (by unfold Func.isWrapper; first | (rw [if_pos (by decide +kernel)]; kernel_rfl) | (rw [if_neg (by decide +kernel)]; exact ⟨rfl, rfl⟩))
    (fun os started H enc _ => keyedTells_lifted os started H enc)
theorem keyedTells_card : Rows.KeyedTellsCardSaid :=
  Claim7.holds_tied_plain_at .later [] [.data, .data, .data, .data, .sentinel, .sentinel, .pinned] true (true, "c6690d40d71c0c25b6bf1af25e2ae7a2b3582b34f0b01d2eb5dc3eae261e5615") true
    keyedTells_holds (fun _ h => by cases h) (by kernel_rfl) (fun _ h => by cases h) keyedTells_row_tie rfl ⟨rfl, rfl⟩ (by kernel_rfl) rfl
    (fun f fn hf hfn => by
      obtain rfl : f = 5 := Option.some.inj ((show Tryz.prog.funcNamed "scarf/scarflaw19.KeyedTells" = some 5 by kernel_rfl).symm.trans hf) |>.symm
      obtain rfl : fn = Tryz.f5 := (Option.some.inj (Tryz.func5.symm.trans hfn)).symm
      exact ⟨by kernel_rfl, fun j t ht => by
        rw [Tryz.params5] at ht
        have hm : t ∈ [32, 32, 9, 9] := by simpa using Array.mem_of_getElem? ht
        have hall : ([32, 32, 9, 9].all fun u => !Tryz.prog.wantsStandIn u) = true := by kernel_rfl
        exact (show Tryz.prog.wantsStandIn t = false by simpa using List.all_eq_true.1 hall t hm)⟩)
    (by kernel_rfl)
end Go.Scarf
namespace Go.Proofs.YtonoededmmohhaaGreatDoor
/-- The statement as it was given. -/
theorem keyedTells_proved : Rows.KeyedTellsCardSaid := Go.Scarf.keyedTells_card
end Go.Proofs.YtonoededmmohhaaGreatDoor
