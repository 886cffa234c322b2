/- The statement TedCosts, for every input that its row names: proved. -/
import Derived.Test.YtpliibolgknenaaGreatDoorRow
import Derived.Test.YtpliibolgknenaaGreatDoorRow3
import Derived.Test.YtpliibolgknenaaGreatDoorCards
import Derived.Test.YtpliibolgknenaaGreatDoorX12
set_option linter.all false
namespace Go.Scarf
open Go.RowKit Go.Proofs
set_option maxRecDepth 100000
open Go.ChangeShapes Go.WideShapes Go.ChangeAt Go.Proofs.YtpliibolgknenaaGreatDoor
theorem tedCosts_lifted (os : Os) (started : os.Started) (H : Type) (enc : TypeId × Value → H) :
    ReturnsInHanded {} Tryz.checked os 6 .any (fun w args => (Rows.tedCostsSpec.pre enc Tryz.prog Tryz.f6 [] false w args ∧ laidMetH Tryz.prog laidL w) ∧ sizedMet enc Tryz.prog Tryz.f6 (OpenSpec.ofChange Rows.tedCostsSpec) false w args)
      (Rows.tedCostsSpec.post enc Tryz.prog Tryz.f6 false true false false) := by
  refine returnsInHanded_of_change_and (C := Tryz.checked) (X := fun w _ => laidMetH Tryz.prog laidL w) (fun _ _ _ hh h => h.of_heap hh) own_ started (by kernel_rfl) Tryz.func6
    (ChangeSpec.witness_shaped (enc := enc) (C := Tryz.checked) (os := os) (X := fun w _ => laidMetH Tryz.prog laidL w) false (World.laidAll Tryz.prog os laidL) #[.agg #[.slice none 0 0, .slice none 0 0], .agg #[.slice none 0 0, .slice none 0 0]] 8 (World.laidAll_os _ _ _)
      (World.shaped_of_ZipB (by kernel_rfl) (by kernel_rfl)) (by kernel_rfl) (by kernel_rfl) (by kernel_rfl) (wit_ os _)) ?_
  intro W base args ds gs before hval0 hW _ _ hL _
  have hval : ∀ (j : Nat) t v, Tryz.f6.params[j]? = some t → args[j]? = some v → Value.okWide Tryz.prog W .any base t v := hval0
  have hW' := hW
  have hlt := hW.lt
  obtain ⟨p, q, hA0, hV, rfl, _, _⟩ := hW
  have hA : DataW.TrodAll enc Tryz.prog W 0 (fun _ => true) true Tryz.f6.params.toList args.toList ds p := hA0
  rw [Tryz.params6] at hA hval
  obtain ⟨v0, v1, d0, d1, p0, p1, rfl, rfl, rfl, h0, h1⟩ := trodAll_two hA
  obtain ⟨rfl, rfl⟩ := trodVars_none hV
  clear hA0 hval0
  simp only [List.append_nil] at hW' hlt
  obtain ⟨x0, f0, A0, c0, B0, e0, rfl, r0, q0⟩ := open_nodes (hval 0 30 v0 rfl rfl) h0
  obtain ⟨x1, f1, A1, c1, B1, e1, rfl, r1, q1⟩ := open_nodes (hval 1 30 v1 rfl rfl) h1
  have hG := gl_of_laid hL
  refine (tedCosts_w W hG x0 f0 A0 c0 B0 e0 r0 q0 x1 f1 A1 c1 B1 e1 r1 q1).mono fun e W' ⟨v, he, hv, hs⟩ => ?_
  subst he hv
  have hb := hs.below
  exact ⟨_, rfl, _, _, _, [], _, [], hW', trodAll_mk1 (shut_bool Tryz.underlying4 _), trodAll_mk2 (stays_ rec30 row30 hb (fun q hq => hlt q (by simp [hq])) h0) (stays_ rec30 row30 hb (fun q hq => hlt q (by simp [hq])) h1), rfl, hb.frame _, fun h => by cases h⟩
theorem tedCosts_holds : Rows.TedCostsSaid :=
  OpenClaim.holds_of_wide 6 Tryz.f6 rfl rfl rfl rfl rfl rfl rfl ⟨rfl, rfl, rfl, rfl, rfl⟩ rfl rfl rfl rfl rfl (by kernel_rfl) Tryz.func6 (by kernel_rfl)
    (of_decide_eq_true (by kernel_rfl)) (by unfold Func.isWrapper; first | (rw [if_pos (by decide +kernel)]; kernel_rfl) | (rw [if_neg (by decide +kernel)]; exact ⟨rfl, rfl⟩))
    (fun os started H enc _ => tedCosts_lifted os started H enc)
theorem tedCosts_card : Rows.TedCostsCardSaid :=
  Claim7.holds_tied_plain_at .later [] [.data, .data, .data, .data, .sentinel, .sentinel, .pinned] true (true, "4d16cb2bbea105d4ad904949ae4d032a5eae47a69e6a2bad605ae6bd9cbad3be") true
    tedCosts_holds (fun _ h => by cases h) (by kernel_rfl) (fun _ h => by cases h) tedCosts_row_tie rfl ⟨rfl, rfl⟩ (by kernel_rfl) rfl
    (fun f fn hf hfn => by
      obtain rfl : f = 6 := Option.some.inj ((show Tryz.prog.funcNamed "scarf/scarflaw16.TedCosts" = some 6 by kernel_rfl).symm.trans hf) |>.symm
      obtain rfl : fn = Tryz.f6 := (Option.some.inj (Tryz.func6.symm.trans hfn)).symm
      exact ⟨by kernel_rfl, fun j t ht => by
        rw [Tryz.params6] at ht
        have hm : t ∈ [30, 30] := by simpa using Array.mem_of_getElem? ht
        have hall : ([30, 30].all fun u => !Tryz.prog.wantsStandIn u) = true := by kernel_rfl
        exact (show Tryz.prog.wantsStandIn t = false by simpa using List.all_eq_true.1 hall t hm)⟩)
    (by kernel_rfl)
end Go.Scarf
namespace Go.Proofs.YtpliibolgknenaaGreatDoor
/-- The statement as it was given. -/
theorem tedCosts_proved : Rows.TedCostsCardSaid := Go.Scarf.tedCosts_card
end Go.Proofs.YtpliibolgknenaaGreatDoor
