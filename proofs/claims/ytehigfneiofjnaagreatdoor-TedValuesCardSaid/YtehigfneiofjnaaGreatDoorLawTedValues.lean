/- The statement TedValues, for every input that its row names: proved. -/
import Derived.Test.YtehigfneiofjnaaGreatDoorRow
import Derived.Test.YtehigfneiofjnaaGreatDoorCards
import Derived.Test.YtehigfneiofjnaaGreatDoorX13
set_option linter.all false
set_option maxHeartbeats 8000000
set_option maxRecDepth 10000
namespace Go.Scarf
open Go.RowKit Go.Proofs Go.Proofs.Tryz
set_option maxRecDepth 100000
open Go.ChangeShapes Go.WideShapes Go.ChangeAt Go.Proofs.YtehigfneiofjnaaGreatDoor
theorem Fw (os : Os) (started : os.Started) (H : Type) (enc : TypeId × Value → H) :
    ReturnsInHanded {} checked os 3 .any (fun w args => (Rows.tedValuesSpec.pre enc prog f3 [] false w args ∧ laidMetH prog Sn w) ∧ sizedMet enc prog f3 (OpenSpec.ofChange Rows.tedValuesSpec) false w args)
      (Rows.tedValuesSpec.post enc prog f3 false true false false) := by
  refine returnsInHanded_of_change_and (C := checked) (X := fun w _ => laidMetH prog Sn w) (fun _ _ _ hh h => h.of_heap hh) RT started Fb func3
    (ChangeSpec.witness_shaped (enc := enc) (C := checked) (os := os) (X := fun w _ => laidMetH prog Sn w) false (World.laidAll prog os Sn) #[.agg #[.int .i64 0, .string (bs []), .slice none 0 0, .slice none 0 0], .agg #[.int .i64 0, .string (bs []), .slice none 0 0, .slice none 0 0]] 8 (World.laidAll_os _ _ _)
      (World.shaped_of_ZipB Fb Fb) Fb Fb Fb (DT os _)) ?_
  intro W base args ds gs before hval0 hW _ _ hL _
  have hval : ∀ (j : Nat) t v, f3.params[j]? = some t → args[j]? = some v → Value.okWide prog W .any base t v := hval0
  have hW' := hW
  have hlt := hW.lt
  obtain ⟨p, q, hA0, hV, rfl, _, _⟩ := hW
  have hA : DataW.TrodAll enc prog W 0 (fun _ => true) true f3.params.toList args.toList ds p := hA0
  rw [params3] at hA hval
  obtain ⟨v0, v1, d0, d1, p0, p1, rfl, rfl, rfl, h0, h1⟩ := trodAll_two hA
  obtain ⟨rfl, rfl⟩ := trodVars_none hV
  clear hA0 hval0
  simp only [List.append_nil] at hW' hlt
  obtain ⟨x0, c0, rfl, r0⟩ := E1 (hval 0 25 v0 rfl rfl) h0
  obtain ⟨x1, c1, rfl, r1⟩ := E1 (hval 1 25 v1 rfl rfl) h1
  have hG := X9 hL
  refine (L7 W hG x0 c0 r0 x1 c1 r1).mono fun e W' ⟨v, he, hv, hs⟩ => ?_
  subst he hv
  have hb := hs.below
  exact ⟨_, rfl, _, _, _, [], _, [], hW', trodAll_mk1 (shut_bool underlying4 _), trodAll_mk2 (JJ PM NM hb (fun q hq => hlt q (by simp [hq])) h0) (JJ PM NM hb (fun q hq => hlt q (by simp [hq])) h1), rfl, hb.frame _, fun h => by cases h⟩
theorem Xx : Rows.TedValuesSaid :=
  OpenClaim.holds_of_wide 3 f3 rfl rfl rfl rfl rfl rfl rfl ⟨rfl, rfl, rfl, rfl, rfl⟩ rfl rfl rfl rfl rfl Fb func3 Fb
    (of_decide_eq_true Fb) (by unfold Func.isWrapper; first | (rw [if_pos (by decide +kernel)]; kernel_rfl) | (rw [if_neg (by decide +kernel)]; exact ⟨rfl, rfl⟩))
    (fun os started H enc _ => Fw os started H enc)
theorem tedValues_card : Rows.TedValuesCardSaid :=
  Claim7.holds_tied_plain_at .later [] [.data, .data, .data, .data, .sentinel, .sentinel, .pinned] true (true, "384e10933572a50b81b995e1dc44dae498c11ae3a4a0df047d088900ee43f764") true
    Xx (fun _ h => by cases h) Fb (fun _ h => by cases h) tedValues_row_tie rfl ⟨rfl, rfl⟩ Fb rfl
    (fun f fn hf hfn => by
      obtain rfl : f = 3 := Option.some.inj ((show prog.funcNamed "scarf/scarflaw16.TedValues" = some 3 by kernel_rfl).symm.trans hf) |>.symm
      obtain rfl : fn = f3 := (Option.some.inj (func3.symm.trans hfn)).symm
      exact ⟨by kernel_rfl, fun j t ht => by
        rw [params3] at ht
        have hm : t ∈ [25, 25] := by simpa using Array.mem_of_getElem? ht
        have hall : ([25, 25].all fun u => !prog.wantsStandIn u) = true := by kernel_rfl
        exact (show prog.wantsStandIn t = false by simpa using List.all_eq_true.1 hall t hm)⟩)
    Fb
end Go.Scarf
namespace Go.Proofs.YtehigfneiofjnaaGreatDoor
/-- The statement as it was given. -/
theorem tedValues_proved : Rows.TedValuesCardSaid := Go.Scarf.tedValues_card
end Go.Proofs.YtehigfneiofjnaaGreatDoor
