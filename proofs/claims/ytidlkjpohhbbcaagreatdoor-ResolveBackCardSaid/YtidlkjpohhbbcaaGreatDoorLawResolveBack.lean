/- The statement ResolveBack, for every input that its row names: proved. -/
import Derived.Test.YtidlkjpohhbbcaaGreatDoorCards
import Derived.Test.YtidlkjpohhbbcaaGreatDoorLb
set_option linter.all false
set_option maxHeartbeats 8000000
set_option maxRecDepth 10000
namespace Go.Scarf
open Go.RowKit Go.Proofs Go.Proofs.Tryz
set_option maxRecDepth 100000
open Go.ChangeShapes Go.WideShapes Go.ChangeAt Go.Proofs.YtidlkjpohhbbcaaGreatDoor
theorem Hx(os:Os)(started:os.Started)(H:Type)(enc:TypeId × Value->H) :
    ReturnsInHanded {} checked os 4 .any (λw args=>(Rows.resolveBackSpec.pre enc prog f4 [] false w args/\laidMetH prog Fp w)/\sizedMet enc prog f4 (OpenSpec.ofChange Rows.resolveBackSpec) false w args)
      (Rows.resolveBackSpec.post enc prog f4 false true false false):=by
  refine returnsInHanded_of_change_and (C:=checked) (X:=λw _=>laidMetH prog Fp w) (λ_ _ _ hh h=>h.of_heap hh) own_ started Ib func4
    (ChangeSpec.witness_shaped (enc:=enc) (C:=checked) (os:=os) (X:=λw _=>laidMetH prog Fp w) false (World.laidAll prog os Fp) #[aQ,I []] 8 (World.laidAll_os _ _ _)
      (World.shaped_of_ZipB Ib Ib) Ib Ib Ib (wit_ os _)) ?_
  intro W base args ds gs before hval0 hW _ _ hL _;have hval:∀(j:Nat) t v,f4.params[j]? = some t->args[j]? = some v->Value.okWide prog W .any base t v:=hval0;have hW':=hW;have hlt:=hW.lt;obtain⟨p,q,hA0,hV,rfl,_,_⟩:=hW;have hA:DataW.TrodAll enc prog W 0 (λ_=>true) true f4.params.toList args.toList ds p:=hA0;rw[params4]at hA hval;obtain⟨v0,v1,d0,d1,p0,p1,rfl,rfl,rfl,h0,h1⟩:=trodAll_two hA;obtain⟨rfl,rfl⟩:=trodVars_none hV;clear hA0 hval0;simp only[qQ]at hW' hlt;obtain⟨x0,A0,c0,rfl,r0⟩:=DY (hval 0 22 v0 rfl rfl) h0;obtain⟨x1,rfl,r1⟩:=TU (hval 1 9 v1 rfl rfl) h1;have hG:=WL hL;refine (Y8 W hG x0 A0 c0 r0 x1 r1).mono λe W' ⟨v,he,hv,hs⟩=>?_;subst he hv;have hb:=hs.below;exact⟨_,O,_,_,_,[],_,[],hW',trodAll_mk1 (shut_bool underlying4 _),trodAll_mk2 (TY rec22 row22 hb (λq hq=>hlt q (by simp[hq])) h0) (TY rec9 row9 hb (λq hq=>hlt q (by simp[hq])) h1),O,hb.frame _,λh=>by cases h⟩
theorem K6:Tryz.pinned.checked.prog.funcNamed Rows.resolveBackRow.func=some 4:=by kernel_rfl
theorem U6:joinedFacts Tryz.pinned.checked.prog 4 f4 Rows.resolveBackSpec Rows.resolveBackRow=true:=by kernel_rfl
theorem A8:decide (Func.isInstance Tryz.pinned.checked.prog f4 Rows.resolveBackRow.origin Rows.resolveBackRow.targs)=true:=by kernel_rfl
theorem Dy:Rows.ResolveBackSaid :=
  OpenClaim.holds_of_wide 4 f4 rfl rfl rfl rfl rfl rfl rfl ⟨rfl,rfl,rfl,rfl,rfl⟩ rfl rfl rfl rfl rfl K6 func4 U6
    (of_decide_eq_true A8) (by unfold Func.isWrapper;first|(rw[if_pos (by decide +kernel)];kernel_rfl)|(rw[if_neg (by decide +kernel)];exact⟨rfl,rfl⟩))
    (λos started H enc _=>Hx os started H enc)
theorem Y6:Rows.resolveBackRow.wfByText (OpenSpec.ofChange Rows.resolveBackSpec)=true:=by kernel_rfl
theorem O6:Tryz.pinned.checked.prog.mainIs=some ((((true, "2791d3bf0dee19e540bd6783546170b88f603c560af990d356c3e2a5832c474e"):Bool × String)).1,(((true, "2791d3bf0dee19e540bd6783546170b88f603c560af990d356c3e2a5832c474e"):Bool × String)).2.toList):=by kernel_rfl
theorem D7:true=Tryz.pinned.checked.prog.looks []:=by kernel_rfl
theorem M6:prog.funcNamed "scarf/scarflaw27.ResolveBack" = some 4:=by kernel_rfl
theorem R6:([22,9].all λu=>!prog.wantsStandIn u)=true:=by kernel_rfl
theorem X7:false=Rows.resolveBackRow.goesBy Tryz.pinned.checked.prog:=by kernel_rfl
theorem resolveBack_card:Rows.ResolveBackCardSaid :=
  Claim7.holds_tied_plain_at .later [] [.data,.data,.data,.data,.sentinel,.sentinel,.pinned] true (true, "2791d3bf0dee19e540bd6783546170b88f603c560af990d356c3e2a5832c474e") true
    Dy (λ_ h=>by cases h) Y6 (λ_ h=>by cases h) resolveBack_row_tie rfl ⟨rfl,rfl⟩ O6 rfl
    (λf fn hf hfn=>by
      obtain rfl:f=4:=lQ (M6.symm.trans hf) |>.symm;obtain rfl:fn=f4:=(lQ (func4.symm.trans hfn)).symm;exact⟨D7,λj t ht=>by
        rw[params4]at ht;have hm:t∈[22,9]:=by simpa using Array.mem_of_getElem? ht
        exact (show prog.wantsStandIn t=false by simpa using List.all_eq_true.1 R6 t hm)⟩)
    X7
end Go.Scarf
namespace Go.Proofs.YtidlkjpohhbbcaaGreatDoor
/-- The statement as it was given. -/
theorem resolveBack_proved:Rows.ResolveBackCardSaid:=Go.Scarf.resolveBack_card
end Go.Proofs.YtidlkjpohhbbcaaGreatDoor
