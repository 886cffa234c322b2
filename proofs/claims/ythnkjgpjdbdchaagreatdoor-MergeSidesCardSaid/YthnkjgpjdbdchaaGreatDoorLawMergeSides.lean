/- The statement MergeSides, for every input that its row names: proved. -/
import Derived.Test.YthnkjgpjdbdchaaGreatDoorCards
import Derived.Test.YthnkjgpjdbdchaaGreatDoorX21
set_option linter.all false
set_option maxHeartbeats 8000000
set_option maxRecDepth 10000
namespace Go.Scarf
open Go.RowKit Go.Proofs Go.Proofs.Tryz
set_option maxRecDepth 100000
open Go.ChangeShapes Go.WideShapes Go.ChangeAt Go.Proofs.YthnkjgpjdbdchaaGreatDoor
theorem H2(os:Os)(started:os.Started)(H:Type)(enc:TypeId × Value->H) :
    ReturnsInHanded {} checked os 3 .any (λw args=>(Rows.mergeSidesSpec.pre enc prog f3 [] false w args/\laidMetH prog Ur w)/\sizedMet enc prog f3 (OpenSpec.ofChange Rows.mergeSidesSpec) false w args)
      (Rows.mergeSidesSpec.post enc prog f3 false true false false):=by
  refine returnsInHanded_of_change_and (C:=checked) (X:=λw _=>laidMetH prog Ur w) (λ_ _ _ hh h=>h.of_heap hh) own_ started Mb func3
    (ChangeSpec.witness_shaped (enc:=enc) (C:=checked) (os:=os) (X:=λw _=>laidMetH prog Ur w) false (World.laidAll prog os Ur) #[.agg #[J 0,I [],aQ,aQ],.agg #[J 0,I [],aQ,aQ],aQ] 8 (World.laidAll_os _ _ _)
      (World.shaped_of_ZipB Mb Mb) Mb Mb Mb (wit_ os _)) ?_
  intro W base args ds gs before hval0 hW _ _ hL _;have hval:∀(j:Nat) t v,f3.params[j]? = some t->args[j]? = some v->Value.okWide prog W .any base t v:=hval0;have hW':=hW;have hlt:=hW.lt;obtain⟨p,q,hA0,hV,rfl,_,_⟩:=hW;have hA:DataW.TrodAll enc prog W 0 (λ_=>true) true f3.params.toList args.toList ds p:=hA0;rw[params3]at hA hval;obtain⟨v0,v1,v2,d0,d1,d2,p0,p1,p2,rfl,rfl,rfl,h0,h1,h2⟩:=trodAll_three hA;obtain⟨rfl,rfl⟩:=trodVars_none hV;clear hA0 hval0;simp only[qQ]at hW' hlt;obtain⟨x0,c0,rfl,r0⟩:=TC (hval 0 25 v0 rfl rfl) h0;obtain⟨x1,c1,rfl,r1⟩:=TC (hval 1 25 v1 rfl rfl) h1;obtain⟨x2,A2,c2,rfl,r2⟩:=UM (hval 2 26 v2 rfl rfl) h2;have hG:=KN hL;refine (KE W hG x0 c0 r0 x1 c1 r1 x2 A2 c2 r2).mono λe W' ⟨v,he,hv,hs⟩=>?_;subst he hv;have hb:=hs.below;exact⟨_,O,_,_,_,[],_,[],hW',trodAll_mk1 (shut_bool underlying4 _),trodAll_mk3 (BN rec25 row25 hb (λq hq=>hlt q (by simp[hq])) h0) (BN rec25 row25 hb (λq hq=>hlt q (by simp[hq])) h1) (BN rec26 row26 hb (λq hq=>hlt q (by simp[hq])) h2),O,hb.frame _,λh=>by cases h⟩
theorem OA:Tryz.pinned.checked.prog.funcNamed Rows.mergeSidesRow.func=some 3:=by kernel_rfl
theorem FB:joinedFacts Tryz.pinned.checked.prog 3 f3 Rows.mergeSidesSpec Rows.mergeSidesRow=true:=by kernel_rfl
theorem SA:decide (Func.isInstance Tryz.pinned.checked.prog f3 Rows.mergeSidesRow.origin Rows.mergeSidesRow.targs)=true:=by kernel_rfl
theorem F4:Rows.MergeSidesSaid :=
  OpenClaim.holds_of_wide 3 f3 rfl rfl rfl rfl rfl rfl rfl ⟨rfl,rfl,rfl,rfl,rfl⟩ rfl rfl rfl rfl rfl OA func3 FB
    (of_decide_eq_true SA) (by unfold Func.isWrapper;first|(rw[if_pos (by decide +kernel)];kernel_rfl)|(rw[if_neg (by decide +kernel)];exact⟨rfl,rfl⟩))
    (λos started H enc _=>H2 os started H enc)
theorem mergeSides_card:Rows.MergeSidesCardSaid :=
  Claim7.holds_tied_plain_at .later [] [.data,.data,.data,.data,.sentinel,.sentinel,.pinned] true (true, "1dc1f219227f537ca32fa7943b1bbc2afb8946ab6d086be8f9ec8e9912ce03d1") true
    F4 (λ_ h=>by cases h) Mb (λ_ h=>by cases h) mergeSides_row_tie rfl ⟨rfl,rfl⟩ Mb rfl
    (λf fn hf hfn=>by
      obtain rfl:f=3:=lQ ((show prog.funcNamed "scarf/scarflaw24.MergeSides" = some 3 by kernel_rfl).symm.trans hf) |>.symm;obtain rfl:fn=f3:=(lQ (func3.symm.trans hfn)).symm;exact⟨by kernel_rfl,λj t ht=>by
        rw[params3]at ht;have hm:t∈[25,25,26]:=by simpa using Array.mem_of_getElem? ht
        have hall:([25,25,26].all λu=>!prog.wantsStandIn u)=true:=by kernel_rfl
        exact (show prog.wantsStandIn t=false by simpa using List.all_eq_true.1 hall t hm)⟩)
    Mb
end Go.Scarf
namespace Go.Proofs.YthnkjgpjdbdchaaGreatDoor
/-- The statement as it was given. -/
theorem mergeSides_proved:Rows.MergeSidesCardSaid:=Go.Scarf.mergeSides_card
end Go.Proofs.YthnkjgpjdbdchaaGreatDoor
