/- The statement MergeMembers, for every input that its row names: proved. -/
import Derived.Test.YthnkjgpjdbdchaaGreatDoorCards
import Derived.Test.YthnkjgpjdbdchaaGreatDoorX20
set_option linter.all false
set_option maxHeartbeats 8000000
set_option maxRecDepth 10000
namespace Go.Scarf
open Go.RowKit Go.Proofs Go.Proofs.Tryz
set_option maxRecDepth 100000
open Go.ChangeShapes Go.WideShapes Go.ChangeAt Go.Proofs.YthnkjgpjdbdchaaGreatDoor
theorem Dz(os:Os)(started:os.Started)(H:Type)(enc:TypeId × Value->H) :
    ReturnsInHanded {} checked os 5 .any (λw args=>(Rows.mergeMembersSpec.pre enc prog f5 [] false w args/\laidMetH prog Hs w)/\sizedMet enc prog f5 (OpenSpec.ofChange Rows.mergeMembersSpec) false w args)
      (Rows.mergeMembersSpec.post enc prog f5 false true false false):=by
  refine returnsInHanded_of_change_and (C:=checked) (X:=λw _=>laidMetH prog Hs w) (λ_ _ _ hh h=>h.of_heap hh) own_ started Ob func5
    (ChangeSpec.witness_shaped (enc:=enc) (C:=checked) (os:=os) (X:=λw _=>laidMetH prog Hs w) false (World.laidAll prog os Hs) #[.agg #[J 0,I [],aQ,aQ],.agg #[J 0,I [],aQ,aQ],.agg #[J 0,I [],aQ,aQ],I []] 8 (World.laidAll_os _ _ _)
      (World.shaped_of_ZipB Ob Ob) Ob Ob Ob (wit_ os _)) ?_
  intro W base args ds gs before hval0 hW _ _ hL _;have hval:∀(j:Nat) t v,f5.params[j]? = some t->args[j]? = some v->Value.okWide prog W .any base t v:=hval0;have hW':=hW;have hlt:=hW.lt;obtain⟨p,q,hA0,hV,rfl,_,_⟩:=hW;have hA:DataW.TrodAll enc prog W 0 (λ_=>true) true f5.params.toList args.toList ds p:=hA0;rw[params5]at hA hval;obtain⟨v0,v1,v2,v3,d0,d1,d2,d3,p0,p1,p2,p3,rfl,rfl,rfl,h0,h1,h2,h3⟩:=trodAll_four hA;obtain⟨rfl,rfl⟩:=trodVars_none hV;clear hA0 hval0;simp only[qQ]at hW' hlt;obtain⟨x0,c0,rfl,r0⟩:=X4 (hval 0 25 v0 rfl rfl) h0;obtain⟨x1,c1,rfl,r1⟩:=X4 (hval 1 25 v1 rfl rfl) h1;obtain⟨x2,c2,rfl,r2⟩:=X4 (hval 2 25 v2 rfl rfl) h2;obtain⟨x3,rfl,r3⟩:=QW (hval 3 9 v3 rfl rfl) h3;have hG:=HO hL;refine (Y9 W hG x0 c0 r0 x1 c1 r1 x2 c2 r2 x3 r3).mono λe W' ⟨v,he,hv,hs⟩=>?_;subst he hv;have hb:=hs.below;exact⟨_,O,_,_,_,[],_,[],hW',trodAll_mk1 (shut_bool underlying4 _),trodAll_mk4 (BH DZ row25 hb (λq hq=>hlt q (by simp[hq])) h0) (BH DZ row25 hb (λq hq=>hlt q (by simp[hq])) h1) (BH DZ row25 hb (λq hq=>hlt q (by simp[hq])) h2) (BH rec9 row9 hb (λq hq=>hlt q (by simp[hq])) h3),O,hb.frame _,λh=>by cases h⟩
theorem V7:Tryz.pinned.checked.prog.funcNamed Rows.mergeMembersRow.func=some 5:=by kernel_rfl
theorem X7:joinedFacts Tryz.pinned.checked.prog 5 f5 Rows.mergeMembersSpec Rows.mergeMembersRow=true:=by kernel_rfl
theorem W7:decide (Func.isInstance Tryz.pinned.checked.prog f5 Rows.mergeMembersRow.origin Rows.mergeMembersRow.targs)=true:=by kernel_rfl
theorem J0:Rows.MergeMembersSaid :=
  OpenClaim.holds_of_wide 5 f5 rfl rfl rfl rfl rfl rfl rfl ⟨rfl,rfl,rfl,rfl,rfl⟩ rfl rfl rfl rfl rfl V7 func5 X7
    (of_decide_eq_true W7) (by unfold Func.isWrapper;first|(rw[if_pos (by decide +kernel)];kernel_rfl)|(rw[if_neg (by decide +kernel)];exact⟨rfl,rfl⟩))
    (λos started H enc _=>Dz os started H enc)
theorem mergeMembers_card:Rows.MergeMembersCardSaid :=
  Claim7.holds_tied_plain_at .later [] [.data,.data,.data,.data,.sentinel,.sentinel,.pinned] true (true, "1dc1f219227f537ca32fa7943b1bbc2afb8946ab6d086be8f9ec8e9912ce03d1") true
    J0 (λ_ h=>by cases h) Ob (λ_ h=>by cases h) mergeMembers_row_tie rfl ⟨rfl,rfl⟩ Ob rfl
    (λf fn hf hfn=>by
      obtain rfl:f=5:=lQ ((show prog.funcNamed "scarf/scarflaw24.MergeMembers" = some 5 by kernel_rfl).symm.trans hf) |>.symm;obtain rfl:fn=f5:=(lQ (func5.symm.trans hfn)).symm;exact⟨by kernel_rfl,λj t ht=>by
        rw[params5]at ht;have hm:t∈[25,25,25,9]:=by simpa using Array.mem_of_getElem? ht
        have hall:([25,25,25,9].all λu=>!prog.wantsStandIn u)=true:=by kernel_rfl
        exact (show prog.wantsStandIn t=false by simpa using List.all_eq_true.1 hall t hm)⟩)
    Ob
end Go.Scarf
namespace Go.Proofs.YthnkjgpjdbdchaaGreatDoor
/-- The statement as it was given. -/
theorem mergeMembers_proved:Rows.MergeMembersCardSaid:=Go.Scarf.mergeMembers_card
end Go.Proofs.YthnkjgpjdbdchaaGreatDoor
