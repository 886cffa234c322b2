/- The statement ResolvePrints, for every input that its row names: proved. -/
import Derived.Test.YtgkmigdopohcnaaGreatDoorCards
import Derived.Test.YtgkmigdopohcnaaGreatDoorX27
set_option linter.all false
set_option maxHeartbeats 8000000
set_option maxRecDepth 10000
namespace Go.Scarf
open Go.RowKit Go.Proofs Go.Proofs.Tryz
set_option maxRecDepth 100000
open Go.ChangeShapes Go.WideShapes Go.ChangeAt Go.Proofs.YtgkmigdopohcnaaGreatDoor
theorem Vt(os:Os)(started:os.Started)(H:Type)(enc:TypeId × Value->H) :
    ReturnsInHanded {} checked os 3 .any (λw args=>(Rows.resolvePrintsSpec.pre enc prog f3 [] false w args/\laidMetH prog Ap w)/\sizedMet enc prog f3 (OpenSpec.ofChange Rows.resolvePrintsSpec) false w args)
      (Rows.resolvePrintsSpec.post enc prog f3 false true false false):=by
  refine returnsInHanded_of_change_and (C:=checked) (X:=λw _=>laidMetH prog Ap w) (λ_ _ _ hh h=>h.of_heap hh) own_ started Ub func3
    (ChangeSpec.witness_shaped (enc:=enc) (C:=checked) (os:=os) (X:=λw _=>laidMetH prog Ap w) false (World.laidAll prog os Ap) #[.agg #[aQ,J 0,.bool false,J 0,I [],aQ,aQ,.bool false,J 0,I [],aQ,aQ,.bool false,J 0,I [],aQ,aQ],.agg #[aQ,J 0,.bool false,J 0,I [],aQ,aQ,.bool false,J 0,I [],aQ,aQ,.bool false,J 0,I [],aQ,aQ]] 8 (World.laidAll_os _ _ _)
      (World.shaped_of_ZipB Ub Ub) Ub Ub Ub (wit_ os _)) ?_
  intro W base args ds gs before hval0 hW _ _ hL _;have hval:∀(j:Nat) t v,f3.params[j]? = some t->args[j]? = some v->Value.okWide prog W .any base t v:=hval0;have hW':=hW;have hlt:=hW.lt;obtain⟨p,q,hA0,hV,rfl,_,_⟩:=hW;have hA:DataW.TrodAll enc prog W 0 (λ_=>true) true f3.params.toList args.toList ds p:=hA0;rw[params3]at hA hval;obtain⟨v0,v1,d0,d1,p0,p1,rfl,rfl,rfl,h0,h1⟩:=trodAll_two hA;obtain⟨rfl,rfl⟩:=trodVars_none hV;clear hA0 hval0;simp only[qQ]at hW' hlt;obtain⟨x0,c0,rfl,r0⟩:=ZN (hval 0 29 v0 rfl rfl) h0;obtain⟨x1,c1,rfl,r1⟩:=ZN (hval 1 29 v1 rfl rfl) h1;have hG:=BM hL;refine (B4 W hG x0 c0 r0 x1 c1 r1).mono λe W' ⟨v,he,hv,hs⟩=>?_;subst he hv;have hb:=hs.below;exact⟨_,O,_,_,_,[],_,[],hW',trodAll_mk1 (shut_bool dX _),trodAll_mk2 (KY rec29 row29 hb (λq hq=>hlt q (by simp[hq])) h0) (KY rec29 row29 hb (λq hq=>hlt q (by simp[hq])) h1),O,hb.frame _,λh=>by cases h⟩
theorem G1:Tryz.pinned.checked.prog.funcNamed Rows.resolvePrintsRow.func=some 3:=by kernel_rfl
theorem K2:joinedFacts Tryz.pinned.checked.prog 3 f3 Rows.resolvePrintsSpec Rows.resolvePrintsRow=true:=by kernel_rfl
theorem C1:decide (Func.isInstance Tryz.pinned.checked.prog f3 Rows.resolvePrintsRow.origin Rows.resolvePrintsRow.targs)=true:=by kernel_rfl
theorem Mw:Rows.ResolvePrintsSaid :=
  OpenClaim.holds_of_wide 3 f3 rfl rfl rfl rfl rfl rfl rfl ⟨rfl,rfl,rfl,rfl,rfl⟩ rfl rfl rfl rfl rfl G1 func3 K2
    (of_decide_eq_true C1) (by unfold Func.isWrapper;first|(rw[if_pos (by decide +kernel)];kernel_rfl)|(rw[if_neg (by decide +kernel)];exact⟨rfl,rfl⟩))
    (λos started H enc _=>Vt os started H enc)
theorem resolvePrints_card:Rows.ResolvePrintsCardSaid :=
  Claim7.holds_tied_plain_at .later [] [.data,.data,.data,.data,.sentinel,.sentinel,.pinned] true (true, "1b02deca58ff1f5e47494329bfa5fbd551ea2ee108d7d13c3bab97fddb5ecb77") true
    Mw (λ_ h=>by cases h) Ub (λ_ h=>by cases h) resolvePrints_row_tie rfl ⟨rfl,rfl⟩ Ub rfl
    (λf fn hf hfn=>by
      obtain rfl:f=3:=lQ ((show prog.funcNamed "scarf/scarflaw27.ResolvePrints" = some 3 by kernel_rfl).symm.trans hf) |>.symm;obtain rfl:fn=f3:=(lQ (func3.symm.trans hfn)).symm;exact⟨by kernel_rfl,λj t ht=>by
        rw[params3]at ht;have hm:t∈[29,29]:=by simpa using Array.mem_of_getElem? ht
        have hall:([29,29].all λu=>!prog.wantsStandIn u)=true:=by kernel_rfl
        exact (show prog.wantsStandIn t=false by simpa using List.all_eq_true.1 hall t hm)⟩)
    Ub
end Go.Scarf
namespace Go.Proofs.YtgkmigdopohcnaaGreatDoor
/-- The statement as it was given. -/
theorem resolvePrints_proved:Rows.ResolvePrintsCardSaid:=Go.Scarf.resolvePrints_card
end Go.Proofs.YtgkmigdopohcnaaGreatDoor
