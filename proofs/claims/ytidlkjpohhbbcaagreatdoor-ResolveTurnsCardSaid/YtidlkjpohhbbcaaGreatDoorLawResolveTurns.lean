/- The statement. -/
import Derived.Test.YtidlkjpohhbbcaaGreatDoorCards
import Derived.Test.YtidlkjpohhbbcaaGreatDoorRe21
set_option linter.all false
set_option maxHeartbeats 8000000
namespace Go.Scarf
open Go.RowKit Go.Proofs Go.Proofs.Tryz
set_option maxRecDepth 100000
open Go.ChangeShapes Go.WideShapes Go.ChangeAt Go.Proofs.YtidlkjpohhbbcaaGreatDoor
theorem Hx(os:Os)(started:os.Started)(H:Type)(enc:TypeId × Value->H) :
    ReturnsInHanded {} checked os 5 .any (λw args=>(Rows.resolveTurnsSpec.pre enc prog f5 [] false w args/\laidMetH prog Bq w)/\sizedMet enc prog f5 (OpenSpec.ofChange Rows.resolveTurnsSpec) false w args)
      (Rows.resolveTurnsSpec.post enc prog f5 false true false false):=by
  refine returnsInHanded_of_change_and (C:=checked) (X:=λw _=>laidMetH prog Bq w) (λ_ _ _ hh h=>h.of_heap hh) own_ started Qb func5
    (ChangeSpec.witness_shaped (enc:=enc) (C:=checked) (os:=os) (X:=λw _=>laidMetH prog Bq w) false (World.laidAll prog os Bq) #[aQ,.agg #[aQ,J 0,.bool false,J 0,I [],aQ,aQ,.bool false,J 0,I [],aQ,aQ,.bool false,J 0,I [],aQ,aQ],.agg #[.bool false,J 0,I [],aQ,aQ]] 8 (World.laidAll_os _ _ _)
      (World.shaped_of_ZipB Qb Qb) Qb Qb Qb (wit_ os _)) ?_
  intro W base args ds gs before hval0 hW _ _ hL _;have hval:∀(j:Nat) t v,f5.params[j]? = some t->args[j]? = some v->Value.okWide prog W .any base t v:=hval0;have hW':=hW;have hlt:=hW.lt;obtain⟨p,q,hA0,hV,rfl,_,_⟩:=hW;have hA:DataW.TrodAll enc prog W 0 (λ_=>true) true f5.params.toList args.toList ds p:=hA0;rw[params5]at hA hval;obtain⟨v0,v1,v2,d0,d1,d2,p0,p1,p2,rfl,rfl,rfl,h0,h1,h2⟩:=trodAll_three hA;obtain⟨rfl,rfl⟩:=trodVars_none hV;clear hA0 hval0;simp only[qQ]at hW' hlt;obtain⟨x0,A0,c0,rfl,r0⟩:=open_mms (hval 0 22 v0 rfl rfl) h0;obtain⟨x1,c1,rfl,r1⟩:=open_cf (hval 1 40 v1 rfl rfl) h1;obtain⟨x2,c2,rfl,r2⟩:=WU (hval 2 38 v2 rfl rfl) h2;have hG:=KQ hL;refine (C9 W hG x0 A0 c0 r0 x1 c1 r1 x2 c2 r2).mono λe W' ⟨v,he,hv,hs⟩=>?_;subst he hv;have hb:=hs.below;exact⟨_,O,_,_,_,[],_,[],hW',trodAll_mk1 (shut_bool fX _),trodAll_mk3 (IN rec22 row22 hb (λq hq=>hlt q (by simp[hq])) h0) (IN rec40 row40 hb (λq hq=>hlt q (by simp[hq])) h1) (IN rec38 row38 hb (λq hq=>hlt q (by simp[hq])) h2),O,hb.frame _,λh=>by cases h⟩
theorem O5:Tryz.pinned.checked.prog.funcNamed Rows.resolveTurnsRow.func=some 5:=by kernel_rfl
theorem I5:joinedFacts Tryz.pinned.checked.prog 5 f5 Rows.resolveTurnsSpec Rows.resolveTurnsRow=true:=by kernel_rfl
theorem S5:decide (Func.isInstance Tryz.pinned.checked.prog f5 Rows.resolveTurnsRow.origin Rows.resolveTurnsRow.targs)=true:=by kernel_rfl
theorem Dy:Rows.ResolveTurnsSaid :=
  OpenClaim.holds_of_wide 5 f5 rfl rfl rfl rfl rfl rfl rfl ⟨rfl,rfl,rfl,rfl,rfl⟩ rfl rfl rfl rfl rfl O5 func5 I5
    (of_decide_eq_true S5) (by unfold Func.isWrapper;first|(rw[if_pos (by decide +kernel)];kernel_rfl)|(rw[if_neg (by decide +kernel)];exact⟨rfl,rfl⟩))
    (λos started H enc _=>Hx os started H enc)
theorem K5:Rows.resolveTurnsRow.wfByText (OpenSpec.ofChange Rows.resolveTurnsSpec)=true:=by kernel_rfl
theorem P5:Tryz.pinned.checked.prog.mainIs=some ((((true, "2791d3bf0dee19e540bd6783546170b88f603c560af990d356c3e2a5832c474e"):Bool × String)).1,(((true, "2791d3bf0dee19e540bd6783546170b88f603c560af990d356c3e2a5832c474e"):Bool × String)).2.toList):=by kernel_rfl
theorem H5:true=Tryz.pinned.checked.prog.looks []:=by kernel_rfl
theorem J5:prog.funcNamed "scarf/scarflaw27.ResolveTurns" = some 5:=by kernel_rfl
theorem R5:([22,40,38].all λu=>!prog.wantsStandIn u)=true:=by kernel_rfl
theorem M5:false=Rows.resolveTurnsRow.goesBy Tryz.pinned.checked.prog:=by kernel_rfl
theorem resolveTurns_card:Rows.ResolveTurnsCardSaid :=
  Claim7.holds_tied_plain_at .later [] [.data,.data,.data,.data,.sentinel,.sentinel,.pinned] true (true, "2791d3bf0dee19e540bd6783546170b88f603c560af990d356c3e2a5832c474e") true
    Dy (λ_ h=>by cases h) K5 (λ_ h=>by cases h) resolveTurns_row_tie rfl ⟨rfl,rfl⟩ P5 rfl
    (λf fn hf hfn=>by
      obtain rfl:f=5:=lQ (J5.symm.trans hf) |>.symm;obtain rfl:fn=f5:=(lQ (func5.symm.trans hfn)).symm;exact⟨H5,λj t ht=>by
        rw[params5]at ht;have hm:t∈[22,40,38]:=by simpa using Array.mem_of_getElem? ht
        exact (show prog.wantsStandIn t=false by simpa using List.all_eq_true.1 R5 t hm)⟩)
    M5
end Go.Scarf
namespace Go.Proofs.YtidlkjpohhbbcaaGreatDoor
/-- The statement as it was given. -/
theorem resolveTurns_proved:Rows.ResolveTurnsCardSaid:=Go.Scarf.resolveTurns_card
end Go.Proofs.YtidlkjpohhbbcaaGreatDoor
