/- The statement HistoryAbove, for every input that its row names: proved. -/
import Derived.Test.YtbhneplafiapdaaGreatDoorCards
import Derived.Test.YtbhneplafiapdaaGreatDoorX23
set_option linter.all false
set_option maxHeartbeats 8000000
set_option maxRecDepth 10000
namespace Go.Scarf
open Go.RowKit Go.Proofs Go.Proofs.Tryz
attribute [local irreducible] G4 PG
set_option maxRecDepth 100000
open Go.ChangeShapes Go.WideShapes Go.ChangeAt Go.Proofs.YtbhneplafiapdaaGreatDoor
theorem Qn(os:Os)(started:os.Started)(H:Type)(enc:TypeId × Value->H) :
    ReturnsInHanded {} checked os 5 .any (λw args=>(Rows.historyAboveSpec.pre enc prog f5 [] false w args/\laidMetH prog Gj w)/\sizedMet enc prog f5 (OpenSpec.ofChange Rows.historyAboveSpec) false w args)
      (Rows.historyAboveSpec.post enc prog f5 false true false false):=by
  refine returnsInHanded_of_change_and (C:=checked) (X:=λw _=>laidMetH prog Gj w) (λ_ _ _ hh h=>h.of_heap hh) QR started Xb func5
    (ChangeSpec.witness_shaped (enc:=enc) (C:=checked) (os:=os) (X:=λw _=>laidMetH prog Gj w) false (World.laidAll prog os Gj) #[aQ,J 0,J 0] 8 (World.laidAll_os _ _ _)
      (World.shaped_of_ZipB Xb Xb) Xb Xb Xb (VR os _)) ?_
  intro W base args ds gs before hval0 hW _ _ hL _;have hval:∀(j:Nat) t v,f5.params[j]? = some t->args[j]? = some v->Value.okWide prog W .any base t v:=hval0;have hW':=hW;have hlt:=hW.lt;obtain⟨p,q,hA0,hV,rfl,_,_⟩:=hW;have hA:DataW.TrodAll enc prog W 0 (λ_=>true) true f5.params.toList args.toList ds p:=hA0;rw[params5]at hA hval;obtain⟨v0,v1,v2,d0,d1,d2,p0,p1,p2,rfl,rfl,rfl,h0,h1,h2⟩:=trodAll_three hA;obtain⟨rfl,rfl⟩:=trodVars_none hV;clear hA0 hval0;simp only[qQ]at hW' hlt;obtain⟨x0,A0,c0,rfl,r0⟩:=WD (hval 0 22 v0 rfl rfl) h0;obtain⟨x1,rfl,r1,s1⟩:=Y1 (hval 1 3 v1 rfl rfl) h1;obtain⟨x2,rfl,r2,s2⟩:=Y1 (hval 2 3 v2 rfl rfl) h2;have hG:=T7 hL;refine (Nv W hG x0 A0 c0 r0 x1 r1 s1 x2 r2 s2).mono λe W' ⟨v,he,hv,hs⟩=>?_;subst he hv;have hb:=hs.below;exact⟨_,O,_,_,_,[],_,[],hW',trodAll_mk1 (shut_bool underlying4 _),trodAll_mk3 (C7 DQ BO hb (λq hq=>hlt q (by simp[hq])) h0) (C7 TO NQ hb (λq hq=>hlt q (by simp[hq])) h1) (C7 TO NQ hb (λq hq=>hlt q (by simp[hq])) h2),O,hb.frame _,λh=>by cases h⟩
theorem Ps:Tryz.pinned.checked.prog.funcNamed Rows.historyAboveRow.func=some 5:=by kernel_rfl
theorem Ys:joinedFacts Tryz.pinned.checked.prog 5 f5 Rows.historyAboveSpec Rows.historyAboveRow=true:=by kernel_rfl
theorem Qs:decide (Func.isInstance Tryz.pinned.checked.prog f5 Rows.historyAboveRow.origin Rows.historyAboveRow.targs)=true:=by kernel_rfl
theorem Ro:Rows.HistoryAboveSaid :=
  OpenClaim.holds_of_wide 5 f5 rfl rfl rfl rfl rfl rfl rfl ⟨rfl,rfl,rfl,rfl,rfl⟩ rfl rfl rfl rfl rfl Ps func5 Ys
    (of_decide_eq_true Qs) (by unfold Func.isWrapper;first|(rw[if_pos (by decide +kernel)];kernel_rfl)|(rw[if_neg (by decide +kernel)];exact⟨rfl,rfl⟩))
    (λos started H enc _=>Qn os started H enc)
theorem historyAbove_card:Rows.HistoryAboveCardSaid :=
  Claim7.holds_tied_plain_at .later [] [.data,.data,.data,.data,.sentinel,.sentinel,.pinned] true (true, "84ee376001f9a8ef6d57458e6b99f05206d848582b020519285d777a0ed352fb") true
    Ro (λ_ h=>by cases h) Xb (λ_ h=>by cases h) historyAbove_row_tie rfl ⟨rfl,rfl⟩ Xb rfl
    (λf fn hf hfn=>by
      obtain rfl:f=5:=lQ ((show prog.funcNamed "scarf/scarflaw31.HistoryAbove" = some 5 by kernel_rfl).symm.trans hf) |>.symm;obtain rfl:fn=f5:=(lQ (func5.symm.trans hfn)).symm;exact⟨by kernel_rfl,λj t ht=>by
        rw[params5]at ht;have hm:t∈[22,3,3]:=by simpa using Array.mem_of_getElem? ht
        have hall:([22,3,3].all λu=>!prog.wantsStandIn u)=true:=by kernel_rfl
        exact (show prog.wantsStandIn t=false by simpa using List.all_eq_true.1 hall t hm)⟩)
    Xb
end Go.Scarf
namespace Go.Proofs.YtbhneplafiapdaaGreatDoor
/-- The statement as it was given. -/
theorem historyAbove_proved:Rows.HistoryAboveCardSaid:=Go.Scarf.historyAbove_card
end Go.Proofs.YtbhneplafiapdaaGreatDoor
