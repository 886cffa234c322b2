/- The statement HistoryBases, for every input that its row names: proved. -/
import Derived.Test.YtbhneplafiapdaaGreatDoorCards
import Derived.Test.YtbhneplafiapdaaGreatDoorX22
set_option linter.all false
set_option maxHeartbeats 8000000
set_option maxRecDepth 10000
namespace Go.Scarf
open Go.RowKit Go.Proofs Go.Proofs.Tryz
attribute [local irreducible] B1 NI
set_option maxRecDepth 100000
open Go.ChangeShapes Go.WideShapes Go.ChangeAt Go.Proofs.YtbhneplafiapdaaGreatDoor
theorem Rn(os:Os)(started:os.Started)(H:Type)(enc:TypeId × Value->H) :
    ReturnsInHanded {} checked os 4 .any (λw args=>(Rows.historyBasesSpec.pre enc prog f4 [] false w args/\laidMetH prog Ui w)/\sizedMet enc prog f4 (OpenSpec.ofChange Rows.historyBasesSpec) false w args)
      (Rows.historyBasesSpec.post enc prog f4 false true false false):=by
  refine returnsInHanded_of_change_and (C:=checked) (X:=λw _=>laidMetH prog Ui w) (λ_ _ _ hh h=>h.of_heap hh) MR started Cc func4
    (ChangeSpec.witness_shaped (enc:=enc) (C:=checked) (os:=os) (X:=λw _=>laidMetH prog Ui w) false (World.laidAll prog os Ui) #[aQ,J 0,J 0] 8 (World.laidAll_os _ _ _)
      (World.shaped_of_ZipB Cc Cc) Cc Cc Cc (OR os _)) ?_
  intro W base args ds gs before hval0 hW _ _ hL _;have hval:∀(j:Nat) t v,f4.params[j]? = some t->args[j]? = some v->Value.okWide prog W .any base t v:=hval0;have hW':=hW;have hlt:=hW.lt;obtain⟨p,q,hA0,hV,rfl,_,_⟩:=hW;have hA:DataW.TrodAll enc prog W 0 (λ_=>true) true f4.params.toList args.toList ds p:=hA0;rw[params4]at hA hval;obtain⟨v0,v1,v2,d0,d1,d2,p0,p1,p2,rfl,rfl,rfl,h0,h1,h2⟩:=trodAll_three hA;obtain⟨rfl,rfl⟩:=trodVars_none hV;clear hA0 hval0;simp only[qQ]at hW' hlt;obtain⟨x0,A0,c0,rfl,r0⟩:=PC (hval 0 22 v0 rfl rfl) h0;obtain⟨x1,rfl,r1,s1⟩:=Y2 (hval 1 3 v1 rfl rfl) h1;obtain⟨x2,rfl,r2,s2⟩:=Y2 (hval 2 3 v2 rfl rfl) h2;have hG:=W7 hL;refine (Gv W hG x0 A0 c0 r0 x1 r1 s1 x2 r2 s2).mono λe W' ⟨v,he,hv,hs⟩=>?_;subst he hv;have hb:=hs.below;exact⟨_,O,_,_,_,[],_,[],hW',trodAll_mk1 (shut_bool underlying4 _),trodAll_mk3 (H6 JQ UP hb (λq hq=>hlt q (by simp[hq])) h0) (H6 KO NN hb (λq hq=>hlt q (by simp[hq])) h1) (H6 KO NN hb (λq hq=>hlt q (by simp[hq])) h2),O,hb.frame _,λh=>by cases h⟩
theorem Ms:Tryz.pinned.checked.prog.funcNamed Rows.historyBasesRow.func=some 4:=by kernel_rfl
theorem Ns:joinedFacts Tryz.pinned.checked.prog 4 f4 Rows.historyBasesSpec Rows.historyBasesRow=true:=by kernel_rfl
theorem Ss:decide (Func.isInstance Tryz.pinned.checked.prog f4 Rows.historyBasesRow.origin Rows.historyBasesRow.targs)=true:=by kernel_rfl
theorem No:Rows.HistoryBasesSaid :=
  OpenClaim.holds_of_wide 4 f4 rfl rfl rfl rfl rfl rfl rfl ⟨rfl,rfl,rfl,rfl,rfl⟩ rfl rfl rfl rfl rfl Ms func4 Ns
    (of_decide_eq_true Ss) (by unfold Func.isWrapper;first|(rw[if_pos (by decide +kernel)];kernel_rfl)|(rw[if_neg (by decide +kernel)];exact⟨rfl,rfl⟩))
    (λos started H enc _=>Rn os started H enc)
theorem historyBases_card:Rows.HistoryBasesCardSaid :=
  Claim7.holds_tied_plain_at .later [] [.data,.data,.data,.data,.sentinel,.sentinel,.pinned] true (true, "84ee376001f9a8ef6d57458e6b99f05206d848582b020519285d777a0ed352fb") true
    No (λ_ h=>by cases h) Cc (λ_ h=>by cases h) historyBases_row_tie rfl ⟨rfl,rfl⟩ Cc rfl
    (λf fn hf hfn=>by
      obtain rfl:f=4:=lQ ((show prog.funcNamed "scarf/scarflaw31.HistoryBases" = some 4 by kernel_rfl).symm.trans hf) |>.symm;obtain rfl:fn=f4:=(lQ (func4.symm.trans hfn)).symm;exact⟨by kernel_rfl,λj t ht=>by
        rw[params4]at ht;have hm:t∈[22,3,3]:=by simpa using Array.mem_of_getElem? ht
        have hall:([22,3,3].all λu=>!prog.wantsStandIn u)=true:=by kernel_rfl
        exact (show prog.wantsStandIn t=false by simpa using List.all_eq_true.1 hall t hm)⟩)
    Cc
end Go.Scarf
namespace Go.Proofs.YtbhneplafiapdaaGreatDoor
/-- The statement as it was given. -/
theorem historyBases_proved:Rows.HistoryBasesCardSaid:=Go.Scarf.historyBases_card
end Go.Proofs.YtbhneplafiapdaaGreatDoor
