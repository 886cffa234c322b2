/- The statement HistoryMore, for every input that its row names: proved. -/
import Derived.Test.YtndkhbfnfagbgaaGreatDoorCards
import Derived.Test.YtndkhbfnfagbgaaGreatDoorX25
set_option linter.all false
set_option maxHeartbeats 8000000
set_option maxRecDepth 10000
namespace Go.Scarf
open Go.RowKit Go.Proofs Go.Proofs.Tryz
set_option maxRecDepth 100000
open Go.ChangeShapes Go.WideShapes Go.ChangeAt Go.Proofs.YtndkhbfnfagbgaaGreatDoor
theorem Gz(os:Os)(started:os.Started)(H:Type)(enc:TypeId × Value->H) :
    ReturnsInHanded {} checked os 3 .any (λw args=>(Rows.historyMoreSpec.pre enc prog f3 [] false w args/\laidMetH prog Uq w)/\sizedMet enc prog f3 (OpenSpec.ofChange Rows.historyMoreSpec) false w args)
      (Rows.historyMoreSpec.post enc prog f3 false true false false):=by
  refine returnsInHanded_of_change_and (C:=checked) (X:=λw _=>laidMetH prog Uq w) (λ_ _ _ hh h=>h.of_heap hh) own_ started Mb func3
    (ChangeSpec.witness_shaped (enc:=enc) (C:=checked) (os:=os) (X:=λw _=>laidMetH prog Uq w) false (World.laidAll prog os Uq) #[aQ,J 0,J 0,.agg #[aQ,J 0,I [],aQ,aQ]] 8 (World.laidAll_os _ _ _)
      (World.shaped_of_ZipB Mb Mb) Mb Mb Mb (wit_ os _)) ?_
  intro W base args ds gs before hval0 hW _ _ hL _;have hval:∀(j:Nat) t v,f3.params[j]? = some t->args[j]? = some v->Value.okWide prog W .any base t v:=hval0;have hW':=hW;have hlt:=hW.lt;obtain⟨p,q,hA0,hV,rfl,_,_⟩:=hW;have hA:DataW.TrodAll enc prog W 0 (λ_=>true) true f3.params.toList args.toList ds p:=hA0;rw[params3]at hA hval;obtain⟨v0,v1,v2,v3,d0,d1,d2,d3,p0,p1,p2,p3,rfl,rfl,rfl,h0,h1,h2,h3⟩:=trodAll_four hA;obtain⟨rfl,rfl⟩:=trodVars_none hV;clear hA0 hval0;simp only[qQ]at hW' hlt;obtain⟨x0,A0,c0,rfl,r0⟩:=DX (hval 0 22 v0 rfl rfl) h0;obtain⟨x1,rfl,r1,s1⟩:=TG (hval 1 3 v1 rfl rfl) h1;obtain⟨x2,rfl,r2,s2⟩:=TG (hval 2 3 v2 rfl rfl) h2;obtain⟨x3,c3,rfl,r3⟩:=open_cm (hval 3 29 v3 rfl rfl) h3;have hG:=NO hL;refine (LA W hG x0 A0 c0 r0 x1 r1 s1 x2 r2 s2 x3 c3 r3).mono λe W' ⟨v,he,hv,hs⟩=>?_;subst he hv;have hb:=hs.below;exact⟨_,O,_,_,_,[],_,[],hW',trodAll_mk1 (shut_bool underlying4 _),trodAll_mk4 (SD rec22 row22 hb (λq hq=>hlt q (by simp[hq])) h0) (SD rec3 row3 hb (λq hq=>hlt q (by simp[hq])) h1) (SD rec3 row3 hb (λq hq=>hlt q (by simp[hq])) h2) (SD rec29 row29 hb (λq hq=>hlt q (by simp[hq])) h3),O,hb.frame _,λh=>by cases h⟩
theorem U7:Tryz.pinned.checked.prog.funcNamed Rows.historyMoreRow.func=some 3:=by kernel_rfl
theorem L7:joinedFacts Tryz.pinned.checked.prog 3 f3 Rows.historyMoreSpec Rows.historyMoreRow=true:=by kernel_rfl
theorem M7:decide (Func.isInstance Tryz.pinned.checked.prog f3 Rows.historyMoreRow.origin Rows.historyMoreRow.targs)=true:=by kernel_rfl
theorem U0:Rows.HistoryMoreSaid :=
  OpenClaim.holds_of_wide 3 f3 rfl rfl rfl rfl rfl rfl rfl ⟨rfl,rfl,rfl,rfl,rfl⟩ rfl rfl rfl rfl rfl U7 func3 L7
    (of_decide_eq_true M7) (by unfold Func.isWrapper;first|(rw[if_pos (by decide +kernel)];kernel_rfl)|(rw[if_neg (by decide +kernel)];exact⟨rfl,rfl⟩))
    (λos started H enc _=>Gz os started H enc)
theorem historyMore_card:Rows.HistoryMoreCardSaid :=
  Claim7.holds_tied_plain_at .later [] [.data,.data,.data,.data,.sentinel,.sentinel,.pinned] true (true, "6860eb11a211d16b51a7b0e8f38cc9cf189b490b4082a2ca85ce9fccd647974e") true
    U0 (λ_ h=>by cases h) Mb (λ_ h=>by cases h) historyMore_row_tie rfl ⟨rfl,rfl⟩ Mb rfl
    (λf fn hf hfn=>by
      obtain rfl:f=3:=lQ ((show prog.funcNamed "scarf/scarflaw31.HistoryMore" = some 3 by kernel_rfl).symm.trans hf) |>.symm;obtain rfl:fn=f3:=(lQ (func3.symm.trans hfn)).symm;exact⟨by kernel_rfl,λj t ht=>by
        rw[params3]at ht;have hm:t∈[22,3,3,29]:=by simpa using Array.mem_of_getElem? ht
        have hall:([22,3,3,29].all λu=>!prog.wantsStandIn u)=true:=by kernel_rfl
        exact (show prog.wantsStandIn t=false by simpa using List.all_eq_true.1 hall t hm)⟩)
    Mb
end Go.Scarf
namespace Go.Proofs.YtndkhbfnfagbgaaGreatDoor
/-- The statement as it was given. -/
theorem historyMore_proved:Rows.HistoryMoreCardSaid:=Go.Scarf.historyMore_card
end Go.Proofs.YtndkhbfnfagbgaaGreatDoor
