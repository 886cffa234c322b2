/- The statement HistoryTells, for every input that its row names: proved. -/
import Derived.Test.YtbhneplafiapdaaGreatDoorCards
import Derived.Test.YtbhneplafiapdaaGreatDoorX24
set_option linter.all false
set_option maxHeartbeats 8000000
set_option maxRecDepth 10000
namespace Go.Scarf
open Go.RowKit Go.Proofs Go.Proofs.Tryz
attribute [local irreducible] P8 OO
set_option maxRecDepth 100000
open Go.ChangeShapes Go.WideShapes Go.ChangeAt Go.Proofs.YtbhneplafiapdaaGreatDoor
theorem Er(os:Os)(started:os.Started)(H:Type)(enc:TypeId × Value->H) :
    ReturnsInHanded {} checked os 3 .any (λw args=>(Rows.historyTellsSpec.pre enc prog f3 [] false w args/\laidMetH prog Wl w)/\sizedMet enc prog f3 (OpenSpec.ofChange Rows.historyTellsSpec) false w args)
      (Rows.historyTellsSpec.post enc prog f3 false true false false):=by
  refine returnsInHanded_of_change_and (C:=checked) (X:=λw _=>laidMetH prog Wl w) (λ_ _ _ hh h=>h.of_heap hh) own_ started Nc func3
    (ChangeSpec.witness_shaped (enc:=enc) (C:=checked) (os:=os) (X:=λw _=>laidMetH prog Wl w) false (World.laidAll prog os Wl) #[aQ,J 0,J 0,.agg #[aQ,J 0,I [],aQ,aQ]] 8 (World.laidAll_os _ _ _)
      (World.shaped_of_ZipB Nc Nc) Nc Nc Nc (wit_ os _)) ?_
  intro W base args ds gs before hval0 hW _ _ hL _;have hval:∀(j:Nat) t v,f3.params[j]? = some t->args[j]? = some v->Value.okWide prog W .any base t v:=hval0;have hW':=hW;have hlt:=hW.lt;obtain⟨p,q,hA0,hV,rfl,_,_⟩:=hW;have hA:DataW.TrodAll enc prog W 0 (λ_=>true) true f3.params.toList args.toList ds p:=hA0;rw[params3]at hA hval;obtain⟨v0,v1,v2,v3,d0,d1,d2,d3,p0,p1,p2,p3,rfl,rfl,rfl,h0,h1,h2,h3⟩:=trodAll_four hA;obtain⟨rfl,rfl⟩:=trodVars_none hV;clear hA0 hval0;simp only[qQ]at hW' hlt;obtain⟨x0,A0,c0,rfl,r0⟩:=IJ (hval 0 22 v0 rfl rfl) h0;obtain⟨x1,rfl,r1,s1⟩:=D8 (hval 1 3 v1 rfl rfl) h1;obtain⟨x2,rfl,r2,s2⟩:=D8 (hval 2 3 v2 rfl rfl) h2;obtain⟨x3,c3,rfl,r3⟩:=YQ (hval 3 29 v3 rfl rfl) h3;have hG:=OB hL;refine (V1 W hG x0 A0 c0 r0 x1 r1 s1 x2 r2 s2 x3 c3 r3).mono λe W' ⟨v,he,hv,hs⟩=>?_;subst he hv;have hb:=hs.below;exact⟨_,O,_,_,_,[],_,[],hW',trodAll_mk1 (shut_bool underlying4 _),trodAll_mk4 (Z4 UY JY hb (λq hq=>hlt q (by simp[hq])) h0) (Z4 JX CX hb (λq hq=>hlt q (by simp[hq])) h1) (Z4 JX CX hb (λq hq=>hlt q (by simp[hq])) h2) (Z4 VX XW hb (λq hq=>hlt q (by simp[hq])) h3),O,hb.frame _,λh=>by cases h⟩
theorem Dy:Tryz.pinned.checked.prog.funcNamed Rows.historyTellsRow.func=some 3:=by kernel_rfl
theorem Cy:joinedFacts Tryz.pinned.checked.prog 3 f3 Rows.historyTellsSpec Rows.historyTellsRow=true:=by kernel_rfl
theorem Xx:decide (Func.isInstance Tryz.pinned.checked.prog f3 Rows.historyTellsRow.origin Rows.historyTellsRow.targs)=true:=by kernel_rfl
theorem Qs:Rows.HistoryTellsSaid :=
  OpenClaim.holds_of_wide 3 f3 rfl rfl rfl rfl rfl rfl rfl ⟨rfl,rfl,rfl,rfl,rfl⟩ rfl rfl rfl rfl rfl Dy func3 Cy
    (of_decide_eq_true Xx) (by unfold Func.isWrapper;first|(rw[if_pos (by decide +kernel)];kernel_rfl)|(rw[if_neg (by decide +kernel)];exact⟨rfl,rfl⟩))
    (λos started H enc _=>Er os started H enc)
theorem historyTells_card:Rows.HistoryTellsCardSaid :=
  Claim7.holds_tied_plain_at .later [] [.data,.data,.data,.data,.sentinel,.sentinel,.pinned] true (true, "84ee376001f9a8ef6d57458e6b99f05206d848582b020519285d777a0ed352fb") true
    Qs (λ_ h=>by cases h) Nc (λ_ h=>by cases h) historyTells_row_tie rfl ⟨rfl,rfl⟩ Nc rfl
    (λf fn hf hfn=>by
      obtain rfl:f=3:=lQ ((show prog.funcNamed "scarf/scarflaw31.HistoryTells" = some 3 by kernel_rfl).symm.trans hf) |>.symm;obtain rfl:fn=f3:=(lQ (func3.symm.trans hfn)).symm;exact⟨by kernel_rfl,λj t ht=>by
        rw[params3]at ht;have hm:t∈[22,3,3,29]:=by simpa using Array.mem_of_getElem? ht
        have hall:([22,3,3,29].all λu=>!prog.wantsStandIn u)=true:=by kernel_rfl
        exact (show prog.wantsStandIn t=false by simpa using List.all_eq_true.1 hall t hm)⟩)
    Nc
end Go.Scarf
namespace Go.Proofs.YtbhneplafiapdaaGreatDoor
/-- The statement as it was given. -/
theorem historyTells_proved:Rows.HistoryTellsCardSaid:=Go.Scarf.historyTells_card
end Go.Proofs.YtbhneplafiapdaaGreatDoor
