/- The statement MergeChosen, for every input that its row names: proved. -/
import Derived.Test.YteedfdfinodcaaaGreatDoorCards
import Derived.Test.YteedfdfinodcaaaGreatDoorOr3
set_option linter.all false
set_option maxHeartbeats 8000000
set_option maxRecDepth 10000
namespace Go.Scarf
open Go.RowKit Go.Proofs Go.Proofs.Tryz
set_option maxRecDepth 100000
open Go.ChangeShapes Go.WideShapes Go.ChangeAt Go.Proofs.YteedfdfinodcaaaGreatDoor
def Xv(os:Os)(started:os.Started)(H:Type)(enc:TypeId × Value->H) :
    ReturnsInHanded {} checked os 4 .any (λw args=>(Rows.mergeChosenSpec.pre enc prog f4 [] false w args/\laidMetH prog Eo w)/\sizedMet enc prog f4 (OpenSpec.ofChange Rows.mergeChosenSpec) false w args)
      (Rows.mergeChosenSpec.post enc prog f4 false true false false):=by
  refine returnsInHanded_of_change_and (C:=checked) (X:=λw _=>laidMetH prog Eo w) (λ_ _ _ hh h=>h.of_heap hh) own_ started Ib func4
    (ChangeSpec.witness_shaped (enc:=enc) (C:=checked) (os:=os) (X:=λw _=>laidMetH prog Eo w) false (World.laidAll prog os Eo) #[.agg #[J 0,I [],aQ,aQ],.agg #[J 0,I [],aQ,aQ],.agg #[J 0,I [],aQ,aQ],aQ,aQ] 8 (World.laidAll_os _ _ _)
      (World.shaped_of_ZipB Ib Ib) Ib Ib Ib (wit_ os _)) ?_
  intro W base args ds gs before hval0 hW _ _ hL _;have hval:∀(j:Nat) t v,f4.params[j]? = some t->args[j]? = some v->Value.okWide prog W .any base t v:=hval0;have hW':=hW;have hlt:=hW.lt;obtain⟨p,q,hA0,hV,rfl,_,_⟩:=hW;have hA:DataW.TrodAll enc prog W 0 (λ_=>true) true f4.params.toList args.toList ds p:=hA0;rw[params4]at hA hval;obtain⟨v0,v1,v2,v3,v4,d0,d1,d2,d3,d4,p0,p1,p2,p3,p4,rfl,rfl,rfl,h0,h1,h2,h3,h4⟩:=ED hA;obtain⟨rfl,rfl⟩:=trodVars_none hV;clear hA0 hval0;simp only[qQ]at hW' hlt;obtain⟨x0,c0,rfl,r0⟩:=Fz (hval 0 25 v0 rfl rfl) h0;obtain⟨x1,c1,rfl,r1⟩:=Fz (hval 1 25 v1 rfl rfl) h1;obtain⟨x2,c2,rfl,r2⟩:=Fz (hval 2 25 v2 rfl rfl) h2;obtain⟨x3,A3,c3,rfl,r3⟩:=XM (hval 3 26 v3 rfl rfl) h3;obtain⟨x4,A4,c4,rfl,r4⟩:=DT (hval 4 42 v4 rfl rfl) h4;have hG:=DO hL;refine (T9 W hG x0 c0 r0 x1 c1 r1 x2 c2 r2 x3 A3 c3 r3 x4 A4 c4 r4).mono λe W' ⟨v,he,hv,hs⟩=>?_;subst he hv;have hb:=hs.below;exact⟨_,O,_,_,_,[],_,[],hW',trodAll_mk1<|shut_bool underlying4 _,QG (P5 rec25 row25 hb (λq hq=>hlt q zM) h0) (P5 rec25 row25 hb (λq hq=>hlt q zM) h1) (P5 rec25 row25 hb (λq hq=>hlt q zM) h2) (P5 rec26 row26 hb (λq hq=>hlt q zM) h3)<|P5 rec42 row42 hb (λq hq=>hlt q zM) h4,O,hb.frame _,λh=>by cases h⟩
def V7:Tryz.pinned.checked.prog.funcNamed Rows.mergeChosenRow.func=some 4:=by kernel_rfl
def E9:joinedFacts Tryz.pinned.checked.prog 4 f4 Rows.mergeChosenSpec Rows.mergeChosenRow=true:=by kernel_rfl
def E5:decide (Func.isInstance Tryz.pinned.checked.prog f4 Rows.mergeChosenRow.origin Rows.mergeChosenRow.targs)=true:=by kernel_rfl
def Kx:Rows.MergeChosenSaid :=
  OpenClaim.holds_of_wide 4 f4 rfl rfl rfl rfl rfl rfl rfl ⟨rfl,rfl,rfl,rfl,rfl⟩ rfl rfl rfl rfl rfl V7 func4 E9
    (jZ E5) (by unfold Func.isWrapper;first|(rw[uQ (by decide +kernel)];kernel_rfl)|(rw[tQ (by decide +kernel)];exact⟨rfl,rfl⟩))
    (λos started H enc _=>Xv os started H enc)
def K6:Rows.mergeChosenRow.wfByText (OpenSpec.ofChange Rows.mergeChosenSpec)=true:=by kernel_rfl
def U8:Tryz.pinned.checked.prog.mainIs=some ((((true, "e8b6678160471f6baf51a4945c75a656614ac6ff0c675eda058d605687ddb169"):Bool × String)).1,(((true, "e8b6678160471f6baf51a4945c75a656614ac6ff0c675eda058d605687ddb169"):Bool × String)).2.toList):=by kernel_rfl
def Y7:true=Tryz.pinned.checked.prog.looks []:=by kernel_rfl
def M8:prog.funcNamed "scarf/scarflaw24.MergeChosen" = some 4:=by kernel_rfl
def D6:([25,25,25,26,42].all λu=>!prog.wantsStandIn u)=true:=by kernel_rfl
def X7:false=Rows.mergeChosenRow.goesBy Tryz.pinned.checked.prog:=by kernel_rfl
def mergeChosen_card:Rows.MergeChosenCardSaid :=
  Claim7.holds_tied_plain_at .later [] [.data,.data,.data,.data,.sentinel,.sentinel,.pinned] true (true, "e8b6678160471f6baf51a4945c75a656614ac6ff0c675eda058d605687ddb169") true
    Kx (λ_ h=>by cases h) K6 (λ_ h=>by cases h) mergeChosen_row_tie rfl ⟨rfl,rfl⟩ U8 rfl
    (λf fn hf hfn=>by
      obtain rfl:f=4:=lQ (M8.symm.trans hf) |>.symm;obtain rfl:fn=f4:=(lQ<|func4.symm.trans hfn).symm;exact⟨Y7,λj t ht=>by
        rw[params4]at ht;have hm:t∈[25,25,25,26,42]:=by simpa using Array.mem_of_getElem? ht
        exact (show prog.wantsStandIn t=false by simpa using List.all_eq_true.1 D6 t hm)⟩)
    X7
end Go.Scarf
namespace Go.Proofs.YteedfdfinodcaaaGreatDoor
/-- The statement as it was given. -/
theorem mergeChosen_proved:Rows.MergeChosenCardSaid:=Go.Scarf.mergeChosen_card
end Go.Proofs.YteedfdfinodcaaaGreatDoor
