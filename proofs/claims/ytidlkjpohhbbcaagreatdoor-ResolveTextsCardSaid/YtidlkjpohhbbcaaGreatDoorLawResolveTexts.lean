/- The statement ResolveTexts, for every input that its row names: proved. -/
import Derived.Test.YtidlkjpohhbbcaaGreatDoorCards
import Derived.Test.YtidlkjpohhbbcaaGreatDoorRe17
set_option linter.all false
set_option maxHeartbeats 8000000
set_option maxRecDepth 10000
namespace Go.Scarf
open Go.RowKit Go.Proofs Go.Proofs.Tryz
set_option maxRecDepth 100000
open Go.ChangeShapes Go.WideShapes Go.ChangeAt Go.Proofs.YtidlkjpohhbbcaaGreatDoor
def Ru(os:Os)(started:os.Started)(H:Type)(enc:TypeId × Value->H) :
    ReturnsInHanded {} checked os 3 .any (λw args=>(Rows.resolveTextsSpec.pre enc prog f3 [] false w args/\laidMetH prog Tn w)/\sizedMet enc prog f3 (OpenSpec.ofChange Rows.resolveTextsSpec) false w args)
      (Rows.resolveTextsSpec.post enc prog f3 false true false false):=by
  refine returnsInHanded_of_change_and (C:=checked) (X:=λw _=>laidMetH prog Tn w) (λ_ _ _ hh h=>h.of_heap hh) own_ started Ua func3
    (ChangeSpec.witness_shaped (enc:=enc) (C:=checked) (os:=os) (X:=λw _=>laidMetH prog Tn w) false (World.laidAll prog os Tn) #[aQ,I []] 8 (World.laidAll_os _ _ _)
      (World.shaped_of_ZipB Ua Ua) Ua Ua Ua (wit_ os _)) ?_
  intro W base args ds gs before hval0 hW _ _ hL _;have hval:∀(j:Nat) t v,f3.params[j]? = some t->args[j]? = some v->Value.okWide prog W .any base t v:=hval0;have hW':=hW;have hlt:=hW.lt;obtain⟨p,q,hA0,hV,rfl,_,_⟩:=hW;have hA:DataW.TrodAll enc prog W 0 (λ_=>true) true f3.params.toList args.toList ds p:=hA0;rw[params3]at hA hval;obtain⟨v0,v1,d0,d1,p0,p1,rfl,rfl,rfl,h0,h1⟩:=trodAll_two hA;obtain⟨rfl,rfl⟩:=trodVars_none hV;clear hA0 hval0;simp only[qQ]at hW' hlt;obtain⟨x0,A0,c0,rfl,r0⟩:=DZ (hval 0 22 v0 rfl rfl) h0;obtain⟨x1,rfl,r1⟩:=UV (hval 1 9 v1 rfl rfl) h1;have hG:=GM hL;refine (Y4 W hG x0 A0 c0 r0 x1 r1).mono λe W' ⟨v,he,hv,hs⟩=>?_;subst he hv;have hb:=hs.below;exact⟨_,O,_,_,_,[],_,[],hW',trodAll_mk1<|shut_bool underlying4 _,trodAll_mk2 (UY rec22 row22 hb (λq hq=>hlt q bD) h0)<|UY rec9 row9 hb (λq hq=>hlt q bD) h1,O,hb.frame _,λh=>by cases h⟩
def O3:Tryz.pinned.checked.prog.funcNamed Rows.resolveTextsRow.func=some 3:=by kernel_rfl
def M3:joinedFacts Tryz.pinned.checked.prog 3 f3 Rows.resolveTextsSpec Rows.resolveTextsRow=true:=by kernel_rfl
def I3:decide (Func.isInstance Tryz.pinned.checked.prog f3 Rows.resolveTextsRow.origin Rows.resolveTextsRow.targs)=true:=by kernel_rfl
def Kv:Rows.ResolveTextsSaid :=
  OpenClaim.holds_of_wide 3 f3 rfl rfl rfl rfl rfl rfl rfl ⟨rfl,rfl,rfl,rfl,rfl⟩ rfl rfl rfl rfl rfl O3 func3 M3
    (mZ I3) (by unfold Func.isWrapper;first|(rw[uQ qA];kernel_rfl)|(rw[tQ qA];exact⟨rfl,rfl⟩))
    (λos started H enc _=>Ru os started H enc)
def K3:Rows.resolveTextsRow.wfByText (OpenSpec.ofChange Rows.resolveTextsSpec)=true:=by kernel_rfl
def P3:Tryz.pinned.checked.prog.mainIs=some ((((true, "2791d3bf0dee19e540bd6783546170b88f603c560af990d356c3e2a5832c474e"):Bool × String)).1,(((true, "2791d3bf0dee19e540bd6783546170b88f603c560af990d356c3e2a5832c474e"):Bool × String)).2.toList):=by kernel_rfl
def Q3:true=Tryz.pinned.checked.prog.looks []:=by kernel_rfl
def J3:prog.funcNamed "scarf/scarflaw27.ResolveTexts" = some 3:=by kernel_rfl
def R3:([22,9].all λu=>!prog.wantsStandIn u)=true:=by kernel_rfl
def U3:false=Rows.resolveTextsRow.goesBy Tryz.pinned.checked.prog:=by kernel_rfl
def resolveTexts_card:Rows.ResolveTextsCardSaid :=
  Claim7.holds_tied_plain_at .later [] [.data,.data,.data,.data,.sentinel,.sentinel,.pinned] true (true, "2791d3bf0dee19e540bd6783546170b88f603c560af990d356c3e2a5832c474e") true
    Kv (λ_ h=>by cases h) K3 (λ_ h=>by cases h) resolveTexts_row_tie rfl ⟨rfl,rfl⟩ P3 rfl
    (λf fn hf hfn=>by
      obtain rfl:f=3:=lQ (J3.symm.trans hf) |>.symm;obtain rfl:fn=f3:=(lQ<|func3.symm.trans hfn).symm;exact⟨Q3,λj t ht=>by
        rw[params3]at ht;have hm:t∈[22,9]:=by simpa using Array.mem_of_getElem? ht
        exact (show prog.wantsStandIn t=false by simpa using List.all_eq_true.1 R3 t hm)⟩)
    U3
end Go.Scarf
namespace Go.Proofs.YtidlkjpohhbbcaaGreatDoor
/-- The statement as it was given. -/
theorem resolveTexts_proved:Rows.ResolveTextsCardSaid:=Go.Scarf.resolveTexts_card
end Go.Proofs.YtidlkjpohhbbcaaGreatDoor
