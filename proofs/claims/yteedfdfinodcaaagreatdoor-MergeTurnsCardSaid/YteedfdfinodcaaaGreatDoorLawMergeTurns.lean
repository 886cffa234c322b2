/- The statement MergeTurns, for every input that its row names: proved. -/
import Derived.Test.YteedfdfinodcaaaGreatDoorCards
import Derived.Test.YteedfdfinodcaaaGreatDoorOr3
set_option linter.all false
set_option maxHeartbeats 8000000
set_option maxRecDepth 10000
namespace Go.Scarf
open Go.RowKit Go.Proofs Go.Proofs.Tryz
set_option maxRecDepth 100000
open Go.ChangeShapes Go.WideShapes Go.ChangeAt Go.Proofs.YteedfdfinodcaaaGreatDoor
def E0(os:Os)(started:os.Started)(H:Type)(enc:TypeId × Value->H) :
    ReturnsInHanded {} checked os 3 .any (λw args=>(Rows.mergeTurnsSpec.pre enc prog f3 [] false w args/\laidMetH prog Lp w)/\sizedMet enc prog f3 (OpenSpec.ofChange Rows.mergeTurnsSpec) false w args)
      (Rows.mergeTurnsSpec.post enc prog f3 false true false false):=by
  refine returnsInHanded_of_change_and (C:=checked) (X:=λw _=>laidMetH prog Lp w) (λ_ _ _ hh h=>h.of_heap hh) own_ started Gb func3
    (ChangeSpec.witness_shaped (enc:=enc) (C:=checked) (os:=os) (X:=λw _=>laidMetH prog Lp w) false (World.laidAll prog os Lp) #[.agg #[J 0,I [],aQ,aQ],.agg #[J 0,I [],aQ,aQ],.agg #[J 0,I [],aQ,aQ],aQ] 8 (World.laidAll_os _ _ _)
      (World.shaped_of_ZipB Gb Gb) Gb Gb Gb (wit_ os _)) ?_
  intro W base args ds gs before hval0 hW _ _ hL _;have hval:∀(j:Nat) t v,f3.params[j]? = some t->args[j]? = some v->Value.okWide prog W .any base t v:=hval0;have hW':=hW;have hlt:=hW.lt;obtain⟨p,q,hA0,hV,rfl,_,_⟩:=hW;have hA:DataW.TrodAll enc prog W 0 (λ_=>true) true f3.params.toList args.toList ds p:=hA0;rw[params3]at hA hval;obtain⟨v0,v1,v2,v3,d0,d1,d2,d3,p0,p1,p2,p3,rfl,rfl,rfl,h0,h1,h2,h3⟩:=trodAll_four hA;obtain⟨rfl,rfl⟩:=trodVars_none hV;clear hA0 hval0;simp only[qQ]at hW' hlt;obtain⟨x0,c0,rfl,r0⟩:=X5 (hval 0 25 v0 rfl rfl) h0;obtain⟨x1,c1,rfl,r1⟩:=X5 (hval 1 25 v1 rfl rfl) h1;obtain⟨x2,c2,rfl,r2⟩:=X5 (hval 2 25 v2 rfl rfl) h2;obtain⟨x3,A3,c3,rfl,r3⟩:=ES (hval 3 26 v3 rfl rfl) h3;have hG:=IS hL;refine (WG W hG x0 c0 r0 x1 c1 r1 x2 c2 r2 x3 A3 c3 r3).mono λe W' ⟨v,he,hv,hs⟩=>?_;subst he hv;have hb:=hs.below;exact⟨_,O,_,_,_,[],_,[],hW',trodAll_mk1<|shut_bool underlying4 _,trodAll_mk4 (SH rec25 row25 hb (λq hq=>hlt q jB) h0) (SH rec25 row25 hb (λq hq=>hlt q jB) h1) (SH rec25 row25 hb (λq hq=>hlt q jB) h2)<|SH rec26 row26 hb (λq hq=>hlt q jB) h3,O,hb.frame _,λh=>by cases h⟩
def AD:Tryz.pinned.checked.prog.funcNamed Rows.mergeTurnsRow.func=some 3:=by kernel_rfl
def WC:joinedFacts Tryz.pinned.checked.prog 3 f3 Rows.mergeTurnsSpec Rows.mergeTurnsRow=true:=by kernel_rfl
def HD:decide (Func.isInstance Tryz.pinned.checked.prog f3 Rows.mergeTurnsRow.origin Rows.mergeTurnsRow.targs)=true:=by kernel_rfl
def L5:Rows.MergeTurnsSaid :=
  OpenClaim.holds_of_wide 3 f3 rfl rfl rfl rfl rfl rfl rfl ⟨rfl,rfl,rfl,rfl,rfl⟩ rfl rfl rfl rfl rfl AD func3 WC
    (kZ HD) (by unfold Func.isWrapper;first|(rw[uQ (by decide +kernel)];kernel_rfl)|(rw[tQ (by decide +kernel)];exact⟨rfl,rfl⟩))
    (λos started H enc _=>E0 os started H enc)
def ED:Rows.mergeTurnsRow.wfByText (OpenSpec.ofChange Rows.mergeTurnsSpec)=true:=by kernel_rfl
def OC:Tryz.pinned.checked.prog.mainIs=some ((((true, "e8b6678160471f6baf51a4945c75a656614ac6ff0c675eda058d605687ddb169"):Bool × String)).1,(((true, "e8b6678160471f6baf51a4945c75a656614ac6ff0c675eda058d605687ddb169"):Bool × String)).2.toList):=by kernel_rfl
def DD:true=Tryz.pinned.checked.prog.looks []:=by kernel_rfl
def UC:prog.funcNamed "scarf/scarflaw24.MergeTurns" = some 3:=by kernel_rfl
def KD:([25,25,25,26].all λu=>!prog.wantsStandIn u)=true:=by kernel_rfl
def BD:false=Rows.mergeTurnsRow.goesBy Tryz.pinned.checked.prog:=by kernel_rfl
def mergeTurns_card:Rows.MergeTurnsCardSaid :=
  Claim7.holds_tied_plain_at .later [] [.data,.data,.data,.data,.sentinel,.sentinel,.pinned] true (true, "e8b6678160471f6baf51a4945c75a656614ac6ff0c675eda058d605687ddb169") true
    L5 (λ_ h=>by cases h) ED (λ_ h=>by cases h) mergeTurns_row_tie rfl ⟨rfl,rfl⟩ OC rfl
    (λf fn hf hfn=>by
      obtain rfl:f=3:=lQ (UC.symm.trans hf) |>.symm;obtain rfl:fn=f3:=(lQ<|func3.symm.trans hfn).symm;exact⟨DD,λj t ht=>by
        rw[params3]at ht;have hm:t∈[25,25,25,26]:=by simpa using Array.mem_of_getElem? ht
        exact (show prog.wantsStandIn t=false by simpa using List.all_eq_true.1 KD t hm)⟩)
    BD
end Go.Scarf
namespace Go.Proofs.YteedfdfinodcaaaGreatDoor
/-- The statement as it was given. -/
theorem mergeTurns_proved:Rows.MergeTurnsCardSaid:=Go.Scarf.mergeTurns_card
end Go.Proofs.YteedfdfinodcaaaGreatDoor
