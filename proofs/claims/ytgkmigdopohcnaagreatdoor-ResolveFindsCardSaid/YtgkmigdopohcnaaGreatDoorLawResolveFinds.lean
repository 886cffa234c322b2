/- The statement ResolveFinds, for every input that its row names: proved. -/
import Derived.Test.YtgkmigdopohcnaaGreatDoorCards
import Derived.Test.YtgkmigdopohcnaaGreatDoorX28
set_option linter.all false
set_option maxHeartbeats 8000000
set_option maxRecDepth 10000
namespace Go.Scarf
open Go.RowKit Go.Proofs Go.Proofs.Tryz
set_option maxRecDepth 100000
open Go.ChangeShapes Go.WideShapes Go.ChangeAt Go.Proofs.YtgkmigdopohcnaaGreatDoor
theorem Tt(os:Os)(started:os.Started)(H:Type)(enc:TypeId × Value->H) :
    ReturnsInHanded {} checked os 5 .any (λw args=>(Rows.resolveFindsSpec.pre enc prog f5 [] false w args/\laidMetH prog On w)/\sizedMet enc prog f5 (OpenSpec.ofChange Rows.resolveFindsSpec) false w args)
      (Rows.resolveFindsSpec.post enc prog f5 false true false false):=by
  refine returnsInHanded_of_change_and (C:=checked) (X:=λw _=>laidMetH prog On w) (λ_ _ _ hh h=>h.of_heap hh) own_ started Ib func5
    (ChangeSpec.witness_shaped (enc:=enc) (C:=checked) (os:=os) (X:=λw _=>laidMetH prog On w) false (World.laidAll prog os On) #[aQ,.agg #[aQ,J 0,.bool false,J 0,I [],aQ,aQ,.bool false,J 0,I [],aQ,aQ,.bool false,J 0,I [],aQ,aQ],.agg #[.bool false,J 0,I [],aQ,aQ],.agg #[aQ,J 0,.bool false,J 0,I [],aQ,aQ,.bool false,J 0,I [],aQ,aQ,.bool false,J 0,I [],aQ,aQ]] 8 (World.laidAll_os _ _ _)
      (World.shaped_of_ZipB Ib Ib) Ib Ib Ib (wit_ os _)) ?_
  intro W base args ds gs before hval0 hW _ _ hL _;have hval:∀(j:Nat) t v,f5.params[j]? = some t->args[j]? = some v->Value.okWide prog W .any base t v:=hval0;have hW':=hW;have hlt:=hW.lt;obtain⟨p,q,hA0,hV,rfl,_,_⟩:=hW;have hA:DataW.TrodAll enc prog W 0 (λ_=>true) true f5.params.toList args.toList ds p:=hA0;rw[params5]at hA hval;obtain⟨v0,v1,v2,v3,d0,d1,d2,d3,p0,p1,p2,p3,rfl,rfl,rfl,h0,h1,h2,h3⟩:=trodAll_four hA;obtain⟨rfl,rfl⟩:=trodVars_none hV;clear hA0 hval0;simp only[qQ]at hW' hlt;obtain⟨x0,A0,c0,rfl,r0⟩:=CS (hval 0 36 v0 rfl rfl) h0;obtain⟨x1,c1,rfl,r1⟩:=PI (hval 1 29 v1 rfl rfl) h1;obtain⟨x2,c2,rfl,r2⟩:=EM (hval 2 27 v2 rfl rfl) h2;obtain⟨x3,c3,rfl,r3⟩:=PI (hval 3 29 v3 rfl rfl) h3;have hG:=FH hL;refine (K2 W hG x0 A0 c0 r0 x1 c1 r1 x2 c2 r2 x3 c3 r3).mono λe W' ⟨v,he,hv,hs⟩=>?_;subst he hv;have hb:=hs.below;exact⟨_,O,_,_,_,[],_,[],hW',trodAll_mk1 (shut_bool cX _),trodAll_mk4 (E_ rec36 row36 hb (λq hq=>hlt q (by simp[hq])) h0) (E_ ZY DZ hb (λq hq=>hlt q (by simp[hq])) h1) (E_ rec27 row27 hb (λq hq=>hlt q (by simp[hq])) h2) (E_ ZY DZ hb (λq hq=>hlt q (by simp[hq])) h3),O,hb.frame _,λh=>by cases h⟩
theorem Hz:Tryz.pinned.checked.prog.funcNamed Rows.resolveFindsRow.func=some 5:=by kernel_rfl
theorem Fz:joinedFacts Tryz.pinned.checked.prog 5 f5 Rows.resolveFindsSpec Rows.resolveFindsRow=true:=by kernel_rfl
theorem Lz:decide (Func.isInstance Tryz.pinned.checked.prog f5 Rows.resolveFindsRow.origin Rows.resolveFindsRow.targs)=true:=by kernel_rfl
theorem Uu:Rows.ResolveFindsSaid :=
  OpenClaim.holds_of_wide 5 f5 rfl rfl rfl rfl rfl rfl rfl ⟨rfl,rfl,rfl,rfl,rfl⟩ rfl rfl rfl rfl rfl Hz func5 Fz
    (of_decide_eq_true Lz) (by unfold Func.isWrapper;first|(rw[if_pos (by decide +kernel)];kernel_rfl)|(rw[if_neg (by decide +kernel)];exact⟨rfl,rfl⟩))
    (λos started H enc _=>Tt os started H enc)
theorem resolveFinds_card:Rows.ResolveFindsCardSaid :=
  Claim7.holds_tied_plain_at .later [] [.data,.data,.data,.data,.sentinel,.sentinel,.pinned] true (true, "1b02deca58ff1f5e47494329bfa5fbd551ea2ee108d7d13c3bab97fddb5ecb77") true
    Uu (λ_ h=>by cases h) Ib (λ_ h=>by cases h) resolveFinds_row_tie rfl ⟨rfl,rfl⟩ Ib rfl
    (λf fn hf hfn=>by
      obtain rfl:f=5:=lQ ((show prog.funcNamed "scarf/scarflaw27.ResolveFinds" = some 5 by kernel_rfl).symm.trans hf) |>.symm;obtain rfl:fn=f5:=(lQ (func5.symm.trans hfn)).symm;exact⟨by kernel_rfl,λj t ht=>by
        rw[params5]at ht;have hm:t∈[36,29,27,29]:=by simpa using Array.mem_of_getElem? ht
        have hall:([36,29,27,29].all λu=>!prog.wantsStandIn u)=true:=by kernel_rfl
        exact (show prog.wantsStandIn t=false by simpa using List.all_eq_true.1 hall t hm)⟩)
    Ib
end Go.Scarf
namespace Go.Proofs.YtgkmigdopohcnaaGreatDoor
/-- The statement as it was given. -/
theorem resolveFinds_proved:Rows.ResolveFindsCardSaid:=Go.Scarf.resolveFinds_card
end Go.Proofs.YtgkmigdopohcnaaGreatDoor
