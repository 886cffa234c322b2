/- The statement AlignRows, for every input that its row names: proved. -/
import Derived.Test.YthhhbkkelnaekaaGreatDoorRow
import Derived.Test.YthhhbkkelnaekaaGreatDoorRow3
import Derived.Test.YthhhbkkelnaekaaGreatDoorCards
import Derived.Test.YthhhbkkelnaekaaGreatDoorX18
set_option linter.all false
set_option maxHeartbeats 8000000
set_option maxRecDepth 10000
namespace Go.Scarf
open Go.RowKit Go.Proofs Go.Proofs.Tryz
set_option maxRecDepth 100000
open Go.ChangeShapes Go.WideShapes Go.ChangeAt Go.Proofs.YthhhbkkelnaekaaGreatDoor
theorem By (os:Os) (started:os.Started) (H:Type) (enc:TypeId × Value→H) :
    ReturnsInHanded {} checked os 3 .any (fun w args=>(Rows.alignRowsSpec.pre enc prog f3 [] false w args∧laidMetH prog Ep w)∧sizedMet enc prog f3 (OpenSpec.ofChange Rows.alignRowsSpec) false w args)
      (Rows.alignRowsSpec.post enc prog f3 false true false false):=by
  refine returnsInHanded_of_change_and (C:=checked) (X:=fun w _=>laidMetH prog Ep w) (fun _ _ _ hh h=>h.of_heap hh) own_ started Qb func3
    (ChangeSpec.witness_shaped (enc:=enc) (C:=checked) (os:=os) (X:=fun w _=>laidMetH prog Ep w) false (World.laidAll prog os Ep) #[.slice none 0 0,.slice none 0 0] 8 (World.laidAll_os _ _ _)
      (World.shaped_of_ZipB Qb Qb) Qb Qb Qb (wit_ os _)) ?_
  intro W base args ds gs before hval0 hW _ _ hL _
  have hval:∀ (j:Nat) t v,f3.params[j]? = some t→args[j]? = some v→Value.okWide prog W .any base t v:=hval0
  have hW':=hW
  have hlt:=hW.lt
  obtain ⟨p,q,hA0,hV,rfl,_,_⟩:=hW
  have hA:DataW.TrodAll enc prog W 0 (fun _=>true) true f3.params.toList args.toList ds p:=hA0
  rw [params3] at hA hval
  obtain ⟨v0,v1,d0,d1,p0,p1,rfl,rfl,rfl,h0,h1⟩:=trodAll_two hA
  obtain ⟨rfl,rfl⟩:=trodVars_none hV
  clear hA0 hval0
  simp only [List.append_nil] at hW' hlt
  obtain ⟨x0,A0,c0,rfl,r0⟩:=Z5 (hval 0 22 v0 rfl rfl) h0
  obtain ⟨x1,A1,c1,rfl,r1⟩:=Z5 (hval 1 22 v1 rfl rfl) h1
  have hG:=JD hL
  refine ((fun W hG a A c r b B e q=>UC W hG a A c r b B e q) W hG x0 A0 c0 r0 x1 A1 c1 r1).mono fun e W' ⟨v,he,hv,hs⟩=>?_
  subst he hv
  have hb:=hs.below
  exact ⟨_,O,_,_,_,[],_,[],hW',trodAll_mk1 (shut_bool underlying4 _),trodAll_mk2 (KP JT VT hb (fun q hq=>hlt q (by simp [hq])) h0) (KP JT VT hb (fun q hq=>hlt q (by simp [hq])) h1),O,hb.frame _,fun h=>by cases h⟩
theorem W0:Rows.AlignRowsSaid :=
  OpenClaim.holds_of_wide 3 f3 rfl rfl rfl rfl rfl rfl rfl ⟨rfl,rfl,rfl,rfl,rfl⟩ rfl rfl rfl rfl rfl Qb func3 Qb
    (of_decide_eq_true Qb) (by unfold Func.isWrapper; first | (rw [if_pos (by decide +kernel)]; kernel_rfl) | (rw [if_neg (by decide +kernel)]; exact ⟨rfl,rfl⟩))
    (fun os started H enc _=>By os started H enc)
theorem alignRows_card:Rows.AlignRowsCardSaid :=
  Claim7.holds_tied_plain_at .later [] [.data,.data,.data,.data,.sentinel,.sentinel,.pinned] true (true, "b9511ec516eaad1ae9bd707bf349a313f448e4ea8667c8961b509753efa1b461") true
    W0 (fun _ h=>by cases h) Qb (fun _ h=>by cases h) alignRows_row_tie rfl ⟨rfl,rfl⟩ Qb rfl
    (fun f fn hf hfn=>by
      obtain rfl:f=3:=Option.some.inj ((show prog.funcNamed "scarf/scarflaw20.AlignRows" = some 3 by kernel_rfl).symm.trans hf) |>.symm
      obtain rfl:fn=f3:=(Option.some.inj (func3.symm.trans hfn)).symm
      exact ⟨by kernel_rfl,fun j t ht=>by
        rw [params3] at ht
        have hm:t∈[22,22]:=by simpa using Array.mem_of_getElem? ht
        have hall:([22,22].all fun u=>!prog.wantsStandIn u)=true:=by kernel_rfl
        exact (show prog.wantsStandIn t=false by simpa using List.all_eq_true.1 hall t hm)⟩)
    Qb
end Go.Scarf
namespace Go.Proofs.YthhhbkkelnaekaaGreatDoor
/-- The statement as it was given. -/
theorem alignRows_proved:Rows.AlignRowsCardSaid:=Go.Scarf.alignRows_card
end Go.Proofs.YthhhbkkelnaekaaGreatDoor
