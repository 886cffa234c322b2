/- A part of the proof. -/
import Derived.KernelRfl
import Derived.Shelf.SlIter.Nil
import Derived.Shelf.SortM.Plain
import Derived.Shelf.SortM.SortNone
import Derived.Test.YtndkhbfnfagbgaaGreatDoorProg
set_option linter.all false
namespace Go.Proofs
open Tryz
open Go.RowKit Go.Maps Go.Sort Go.Shelf
theorem tK_key{α:Type _}{x:Option α}{a b:α}(h:x=some a)(e:a=b:=by kernel_rfl):x=some b:=h.trans (congrArg some e)
def Tryz.keys266_ren:Go.Shelf.Ren:=⟨fun|7=>266|10=>278|n=>n,fun|23=>155|26=>9|3=>27|28=>212|0=>0|27=>211|33=>131|4=>4|n=>n,fun  | n=>n⟩
theorem Tryz.keys266:Go.Proofs.SlLaysZ.n7 prog keys266_ren:={
 mixed:=by kernel_rfl,f7:=⟨f266.name,by kernel_rfl,tK_key func266⟩,f10:=⟨f278.name,by kernel_rfl,tK_key func278⟩,t0:=underlying0,a0:=isAgg0,z0:=sizeOf0,v0:=zeroValue0,t4:=underlying4,a4:=isAgg4,z4:=sizeOf4,v4:=zeroValue4,t23:=underlying155,
 a23:=isAgg155,z23:=sizeOf155,v23:=zeroValue155,t26:=underlying9,a26:=isAgg9,z26:=sizeOf9,v26:=zeroValue9,t27:=underlying211,a27:=isAgg211,z27:=sizeOf211,v27:=zeroValue211,t28:=underlying212,
 a28:=isAgg212,z28:=sizeOf212,v28:=zeroValue212,t33:=underlying131,a33:=isAgg131,z33:=sizeOf131,v33:=zeroValue131}
def Tryz.sorted159_ren:Go.Shelf.Ren:=⟨fun|6=>159|8=>189|9=>190|11=>214|13=>67|12=>215|23=>106|24=>107|14=>237|15=>238|16=>239|17=>240|18=>241|19=>242|20=>243|21=>244|22=>245|25=>267|26=>144|27=>145|28=>268|29=>269|30=>270|31=>279|n=>n,fun|26=>9|28=>212|24=>24|0=>0|3=>3|37=>105|48=>147|50=>149|4=>4|40=>140|39=>139|45=>108|5=>5|9=>9|51=>185|55=>189|57=>244|58=>245|33=>131|n=>n,fun  | n=>n⟩
theorem Tryz.sorted159:Go.Proofs.SlLaysZ.n6 prog sorted159_ren:={
 mixed:=by kernel_rfl,f6:=⟨f159.name,by kernel_rfl,tK_key func159⟩,f8:=⟨f189.name,by kernel_rfl,tK_key func189⟩,f11:=⟨f214.name,by kernel_rfl,tK_key func214⟩,t0:=underlying0,a0:=isAgg0,z0:=sizeOf0,v0:=zeroValue0,t24:=underlying24,a24:=isAgg24,z24:=sizeOf24,v24:=zeroValue24,
 t26:=underlying9,a26:=isAgg9,z26:=sizeOf9,v26:=zeroValue9,t28:=underlying212,a28:=isAgg212,z28:=sizeOf212,v28:=zeroValue212,i26:=by kernel_rfl}
def Tryz.sort190_ren:Go.Shelf.Ren:=⟨fun|6=>190|8=>67|9=>215|19=>106|20=>107|21=>237|22=>238|23=>239|24=>240|25=>241|26=>242|27=>243|28=>244|29=>245|36=>267|31=>144|32=>145|37=>268|38=>269|39=>270|41=>279|n=>n,fun|27=>24|29=>9|3=>3|32=>105|26=>24|0=>0|44=>147|46=>149|4=>4|36=>140|35=>139|41=>108|5=>5|9=>9|53=>185|57=>189|63=>244|64=>245|n=>n,fun  | n=>n⟩
theorem Tryz.sort190:Go.Proofs.SlLaysM.n6 prog sort190_ren:={
 mixed:=by kernel_rfl,f6:=⟨f190.name,by kernel_rfl,tK_key func190⟩,f8:=tK_key func67,f9:=⟨f215.name,by kernel_rfl,tK_key func215⟩,f19:=tK_key func106,f20:=tK_key func107,f21:=⟨f237.name,by kernel_rfl,tK_key func237⟩,f22:=⟨f238.name,by kernel_rfl,tK_key func238⟩,f23:=⟨f239.name,by kernel_rfl,tK_key func239⟩,f24:=⟨f240.name,by kernel_rfl,tK_key func240⟩,f25:=⟨f241.name,by kernel_rfl,tK_key func241⟩,f26:=⟨f242.name,by kernel_rfl,tK_key func242⟩,
 f27:=⟨f243.name,by kernel_rfl,tK_key func243⟩,f28:=⟨f244.name,by kernel_rfl,tK_key func244⟩,f29:=⟨f245.name,by kernel_rfl,tK_key func245⟩,f31:=tK_key func144,f32:=tK_key func145,f36:=⟨f267.name,by kernel_rfl,tK_key func267⟩,f37:=⟨f268.name,by kernel_rfl,tK_key func268⟩,f38:=⟨f269.name,by kernel_rfl,tK_key func269⟩,f39:=⟨f270.name,by kernel_rfl,tK_key func270⟩,f41:=⟨f279.name,by kernel_rfl,tK_key func279⟩,t0:=underlying0,a0:=isAgg0,
 z0:=sizeOf0,v0:=zeroValue0,t3:=underlying3,a3:=isAgg3,z3:=sizeOf3,v3:=zeroValue3,t4:=underlying4,a4:=isAgg4,z4:=sizeOf4,v4:=zeroValue4,t5:=underlying5,a5:=isAgg5,
 z5:=sizeOf5,v5:=zeroValue5,t9:=underlying9,a9:=isAgg9,z9:=sizeOf9,v9:=zeroValue9,t26:=underlying24,a26:=isAgg24,z26:=sizeOf24,v26:=zeroValue24,t27:=underlying24,a27:=isAgg24,
 z27:=sizeOf24,v27:=zeroValue24,t29:=underlying9,a29:=isAgg9,z29:=sizeOf9,v29:=zeroValue9,t32:=underlying105,a32:=isAgg105,z32:=sizeOf105,v32:=zeroValue105,t35:=underlying139,a35:=isAgg139,
 z35:=sizeOf139,v35:=zeroValue139,t36:=underlying140,a36:=isAgg140,z36:=sizeOf140,v36:=zeroValue140,t41:=underlying108,a41:=isAgg108,z41:=sizeOf108,v41:=zeroValue108,t44:=underlying147,a44:=isAgg147,
 z44:=sizeOf147,v44:=zeroValue147,t46:=underlying149,a46:=isAgg149,z46:=sizeOf149,v46:=zeroValue149,t53:=underlying185,a53:=isAgg185,z53:=sizeOf185,v53:=zeroValue185,t57:=underlying189,a57:=isAgg189,
 z57:=sizeOf189,v57:=zeroValue189,t63:=underlying244,a63:=isAgg244,z63:=sizeOf244,v63:=zeroValue244,t64:=underlying245,a64:=isAgg245,z64:=sizeOf245,v64:=zeroValue245}
theorem Tryz.sorts80(m:Nat):AnyZ.SortsIn prog sorted159_ren Fence.wide m:=
  ⟨fun blk off cap ss W hH hblk hsz=>callsIn_wide.2 (AnyM.slices_Sort_string sort190 blk off cap ss W hH hblk hsz),
   fun p cap W=>callsIn_wide.2 (AnyM.slices_Sort_string_none sort190 p cap W)⟩
theorem Tryz.maps_Keys_266(mb:Option Nat)(W:World):CallsIn Fence.wide 5 prog 266 #[.map mb] W fun e w'=>e = .returned (.func (.func 278) #[] #[.pointer (some ⟨W.heap.size,0,none⟩)])∧w' = W.alloc (.cells #[.map mb] 155):=
  AnyZ.keys_in keys266 Fence.wide 5 trivial rfl mb W
set_option maxHeartbeats 1000000 in
theorem Tryz.slices_Sorted_keys_159_266{H:Type}(b nn:Nat)(D0:DataW H)(R:Value→Option (DataW H × List MemPlace))(w:World)(hown:w.ownsMap prog 9 R b nn D0)(hmax:Maps.size D0≤maxLen)(hbytes:Maps.size D0 * 16≤140737488355328) :
    CallsIn Fence.wide 5 prog 159 #[.func (.func 278) #[] #[.pointer (some ⟨w.heap.size,0,none⟩)]] (w.alloc (.cells #[.map (some b)] 155)) fun e w'=>∃(v:Value)(ss:List (List UInt8)),e = .returned v∧ss.Perm (strKeys D0) ∧
      w'.ownsRow (w.alloc (.cells #[.map (some b)] 155)).heap.size 9 1 v ss.length ((ss.mergeSort (fun x y=>decide (x≤y))).map encStr)∧(v = .slice none 0 0↔ss = [])∧Below (w.alloc (.cells #[.map (some b)] 155)).heap.size (w.alloc (.cells #[.map (some b)] 155)) w':=by
  have hbl:=hown.lt
  have hseq:SeqGives Fence.wide 2 prog 278 #[.pointer (some ⟨w.heap.size,0,none⟩)] encStr (fun ss=>ss.Perm (strKeys D0)) (Maps.size D0) (w.alloc (.cells #[.map (some b)] 155)):=
    AnyZ.keys_gives (ρ:=keys266_ren) { keys266 with } Fence.wide _ trivial rfl (by omega) w.heap.size b nn D0 _ (by simp) (by simp) (by
      obtain ⟨es,clock,hb,Ft,hs,hD⟩:=hown
      exact ⟨es,clock,(Below.heap_alloc _ _ b hbl).trans hb,Ft,hs,hD⟩)
  exact AnyZ.sorted_in sorted159 Fence.wide 5 trivial trivial trivial trivial rfl (by omega) (sorts80 _) (enters_of func190 (by kernel_rfl) rfl) 278 #[.pointer (some ⟨w.heap.size,0,none⟩)] trivial (enters_of func278 (by kernel_rfl) rfl) _ _ hmax hbytes _ hseq
end Go.Proofs
