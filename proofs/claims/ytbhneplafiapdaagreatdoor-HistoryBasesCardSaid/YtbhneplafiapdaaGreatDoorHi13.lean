/- A part of the proof. -/
import Derived.Test.YtbhneplafiapdaaGreatDoorHi8
set_option linter.all false
set_option maxHeartbeats 8000000
set_option maxRecDepth 10000
namespace Go.Scarf
open Go.RowKit Go.Proofs Go.Proofs.Tryz
theorem Mp(h:List Cm)(A:Option Addr)(c:Nat)(k:Int)(hk:-9223372036854775808<=k/\k<=9223372036854775807)(S:Nat->Prop)(w0:World)(hX:Rep S w0 (Zk h) [.slice A h.length c])(hT:∀x∈h,Tg x)(hG:Gl w0):Calls prog 17 #[.slice A h.length c,J k] w0 (Pd λv w'=>∃A c,v=.slice A (Eb h k).length c/\Rep (λ_=>True) w' (.slice ((Eb h k).map Lc)) [.slice A (Eb h k).length c]/\Same [] w0 w'):=by
  refine (Wu h A c k hk S w0 hX hT hG).mono λe w' ⟨v,he,A2,c2,hv,hr,hs⟩=>⟨v,he,A2,c2,?_,?_,hs⟩
  ·unfold Eb;rw[rQ];exact hv
  unfold Eb;rw[rQ];exact hr.weaken λ_ _ _=>trivial
theorem H3(h:List Cm)(A:Option Addr)(c:Nat)(a b:Int)(ha:-9223372036854775808<=a/\a<=9223372036854775807)(hb:-9223372036854775808<=b/\b<=9223372036854775807)(S:Nat->Prop)(w0:World)(hX:Rep S w0 (Zk h) [.slice A h.length c])(hT:∀x∈h,Tg x)(hG:Gl w0):Calls prog 19 #[.slice A h.length c,J a,J b] w0 (Pd λv w'=>∃A c,v=.slice A (Hb h a b).length c/\Rep (λ_=>True) w' (.slice ((Hb h a b).map Lc)) [.slice A (Hb h a b).length c]/\Same [] w0 w'):=by
  refine (Wt h A c a b ha hb S w0 hX hT hG).mono λe w' ⟨v,he,A2,c2,hv,hr,hs⟩=>⟨v,he,A2,c2,?_,?_,hs⟩
  ·unfold Hb;rw[rQ];exact hv
  unfold Hb;rw[rQ];exact hr.weaken λ_ _ _=>trivial
theorem Rep.int_cell{S:Nat->Prop}{w:World}{ns:List Int}{A:Option Addr}{ad:Addr}{len c:Nat}(h:Rep S w (.slice (ns.map Lc)) [.slice A len c])(hA:A=some ad){i:Nat}(hi:i<ns.length):w.cell? (ad.add (i*1))=some (J ns[i]):=by
  obtain⟨ad',e,hc,-⟩:=h.int_elem hi;obtain rfl:=lQ (hA.symm.trans e);exact hc
theorem Rep.int_ad{S:Nat->Prop}{w:World}{ns:List Int}{A:Option Addr}{len c i:Nat}(h:Rep S w (.slice (ns.map Lc)) [.slice A len c])(hi:i<ns.length):∃ad,A=some ad:=by
  obtain⟨ad,e,-⟩:=h.int_elem hi;exact⟨ad,e⟩
theorem Rep.int_rng{S:Nat->Prop}{w:World}{ns:List Int}{A:Option Addr}{len c i:Nat}(h:Rep S w (.slice (ns.map Lc)) [.slice A len c])(hi:i<ns.length):-9223372036854775808<=ns[i]/\ns[i]<=9223372036854775807:=by
  obtain⟨ad,-,-,h⟩:=h.int_elem hi;exact h
theorem C5{h:List Cm}{m:Int}(hm:0<=m)(h2:m<=200)(hf:JP h m):∀x∈h,Jb x.val<=200/\Zd x.val<=2048:=λx hx=>by
  obtain⟨i,hi,rfl⟩:=List.getElem_of_mem hx;obtain⟨h1,-,h3⟩:=HH hm (hf.2 i hi).1;have:=UB h[i].val h3;exact⟨by omega,by omega⟩
theorem II{h:List Cm}(hs:∀x∈h,Jb x.val<=200/\Zd x.val<=2048):∀x∈h,Tg x:=λx hx=>⟨by have:=(hs x hx).1;omega,Ii _ (by have:=(hs x hx).2;omega)⟩
end Go.Scarf
