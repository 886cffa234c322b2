/- A part of the proof. -/
import Derived.Test.YthhhbkkelnaekaaGreatDoorA21
import Derived.Test.YthhhbkkelnaekaaGreatDoorW19
set_option linter.all false
set_option maxHeartbeats 8000000
set_option maxRecDepth 10000
namespace Go.Scarf
open Go.RowKit Go.Proofs Go.Proofs.Tryz
def PX (a b:List Tree):List (Int × Int):=if Zg a=0∧Zg b=0 then Yw 0 0 (a.map We) (b.map We) else []
def NX (a b:List Tree):Int:=if Zg a=0∧Zg b=0 then ((al Tl pN (a.map We) (b.map We):Nat):Int) else 0
theorem U1 (S S':Nat→Prop) (w0:World) (hG:Gl w0) (a b:List Tree) (A B:Option Addr) (c e:Nat) (hX:Rep S w0 (.slice (Wc a)) [.slice A a.length c]) (hY:Rep S' w0 (.slice (Wc b)) [.slice B b.length e]) (hfa:Yk a=true) (hfb:Yk b=true):Calls prog 7 #[.slice A a.length c,.slice B b.length e] w0 (De fun v w'=>∃ (Az:Option Addr) (cz:Nat),v=.tuple #[.slice Az (PX a b).length cz,.int .i64 (NX a b),.int .i64 (Dr a b)]∧Rep (fun _=>True) w' (Lj (PX a b)) [.slice Az (PX a b).length cz]∧Same [] w0 w'):=by
  by_cases h:Zg a=0∧Zg b=0
  · have e1 : PX a b = Yw 0 0 (a.map We) (b.map We) := if_pos h
    have e2:NX a b=((al Tl pN (a.map We) (b.map We):Nat):Int):=if_pos h
    rw [e1,e2,O6.2 h]
    exact Bi (WA S S' w0 hG a b A B c e hX hY (Yi hfa) (Yi hfb) _ _ rfl rfl h.1 h.2) fun v w' ⟨Az,cz,hv,hr,hs⟩=>⟨Az,cz,hv,hr.weaken fun _ _ _=>trivial,hs⟩
  · have e1 : PX a b = [] := if_neg h
    have e2:NX a b=0:=if_neg h
    rw [e1,e2]
    exact Bi (VS S S' w0 hG a b A B c e hX hY (Yi hfa) (Yi hfb) h) fun v w' ⟨hv,hs⟩=>⟨_,_,hv,Rep.nil_slice 0 U none,hs⟩
theorem HQ {l:List Tree} (h:Yk l=true) (he:Zg l=0):∀ z∈l.map We,z.1.length≤80:=fun z hz=>by
  obtain ⟨x,hx,rfl⟩:=List.mem_map.1 hz
  exact Nat.le_trans (YI h (Br he).1 x hx) Ua
theorem Wy (S S':Nat→Prop) (w0:World) (hG:Gl w0) (a b:List Tree) (A B:Option Addr) (c e:Nat) (hX:Rep S w0 (.slice (Wc a)) [.slice A a.length c]) (hY:Rep S' w0 (.slice (Wc b)) [.slice B b.length e]) (hfa:Yk a=true) (hfb:Yk b=true):Calls prog 8 #[.slice A a.length c,.slice B b.length e] w0 (De fun v w'=>∃ (Az:Option Addr) (cz:Nat),v=.tuple #[.slice Az (PX a b).length cz,.int .i64 (NX a b),.int .i64 (Dr a b)]∧Rep (fun _=>True) w' (Lj (PX a b)) [.slice Az (PX a b).length cz]∧Same [] w0 w'):=by
  by_cases h:Zg a=0∧Zg b=0
  · have e1 : PX a b = Yw 0 0 (a.map We) (b.map We) := if_pos h
    have e2:NX a b=((al Tl pN (a.map We) (b.map We):Nat):Int):=if_pos h
    rw [e1,e2,O6.2 h]
    exact Bi (ZJ S S' w0 hG a b A B c e hX hY (Yi hfa) (Yi hfb) _ _ rfl rfl h.1 h.2 (HQ hfa h.1) (HQ hfb h.2)) fun v w' ⟨Az,cz,hv,hr,hs⟩=>⟨Az,cz,hv,hr,hs⟩
  · have e1 : PX a b = [] := if_neg h
    have e2:NX a b=0:=if_neg h
    rw [e1,e2]
    exact Bi (PL S S' w0 hG a b A B c e hX hY (Yi hfa) (Yi hfb) h) fun v w' ⟨hv,hs⟩=>⟨_,_,hv,Rep.nil_slice 0 U none,hs⟩
end Go.Scarf
