/- A part of the proof. -/
import Derived.Test.YthhhbkkelnaekaaGreatDoorP5
import Derived.Lib.AppendStr
import Derived.Test.YthhhbkkelnaekaaGreatDoorC2
set_option linter.all false
set_option maxHeartbeats 8000000
set_option maxRecDepth 10000
namespace Go.Scarf
open Go.RowKit
theorem Lm (b:UInt8):1≤(Ei b).length∧(Ei b).length≤6:=by
  rcases YB (ND b) with ⟨c,e,_⟩ | ⟨c,e,_⟩ | ⟨x1,x2,x3,x4,e⟩ <;> rw [e] <;> simp
theorem Pk {s:Str} {j:Nat} (h:j < s.length):Ls (s.take (j+1))=Ls (s.take j)++Ei s[j]:=by
  rw [List.take_succ_eq_append_getElem h,C3,Ls,Ls,List.append_nil]
theorem DQ {s acc:Str} {j:Nat} (hv:Lib.validD s=true) (hq:acc=34::Ls (s.take j)) (hj:¬j < s.length):qS s=acc++[34]:=by
  rw [List.take_of_length_le U] at hq
  rw [qS,if_pos hv,O_ hv,hq]; rfl
theorem NB (b:UInt8):Ei b=Ei (UInt8.ofNat b.toNat):=by rw [UInt8.ofNat_toNat]
theorem RW:∀ n < 256,n=34∨n=92→Ei (UInt8.ofNat n)=[92,UInt8.ofNat n]:=by decide +kernel
theorem HI {b:UInt8} (h:((b.toNat:Nat):Int)=34∨((b.toNat:Nat):Int)=92):Ei b=[92,b]:=by
  have:=RW b.toNat (UInt8.toNat_lt b) U
  simpa using this
theorem Rn (k:Nat) {t:Str} {b:UInt8} (hk:k < 256) (ht:Ei (UInt8.ofNat k)=t) (h:((b.toNat:Nat):Int)=(k:Int)):Ei b=t:=by
  rw [NB,show b.toNat=k by omega,ht]
theorem PP:∀ n < 32,(n=8∨n=12∨n=10∨n=13∨n=9)∨Ei (UInt8.ofNat n)=[92,117,48,48,dg (n / 16),dg (n % 16)]:=by decide +kernel
theorem IG {b:UInt8} (h:b.toNat < 32) (h1:b.toNat≠8) (h2:b.toNat≠12) (h3:b.toNat≠10) (h4:b.toNat≠13) (h5:b.toNat≠9):Ei b=[92,117,48,48,dg (b.toNat / 16),dg (b.toNat % 16)]:=by
  rw [NB]; exact (PP _ h).resolve_left U
theorem TE:∀ n < 256,¬n < 32→n≠34→n≠92→Ei (UInt8.ofNat n)=[UInt8.ofNat n]:=by decide +kernel
theorem I7 {b:UInt8} (h:¬b.toNat < 32) (h1:b.toNat≠34) (h2:b.toNat≠92):Ei b=[b]:=by
  have:=TE b.toNat (UInt8.toNat_lt b) h h1 h2
  simpa using this
section
variable {P:Program} {w0 w:World} {Ds:List Nat} {pre post sb:List (Nat × Obj)}
theorem BB {t u ty e:Nat} {i:TypeInfo} {A:Option Addr} {n c:Nat} {xs:List Value} {txt:Str}
    (ht:P.underlying t=some (.slice e)) (hu:P.underlying u=some .string) (hi:P.info? e=some i) (hz:i.zero=some (.int .u8 0)) (hsize:i.size=1) (hby:i.bytes=1)
    (hF:FR w0 Ds (pre++(sb++post)) w) (hS:SlB e 1 A n c xs sb) (h0:0 < txt.length) (hbytes:n+txt.length≤140737488355328) :
    ∃ A' c' sb' w', (Builtin.append_ #[t, u] ty #[.slice A n c, .string (bs txt)]).run P w = .ok (.slice A' (n + txt.length) c') w' ∧ SlB e 1 A' (n + txt.length) c' (xs ++ Lib.byteCells txt) sb' ∧ FR w0 Ds (pre ++ (sb' ++ post)) w' ∧
      Same (sb.map (·.1)) w w'∧(∀ p∈sb',p.1∈sb.map (·.1)∨w.heap.size≤p.1):=by
  have es:(bs txt).size=txt.length:=Ro txt
  have ec:Lib.strCells (bs txt)=Lib.byteCells txt:=by simp [Lib.strCells_eq,bs]
  have hxl:xs.length=n:=by simpa using hS.1
  have hbl:(Lib.byteCells txt).length=txt.length:=by simp [Lib.byteCells]
  have hlen:(xs++Lib.byteCells txt).length=(n+txt.length) * 1:=by rw [List.length_append,hxl,hbl,Nat.mul_one]
  have grown:∀ (old:Nat),old < n+txt.length →
      SlB e 1 (some ⟨w.heap.size,0,none⟩) (n+txt.length) (grownCap w (n+txt.length) old e) (xs++Lib.byteCells txt) [(w.heap.size,.cells (xs.toArray++(Lib.byteCells txt).toArray++Builtin.zeroCells (Value.int .u8 0).cells (grownCap w (n+txt.length) old e - (n+txt.length))) e)] ∧
      FR w0 Ds (pre++([(w.heap.size,.cells (xs.toArray++(Lib.byteCells txt).toArray++Builtin.zeroCells (Value.int .u8 0).cells (grownCap w (n+txt.length) old e - (n+txt.length))) e)]++post)) (w.drew.alloc (.cells (xs.toArray++(Lib.byteCells txt).toArray++Builtin.zeroCells (Value.int .u8 0).cells (grownCap w (n+txt.length) old e - (n+txt.length))) e)) ∧
      Same (sb.map (·.1)) w (w.drew.alloc (.cells (xs.toArray++(Lib.byteCells txt).toArray++Builtin.zeroCells (Value.int .u8 0).cells (grownCap w (n+txt.length) old e - (n+txt.length))) e)):=by
    intro old ho
    have hge:=grownCap_ge w (n+txt.length) old e
    have hcm:grownCap w (n+txt.length) old e≤maxLen:=grownCap_le_maxLen w (n+txt.length) old e (by simp only [maxLen]; omega)
    have hsm:Same [] w (w.drew.alloc (.cells (xs.toArray++(Lib.byteCells txt).toArray++Builtin.zeroCells (Value.int .u8 0).cells (grownCap w (n+txt.length) old e - (n+txt.length))) e)):=(Same.drew w).trans (Same.alloc w.drew _)
    refine ⟨⟨hlen,.inr ⟨w.heap.size,_,O,O,hge,hcm,?_,?_⟩⟩,hF.insert hsm (heap_alloc_new w.drew _),hsm.mono Ma⟩
    · have hz1 : (Value.int IntKind.u8 0).cells.size = 1 := rfl
      simp only [Array.size_append,List.size_toArray,size_zeroCells,hz1,hxl,hbl]
      omega
    · simp only [Array.toList_append, List.append_assoc]
      rw [←List.append_assoc,←hlen]
      exact List.take_left
  rcases hS.2 with ⟨rfl,rfl,rfl⟩ | ⟨g,cur,rfl,rfl,hnc,hcm,hcs,htake⟩
  · have hx : xs = [] := List.eq_nil_of_length_eq_zero hxl
    subst hx
    have hgr:=grown 0 U
    simp only [Nat.zero_add,List.nil_append,Array.empty_append] at hgr ⊢
    cases A with
    | none =>
      have hr:=run_append_nil_string (P:=P) w t u ty e i (.int .u8 0) ht hu hi hz (bs txt) U U (by rw [hby]; omega)
      have e1:((bs txt).data.map fun b=>Value.int .u8 b.toNat)=(Lib.byteCells txt).toArray:=by
        rw [←ec]
        apply Array.ext'
        simp [Lib.strCells]
      rw [e1,es] at hr
      exact ⟨_,_,_,_,hr,hgr.1,hgr.2.1,hgr.2.2,fun p hp=>.inr (by simp only [List.mem_singleton] at hp; subst hp; exact Nat.le_refl _)⟩
    | some a0 =>
      have hr:=Lib.run_append_grow_string (P:=P) w t u ty e i (.int .u8 0) ht hu hi hz a0 0 0 [] Ma (fun j u hu=>by cases hu) (bs txt) U U (by rw [hby]; exact growslice_fits U U)
      rw [ec,es] at hr
      simp only [Nat.zero_add,Array.empty_append] at hr
      exact ⟨_,_,_,_,hr,hgr.1,hgr.2.1,hgr.2.2,fun p hp=>.inr (by simp only [List.mem_singleton] at hp; subst hp; exact Nat.le_refl _)⟩
  · have hg : w.heap[g]? = some (.cells cur e) := hF.memHeap (p := (g, .cells cur e)) Ma
    have hcs':cur.size=c:=by simpa using hcs
    have ht':cur.toList.take n=xs:=by simpa using htake
    by_cases hroom:n+txt.length≤c
    · have hr := Lib.run_append_room_string (P := P) w t u ty e i ht hu hi hsize g n c cur hg (bs txt) U U
      rw [ec,es] at hr
      have hsm:Same [g] w (w.setRow g (cur.toList.take n++Lib.byteCells txt++cur.toList.drop (n+txt.length)).toArray) :=
        ⟨rfl,rfl,rfl,by simp [World.setRow],fun b _ hb=>setRow_other w g b _ (by simpa using hb)⟩
      refine ⟨_,_,[(g,.cells (cur.toList.take n++Lib.byteCells txt++cur.toList.drop (n+txt.length)).toArray e)],_,hr,⟨hlen,.inr ⟨g,_,O,O,hroom,hcm,?_,?_⟩⟩,hF.changeMid hsm (setRow_heap w g cur _ e _ hg),by simpa using hsm,fun p hp=>.inl (by simp at hp ⊢; exact congrArg Prod.fst hp)⟩
      · simp only [List.size_toArray, List.length_append, List.length_take, List.length_drop, Array.length_toList, hbl]
        omega
      · rw [ht', ← hlen]
        exact List.take_left
    · have holds : ∀ j u, xs[j]? = some u → w.cell? ((⟨g, 0, none⟩ : Addr).add j) = some u := hS.cells hF _ rfl
      have hr:=Lib.run_append_grow_string (P:=P) w t u ty e i (.int .u8 0) ht hu hi hz ⟨g,0,none⟩ n c xs (by rw [hsize]; simpa using hxl) holds (bs txt) U U (by rw [hby]; exact growslice_fits U U)
      rw [ec,es] at hr
      have hgr:=grown c U
      exact ⟨_,_,_,_,hr,hgr.1,hgr.2.1,hgr.2.2,fun p hp=>.inr (by simp only [List.mem_singleton] at hp; subst hp; exact Nat.le_refl _)⟩
end
section
variable {P:Program} {R:Exit→Act→World→Prop} {n:Nat} {kt:Kt} {s:Nat→Value} {w:World} {ops rest:List Oper}
variable {d:Nat} {ty:TypeId} {pos:String} {aft:Array Edge} {g:Option (Nat × Bool)}
variable {w0:World} {Ds:List Nat} {sb:List (Nat × Obj)}
theorem Cr (pre post:List (Nat × Obj)) {x y:Operand} {t u e:Nat} {A:Option Addr} {len c:Nat} {xs:List Value} {txt:Str} {len':Nat} {ys:List Value} (hE:Elems P t e 1 1) (hu:P.underlying u=some .string)
    (hz0:(P.info? e).map (·.zero)=some (some (.int .u8 0)))
    (hF:FR w0 Ds (pre++(sb++post)) w) (hS:SlB e 1 A len c xs sb) (hx:ev n s x=.slice A len c) (hy:ev n s y=.string (bs txt))
    (h0:0 < txt.length) (hbytes:len+txt.length≤140737488355328) (hlen:len+txt.length=len') (hys:xs++Lib.byteCells txt=ys)
    (h:∀ A' c' sb' w',SlB e 1 A' len' c' ys sb'→FR w0 Ds (pre++(sb'++post)) w'→Same (sb.map (·.1)) w w'→(∀ p∈sb',p.1∈sb.map (·.1)∨w.heap.size≤p.1)→Og P R n ops kt rest (Xi s d (.slice A' len' c')) w')
    (hw:Kc ops n s ⟨some d,.call ⟨.builtin .append,#[x,y],#[t,u]⟩,ty,pos,aft,g⟩=true:=by rfl):Og P R n ops kt (⟨some d,.call ⟨.builtin .append,#[x,y],#[t,u]⟩,ty,pos,aft,g⟩::rest) s w:=by
  subst hlen hys
  obtain ⟨i,z,hi,hz,h2,h3,h4⟩:=hE.info
  rw [hi] at hz0
  have hz1:i.zero=some (.int .u8 0):=by simpa using hz0
  obtain ⟨A',c',sb',w',hr,hS',hF',hs,hn⟩:=BB (ty:=ty) hE.ht hu hi hz1 h2 h3 hF hS h0 hbytes
  exact Ja (L6 hx hy hr) (h A' c' sb' w' hS' hF' hs hn) hw
end
end Go.Scarf
namespace Go.Scarf
open Go.RowKit Go.Proofs
end Go.Scarf
namespace Go.Scarf
open Go.RowKit Go.Proofs
end Go.Scarf
