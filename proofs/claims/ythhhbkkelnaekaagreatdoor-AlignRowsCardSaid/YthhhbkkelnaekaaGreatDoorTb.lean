/- A part of the proof. -/
import Derived.Test.YthhhbkkelnaekaaGreatDoorMem
import Derived.Test.YthhhbkkelnaekaaGreatDoorMore
import Derived.Test.YthhhbkkelnaekaaGreatDoorTn
set_option linter.all false
set_option maxHeartbeats 8000000
set_option maxRecDepth 10000
namespace Go.Scarf
open Go.RowKit Go.Proofs
section
variable {w w' w0:World} {Ds E:List Nat} {bs_:List (Nat × Obj)} {B pb:Nat} {ls ls':List Str} {fs fs':List Int}
def Y5:Obj→Bool
  | .cells _ e _=>e == 9 || e == 3
  | _=>false
def Jp (w:World) (b:Nat):Bool:=match w.heap[b]? with | some o=>Y5 o | none=>false
def Wk2 (w:World) (B pb:Nat):List Nat:=pb::(List.range w.heap.size).filter fun b=>decide (B≤b) && Jp w b
theorem Bk {x:Nat}:x∈Wk2 w B pb↔x=pb∨(x < w.heap.size∧B≤x∧Jp w x=true):=by simp [Wk2]
theorem To {b:Nat} {o:Obj} (h:w.heap[b]? = some o):Jp w b=Y5 o:=by simp [Jp,h]
def Wu (ls:List Str):List Value:=ls.map fun s=>Value.string (bs s)
def Qr (fs:List Int):List Value:=fs.map fun n=>Value.int .i64 n
theorem SlB.typ {e m n c:Nat} {A:Option Addr} {xs:List Value} {sb:List (Nat × Obj)} (h:SlB e m A n c xs sb):sb.length≤1∧∀ q∈sb,∃ cur,q.2=.cells cur e:=by
  rcases h.2 with ⟨-,-,rfl⟩ | ⟨g,cur,-,rfl,-⟩
  · exact ⟨by simp,fun q hq=>by cases hq⟩
  · exact ⟨by simp,fun q hq=>by simp only [List.mem_singleton] at hq; subst hq; exact ⟨cur,rfl⟩⟩
structure Tb (w:World) (B pb:Nat) (ls:List Str) (fs:List Int):Prop where
  lt:pb < B
  le:B≤w.heap.size
  ex:∃ (A:Option Addr) (c:Nat) (sl:List (Nat × Obj)) (A':Option Addr) (c':Nat) (sf:List (Nat × Obj)),w.heap[pb]? = some (.cells #[.slice A ls.length c,.slice A' fs.length c'] 79) ∧
    SlB 9 1 A ls.length c (Wu ls) sl∧SlB 3 1 A' fs.length c' (Qr fs) sf∧∀ q∈sl++sf,w.heap[q.1]? = some q.2∧B≤q.1
theorem Tb.ltw (h:Tb w B pb ls fs):pb < w.heap.size:=Nat.lt_of_lt_of_le h.lt h.le
theorem Tb.len (h:Tb w B pb ls fs):∃ A c A' c',w.heap[pb]? = some (.cells #[.slice A ls.length c,.slice A' fs.length c'] 79):=by
  obtain ⟨-,-,A,c,sl,A',c',sf,h1,-⟩:=h
  exact ⟨A,c,A',c',h1⟩
theorem Wk2.step {x:Nat} (hs:Same (Wk2 w B pb) w w') (hx:x∈Wk2 w' B pb):x∈Wk2 w B pb∨w.heap.size≤x:=by
  by_cases h:x < w.heap.size
  · by_cases hm : x ∈ Wk2 w B pb
    · exact .inl hm
    · rcases Bk.1 hx with rfl | ⟨h1, h2, h3⟩
      · exact .inl (Bk.2 (.inl O))
      · refine absurd (Bk.2 (.inr ⟨h, h2, ?_⟩)) hm
        rw [Jp,←hs.block x h hm]; exact h3
  · exact .inr U
theorem Tb.same (h:Tb w B pb ls fs) (hs:Same E w w') (hp:pb∉E) (he:∀ x∈E,B≤x→Jp w x=false):Tb w' B pb ls fs:=by
  have hlt:=h.ltw
  obtain ⟨h1,h2,A,c,sl,A',c',sf,h3,h4,h5,h6⟩:=h
  refine ⟨h1,Nat.le_trans h2 hs.size,A,c,sl,A',c',sf,(hs.block pb hlt hp).trans h3,h4,h5,fun q hq=>?_⟩
  obtain ⟨h7,h8⟩:=h6 q hq
  have ht:Jp w q.1=true:=by
    rw [To h7]
    rcases List.mem_append.1 hq with hq | hq
    · obtain ⟨cur,e⟩:=h4.typ.2 q hq; rw [e]; rfl
    · obtain ⟨cur,e⟩:=h5.typ.2 q hq; rw [e]; rfl
  refine ⟨(hs.block q.1 (Ra h7) (fun hm=>?_)).trans h7,h8⟩
  rw [he q.1 hm h8] at ht; cases ht
theorem Tb.ext (h:Tb w B pb ls fs) (hs:Same [] w w'):Tb w' B pb ls fs:=h.same hs Ma Ma
structure TW (w0:World) (Ds:List Nat) (w:World) (B pb:Nat) (ls:List Str) (fs:List Int):Prop where
  tb:Tb w B pb ls fs
  sub:∀ x∈Wk2 w B pb,x < w0.heap.size→x∈Ds
  ge:w0.heap.size≤w.heap.size
theorem TW.start (h:Tb w0 B pb ls fs):TW w0 (Wk2 w0 B pb) w0 B pb ls fs:=⟨h,fun x hx _=>hx,Nat.le_refl _⟩
theorem TW.own (h:Tb w B pb ls fs) (hp:w0.heap.size≤pb) (hg:w0.heap.size≤w.heap.size):TW w0 Ds w B pb ls fs :=
  ⟨h,fun x hx hl=>by
    have:=h.lt
    rcases Bk.1 hx with rfl | ⟨-,h2,-⟩ <;> omega,hg⟩
theorem TW.lt (h:TW w0 Ds w B pb ls fs):pb < w.heap.size:=h.tb.ltw
theorem TW.wrote (h:TW w0 Ds w B pb ls fs) (hb:Tb w' B pb ls' fs') (hs:Same (Wk2 w B pb) w w'):TW w0 Ds w' B pb ls' fs' :=
  ⟨hb,fun x hx hl=>by
    rcases Wk2.step hs hx with h1 | h1
    · exact h.sub x h1 hl
    · have:=h.ge; omega,Nat.le_trans h.ge hs.size⟩
theorem FR.wrote2 (hF:FR w0 Ds bs_ w) (h:TW w0 Ds w B pb ls fs) (hs:Same (Wk2 w B pb) w w') (hb:∀ q∈bs_,(Y5 q.2=false∨q.1 < B)∧q.1≠pb):FR w0 Ds bs_ w' :=
  hF.touch hs fun x hx=>⟨h.sub x hx,fun q hq e=>by
    have h1:=hb q hq
    rcases Bk.1 hx with h2 | ⟨-,h4,h3⟩
    · exact h1.2 (e.trans h2)
    · rcases h1.1 with h5 | h5
      · rw [←e,To (hF.memHeap hq),h5] at h3; cases h3
      · omega⟩
theorem TW.step (h:TW w0 Ds w B pb ls fs) (hs:Same E w w') (hp:pb∉E) (he:∀ x∈E,Jp w x=false) (he':∀ x∈E,Jp w' x=false):TW w0 Ds w' B pb ls fs :=
  ⟨h.tb.same hs hp (fun x hx _=>he x hx),fun x hx hl=>by
    refine h.sub x (Bk.2 ?_) hl
    have hl2:=Nat.lt_of_lt_of_le hl h.ge
    rcases Bk.1 hx with rfl | ⟨-,h2,h3⟩
    · exact .inl O
    · refine .inr ⟨hl2, h2, ?_⟩
      have hn:x∉E:=fun hm=>by rw [he' x hm] at h3; cases h3
      rw [Jp,←hs.block x hl2 hn]; exact h3,Nat.le_trans h.ge hs.size⟩
theorem TW.ext (h:TW w0 Ds w B pb ls fs) (hs:Same [] w w'):TW w0 Ds w' B pb ls fs:=h.step hs Ma Ma Ma
theorem Rep.off2 {d:D} {cs:List Value} (h:Rep (fun x=>x∉Wk2 w B pb) w d cs) (hs:Same (Wk2 w B pb) w w'):Rep (fun x=>x∉Wk2 w' B pb) w' d cs :=
  ((h.old).same hs (fun b hb hn=>hn.1 hb)).weaken fun x hx _ hm=>by
    rcases Wk2.step hs hm with h1 | h1
    · exact hx.1 h1
    · have:=hx.2; omega
theorem Rep.off2_ext {d:D} {cs:List Value} (h:Rep (fun x=>x∉Wk2 w B pb) w d cs) (hs:Same [] w w'):Rep (fun x=>x∉Wk2 w' B pb) w' d cs:=h.off2 (hs.mono Ma)
theorem TW.open_ (h:TW w0 Ds w B pb ls fs) (hF:FR w0 Ds bs_ w) (hb:∀ q∈bs_,(Y5 q.2=false∨q.1 < B)∧q.1≠pb) :
    ∃ (A : Option Addr) (c : Nat) (sl : List (Nat × Obj)) (A' : Option Addr) (c' : Nat) (sf : List (Nat × Obj)), SlB 9 1 A ls.length c (Wu ls) sl ∧ SlB 3 1 A' fs.length c' (Qr fs) sf ∧
      FR w0 Ds ((bs_++[(pb,.cells #[.slice A ls.length c,.slice A' fs.length c'] 79)])++(sl++(sf++[]))) w∧(∀ q∈sl++sf,B≤q.1):=by
  obtain ⟨⟨h1,h2,A,c,sl,A',c',sf,h3,h4,h5,h6⟩,hsub,hge⟩:=h
  refine ⟨A,c,sl,A',c',sf,h4,h5,⟨hF.same,?_,?_⟩,fun q hq=>(h6 q hq).2⟩
  · intro q hq
    simp only [List.append_nil,List.append_assoc,List.mem_append,List.mem_singleton] at hq
    rcases hq with hq | rfl | hq
    · exact hF.own q hq
    · refine ⟨h3, ?_⟩
      by_cases e:w0.heap.size≤pb
      · exact .inl e
      · exact .inr (hsub pb (Bk.2 (.inl O)) U)
    · have hq' : q ∈ sl ++ sf := List.mem_append.2 hq
      obtain ⟨h7,h8⟩:=h6 q hq'
      refine ⟨h7,?_⟩
      by_cases e:w0.heap.size≤q.1
      · exact .inl e
      · refine .inr (hsub q.1 (Bk.2 (.inr ⟨Ra h7, h8, ?_⟩)) U)
        rw [To h7]
        rcases hq with hq | hq
        · obtain ⟨cur,e⟩:=h4.typ.2 q hq; rw [e]; rfl
        · obtain ⟨cur,e⟩:=h5.typ.2 q hq; rw [e]; rfl
  · have one:∀ {l:List (Nat × Obj)},l.length≤1→List.Pairwise (fun p q=>q.1≠p.1) l:=fun {l} hl=>by
      match l,hl with
      | [],_=>exact .nil
      | [x],_=>simp
    have hrow:∀ q∈sl++sf,Y5 q.2=true:=fun q hq=>by
      rcases List.mem_append.1 hq with hq | hq
      · obtain ⟨cur,e⟩:=h4.typ.2 q hq; rw [e]; rfl
      · obtain ⟨cur,e⟩:=h5.typ.2 q hq; rw [e]; rfl
    rw [List.append_nil,List.append_assoc,List.pairwise_append]
    refine ⟨hF.desc,?_,?_⟩
    · rw [List.pairwise_append]
      refine ⟨by simp,?_,?_⟩
      · rw [List.pairwise_append]
        refine ⟨one h4.typ.1,one h5.typ.1,fun q hq r hr e=>?_⟩
        obtain ⟨cu,e1⟩:=h4.typ.2 q hq
        obtain ⟨cv,e2⟩:=h5.typ.2 r hr
        have h7:=(h6 q (by simp [hq])).1
        have h8:=(h6 r (by simp [hr])).1
        rw [←e,h8,e1,e2] at h7
        have:=Option.some.inj h7
        simp at this
      · intro q hq r hr e
        simp only [List.mem_singleton] at hq
        subst hq
        have:=(h6 r hr).2
        simp only at e
        omega
    · intro q hq r hr e
      have hb1:=hb q hq
      rcases List.mem_append.1 hr with hr | hr
      · simp only [List.mem_singleton] at hr
        subst hr
        exact hb1.2 e.symm
      · have h7 := (h6 r hr).1
        have h9:=hrow r hr
        rcases hb1.1 with h10 | h10
        · rw [e, hF.memHeap hq] at h7
          rw [←Option.some.inj h7,h10] at h9
          cases h9
        · have:=(h6 r hr).2; omega
theorem Tb.made {A A':Option Addr} {c c':Nat} {sl sf:List (Nat × Obj)} (hF:FR w0 Ds ((bs_++[(pb,.cells #[.slice A ls.length c,.slice A' fs.length c'] 79)])++(sl++(sf++[]))) w) (hp:pb < B) (hB:B≤w.heap.size)
    (hL:SlB 9 1 A ls.length c (Wu ls) sl) (hN:SlB 3 1 A' fs.length c' (Qr fs) sf) (hq:∀ q∈sl++sf,B≤q.1):Tb w B pb ls fs:=by
  refine ⟨hp,hB,A,c,sl,A',c',sf,hF.memHeap (p:=(pb,_)) Ma,hL,hN,fun q h=>⟨?_,hq q h⟩⟩
  refine hF.memHeap (p:=q) ?_
  rcases List.mem_append.1 h with h | h <;> simp [h]
end
end Go.Scarf
