/- A part of the proof. -/
import Derived.Test.YthhhbkkelnaekaaGreatDoorE7
import Derived.Test.YthhhbkkelnaekaaGreatDoorP1
import Derived.Sort.Walk0
import Derived.Laws.Slices
set_option linter.all false
set_option maxHeartbeats 8000000
set_option maxRecDepth 10000
namespace Go.Scarf
open Go.RowKit Go.Proofs Go.Proofs.Tryz
theorem KG:∀ {ks:List Str} {xs:List Tree} {key:Str},key∈ks→∀ h:ks.idxOf key < xs.length,Zi ks xs key=some (xs[ks.idxOf key]'h)
  | [],_,_,h,_=>absurd h Ma
  | k::ks,[],key,_,h2=>absurd h2 Ma
  | k :: ks, x :: xs, key, h, h2 => by
    rw [Zi]
    by_cases he:k=key
    · have h0 : (k :: ks).idxOf key = 0 := by rw [List.idxOf_cons, he]; simp
      rw [if_pos he]
      simp only [h0,List.getElem_cons_zero]
    · have hb : (k == key) = false := by simpa using he
      have h0:(k::ks).idxOf key=ks.idxOf key+1:=by rw [List.idxOf_cons,hb]; simp
      have hk:key∈ks:=by
        rcases List.mem_cons.1 h with h | h
        · exact absurd h.symm he
        · exact h
      rw [if_neg he,KG hk (by rw [h0] at h2; simpa using h2)]
      simp only [h0,List.getElem_cons_succ]
theorem IS {ks:List Str} {xs:List Tree} {key:Str} {q:Nat} (hl:ks.length=xs.length) (h:HS ks key=(q:Int)):∃ hq:q < xs.length,Zi ks xs key=some xs[q]:=by
  unfold HS at h
  by_cases hm:key∈ks
  · rw [if_pos hm] at h
    have e:ks.idxOf key=q:=by omega
    have hlt:ks.idxOf key < xs.length:=by rw [←hl]; exact List.idxOf_lt_length_iff.2 hm
    have:=KG hm hlt
    subst e
    exact ⟨hlt,this⟩
  · rw [if_neg hm] at h; omega
theorem UX (s:Str) (w0:World):Calls prog 79 #[.string (bs s)] w0 (De fun v w'=>v=.agg #[.int .i64 4,.string (bs s),.slice none 0 0,.slice none 0 0]∧Same [] w0 w'):=by
 refine Ka func79 O ntmps79 Kb (Sc _) ?_
 have hF:=FR.start w0 []
 refine Ia ?_
 refine Fg (cs:=#[.int .i64 0,.string (bs []),.slice none 0 0,.slice none 0 0]) hF zeroValue27 O ?_
 clear hF; rintro b1 w hb1 hF -
 refine Bc (Ca (Qc O) ?_)
 refine Ja (w':=w) (v:=.agg #[.int .i64 4,.string (bs s),.slice none 0 0,.slice none 0 0]) Qb ?_
 refine Ll hF sizeOf27 O O Vm ?_
 clear hF; rintro w hF -
 refine Ea ?_
 refine Ub (Rb (Sa (Bn O (l:=[.int .i64 4,.string (bs s),.slice none 0 0,.slice none 0 0]) O isAgg27 sizeOf27 O (hF.cellsAll 0 O)) ?_))
 exact ⟨O,hF.same⟩
end Go.Scarf
namespace Go.Scarf
open Go.RowKit Go.Proofs Go.Proofs.Tryz
end Go.Scarf
namespace Go.Scarf
open Go.RowKit Go.Proofs Go.Maps
theorem At (a b:Str):Lr a b=decide (a < b):=bytesLess_eq a b
theorem XN (ks:List Str):(Lg ks).Pairwise (fun a b=>leB a b=true):=by
  have tr:∀ a b c:List UInt8,leB a b=true→leB b c=true→leB a c=true:=fun a b c h1 h2=>by simp only [leB,decide_eq_true_eq] at *; exact List.le_trans h1 h2
  have tt:∀ a b:List UInt8,(leB a b || leB b a)=true:=fun a b=>by simp only [leB,Bool.or_eq_true,decide_eq_true_eq]; exact List.le_total a b
  exact List.pairwise_mergeSort tr tt ks
theorem QI {a b:Str} (h:Lr a b=false):b≤a:=by
  rw [At,decide_eq_false_iff_not] at h
  exact List.not_lt.1 h
theorem GQ {ks l:List Str} {j m:Nat} (hp:l.Perm ((Lg ks).drop j)) (hm:m < l.length) (hmin:∀ q (h:q < l.length),Lr l[q] l[m]=false):∃ h:j < (Lg ks).length,l[m]=(Lg ks)[j]:=by
  have hl:=hp.length_eq
  have hj:j < (Lg ks).length:=by
    rcases Nat.lt_or_ge j (Lg ks).length with h | h
    · exact h
    · rw [List.drop_eq_nil_of_le h,List.length_nil] at hl; omega
  refine ⟨hj,?_⟩
  rw [List.drop_eq_getElem_cons hj] at hp
  have hpw:((Lg ks).drop j).Pairwise (fun a b=>leB a b=true):=(XN ks).sublist (List.drop_sublist j _)
  rw [List.drop_eq_getElem_cons hj,List.pairwise_cons] at hpw
  have h1:l[m]∈(Lg ks)[j]::(Lg ks).drop (j+1):=hp.mem_iff.1 (List.getElem_mem hm)
  have h2:(Lg ks)[j]∈l:=hp.mem_iff.2 List.mem_cons_self
  obtain ⟨q,hq,e⟩:=List.mem_iff_getElem.1 h2
  have h3:=QI (hmin q hq)
  rw [e] at h3
  rcases List.mem_cons.1 h1 with h | h
  · exact h
  · have h4 := hpw.1 _ h
    simp only [leB,decide_eq_true_eq] at h4
    exact List.le_antisymm h3 h4
theorem MF {ks l:List Str} {j m:Nat} (hp:l.Perm ((Lg ks).drop j)) (hm:m < l.length) (hj:j < (Lg ks).length) (he:l[m]=(Lg ks)[j]):(l.eraseIdx m).Perm ((Lg ks).drop (j+1)):=by
  rw [List.drop_eq_getElem_cons hj] at hp
  have h1:(l[m]::l.eraseIdx m).Perm l:=Cs l m (List.getElem?_eq_getElem hm)
  rw [he] at h1
  exact (h1.trans hp).cons_inv
theorem LO {l:List Str} {m i:Nat} (hm:m < l.length) (hi:i < l.length) (hmin:∀ q (h:q < l.length),q < i→Lr l[q] l[m]=false) (hc:Lr l[i] l[m]=false):∀ q (h:q < l.length),q < i+1→Lr l[q] l[m]=false:=by
  intro q hq h
  rcases Nat.lt_or_ge q i with h1 | h1
  · exact hmin q hq h1
  · obtain rfl : q = i := by omega
    exact hc
theorem GS {l:List Str} {m i:Nat} (hm:m < l.length) (hi:i < l.length) (hmin:∀ q (h:q < l.length),q < i→Lr l[q] l[m]=false) (hc:Lr l[i] l[m]=true):∀ q (h:q < l.length),q < i+1→Lr l[q] l[i]=false:=by
  intro q hq h
  rw [At,decide_eq_true_eq] at hc
  rw [At,decide_eq_false_iff_not]
  intro h2
  rcases Nat.lt_or_ge q i with h1 | h1
  · have h3 := hmin q hq h1
    rw [At,decide_eq_false_iff_not] at h3
    exact h3 (List.lt_trans h2 hc)
  · obtain rfl : q = i := by omega
    exact List.lt_irrefl _ h2
section
variable {P:Program} {w0 w:World} {Ds ids:List Nat}
theorem FR.noseg {bs sb:List (Nat × Obj)} (h:FR w0 Ds (bs++(sb++[])) w):FR w0 Ds bs w:=h.sub (List.sublist_append_left _ _)
theorem JK {e n c:Nat} {A:Option Addr} {bs sb:List (Nat × Obj)} {es:List Value} {ks:List Str} {S:Nat→Prop} {wx:World} (hF:FR w0 [] (bs++(sb++[])) w) (hS:SlB e 1 A n c es sb) (hr:RepL S wx (ks.map Wp) es) (hn:ks.length=n) :
    RX w0 (bs.map (·.1)) w [Hf ks] [.slice A n c]:=by
  refine .one (hS.repOf (fun p hp=>?_) hr.lits (by simpa using hn))
  have h1:=hF.own p (by simp [hp])
  have h2:∃ cur,p=(p.1,.cells cur e):=by
    rcases hS.2 with ⟨-,-,rfl⟩ | ⟨g,cur,-,rfl,-⟩
    · cases hp
    · simp only [List.mem_singleton] at hp; subst hp; exact ⟨cur,rfl⟩
  obtain ⟨cur,h2⟩:=h2
  refine ⟨h1.1,?_,Ra h1.1,fun hm=>?_,?_⟩
  · rcases h1.2 with h3 | h3
    · exact h3
    · cases h3
  · obtain ⟨q, hq, e1⟩ := List.mem_map.1 hm
    have:=(List.pairwise_append.1 hF.desc).2.2 q hq p (by simp [hp])
    exact this e1.symm
  · rw [h2] at h1; exact ⟨cur,e,h1.1⟩
theorem Ni {l:List Str} {A:Option Addr} {ad:Addr} {n c:Nat} (h:RX w0 ids w [Hf l] [.slice A n c]) (hA:A=some ad):∀ q (hq:q < l.length),w.cell? (ad.add (q * 1))=some (.string (bs l[q])):=fun q hq=>by
  obtain ⟨ad',hA',hc,-⟩:=h.rep.str_elem hq
  rw [hA] at hA'
  obtain rfl:=Option.some.inj hA'
  exact hc
theorem Ny {l:List Str} {A:Option Addr} {n c:Nat} (h:RX w0 ids w [Hf l] [.slice A n c]) (hl:0 < l.length):∃ ad,A=some ad:=by
  obtain ⟨ad,hA,-⟩:=h.rep.str_elem hl
  exact ⟨ad,hA⟩
theorem V9 {t e:TypeId} (h:P.underlying t=some (.slice e)):P.elem t=e:=by unfold Program.elem; rw [h]
theorem VK {ρ:Operand→Value} {dst:Option Nat} {ty:TypeId} {pos:String} {aft:Array Edge} {g:Option (Nat × Bool)} {t e sz:Nat} {x y z:Operand} {A:Option Addr} {n c:Nat} {k k2:IntKind} (m:Nat) (ht:Vk P t e sz) (hx:ρ x=.slice A n c) (hy:ρ y=.int k (m:Int)) (hz:ρ z=.int k2 (m:Int)) (hm:m≤c) :
    (execOp ρ ⟨dst,.slice t x none (some y) (some z),ty,pos,aft,g⟩).run P w=.ok (.value (.slice A m m)) w:=by
  have he:=V9 ht.1
  have ht':P.underlying t=some (.slice (P.elem t)):=by rw [he]; exact ht.1
  have h:=run_slice_hm (P:=P) w t A n c ht' k k2 m m U U U
  have hs:(sizeOf (P.elem t)).run P w=.ok sz w:=by rw [he]; exact ht.2 w
  rw [hs] at h
  have e1:sliced A 0 (m:Int).toNat (m:Int).toNat sz=.slice A m m:=by
    unfold sliced
    simp only [Int.toNat_natCast,Nat.zero_mul,Nat.sub_zero]
    split
    · rfl
    · cases A <;> simp [Vl]
  simp only [execOp,Option.map_none,Option.map_some,hx,hy,hz,run_sliceAt_slice w t _ _ _ _ ht',Sem.run_bind,h,Result.andThen,e1]
  rfl
theorem RK {ρ:Operand→Value} {dst:Option Nat} {ty:TypeId} {pos:String} {aft:Array Edge} {g:Option (Nat × Bool)} {t e sz:Nat} {x y:Operand} {A:Option Addr} {n c:Nat} {k:IntKind} (m:Nat) (ht:Vk P t e sz) (hx:ρ x=.slice A n c) (hy:ρ y=.int k (m:Int)) (hm:m≤n) :
    (execOp ρ ⟨dst,.slice t x (some y) none none,ty,pos,aft,g⟩).run P w=.ok (.value (.slice (if c=m then A else A.map (·.add (m * sz))) (n - m) (c - m))) w:=by
  have he:=V9 ht.1
  have ht':P.underlying t=some (.slice (P.elem t)):=by rw [he]; exact ht.1
  have h:=run_slice_l (P:=P) w t A n c ht' k m U U
  have hs:(sizeOf (P.elem t)).run P w=.ok sz w:=by rw [he]; exact ht.2 w
  rw [hs] at h
  simp only [execOp,Option.map_none,Option.map_some,hx,hy,run_sliceAt_slice w t _ _ _ _ ht',Sem.run_bind,h,Result.andThen,sliced,Int.toNat_natCast]
  rfl
theorem Y_ {α:Type} (l:List α) (m:Nat):l.eraseIdx m=l.take m++l.drop (m+1):=List.eraseIdx_eq_take_drop_succ l m
theorem SA {t ty e bytes:Nat} {l:List Str} {A:Option Addr} {n c m:Nat} (hE:Elems P t e 1 bytes) (hL:RX w0 ids w [Hf l] [.slice A n c]) (hm:m < n) (hids:∀ b∈ids,b < w.heap.size) (hw:w0.heap.size≤w.heap.size) (h63:n≤4611686018427387904) (hb:n * bytes≤140737488355328) :
    ∃ A' c' w',(Builtin.append_ #[t,t] ty #[.slice A m m,.slice (if c=m+1 then A else A.map (·.add ((m+1) * 1))) (n - (m+1)) (c - (m+1))]).run P w=.ok (.slice A' (n - 1) c') w'∧RX w0 ids w' [Hf (l.eraseIdx m)] [.slice A' (n - 1) c']∧Same [] w w':=by
  have hn:n=l.length:=by have:=hL.rep.slice_len; simpa using this.1
  have hcap:=hL.rep.slice_len.2
  obtain ⟨ad,hA⟩:=Ny hL U
  subst hA
  have hc:=Ni hL rfl
  have hlen:(l.eraseIdx m).length=n - 1:=by rw [List.length_eraseIdx]; split <;> omega
  obtain ⟨i,z,hi,hz,h2,h3,h4⟩:=hE.info
  have hlits:∀ (S:Nat→Prop) (wx:World) (q:List Str),(∀ s∈q,s.length≤9223372036854775807)→RepL S wx (q.map Wp) (q.map fun s=>Value.string (bs s)):=by
    intro S wx q
    induction q with
    | nil=>exact fun _=>RepL.nil_mk
    | cons s q ih=>exact fun h=>RepL.cons_mk (Rep.lit_mk (v:=.string (bs s)) (h s Ma)) (ih fun x hx=>h x (by simp [hx]))
  have hls:∀ s∈l,s.length≤9223372036854775807:=by
    intro s hs
    obtain ⟨q,hq,rfl⟩:=List.mem_iff_getElem.1 hs
    obtain ⟨_,_,_,h⟩:=hL.rep.str_elem hq
    exact h
  by_cases hk:n=m+1
  ·
    refine ⟨some ad,m,w,?_,?_,Same.refl _ _⟩
    · have hz0 : n - (m + 1) = 0 := by omega
      rw [hz0,show n - 1=m by omega]
      have hf:∀ A2 c2,(Builtin.firstCells i.size 0 (.slice A2 0 c2)).run P w=.ok #[] w:=by
        intro A2 c2
        cases A2 <;> simp [Builtin.firstCells,loadCells,loadCellsFrom]
      simp [Builtin.append_,run_underlying hE.ht,sizeOf,typeInfo,hi,Builtin.lenOf,hf,storeCells]
    · have e1 : l.eraseIdx m = l.take m := by rw [Y_, List.drop_eq_nil_of_le U, List.append_nil]
      rw [e1,show n - 1=m by omega]
      refine .one (Rep.slice_mk (by simp; omega) (Nat.le_refl _) U fun hne=>?_)
      obtain ⟨A',c',hA',_,_,h6⟩:=Rep.slice_inv hL.rep
      simp only [List.cons.injEq,Value.slice.injEq,and_true] at hA'
      obtain ⟨rfl,_,_⟩:=hA'
      obtain ⟨ad',hA2,es,hce,hre⟩:=h6 (by intro e; have:=congrArg List.length e; rw [List.length_map,List.length_nil] at this; omega)
      obtain rfl:=Option.some.inj hA2
      have h0:0 < es.length:=by
        rcases Nat.eq_zero_or_pos es.length with h | h
        · have : es = [] := List.eq_nil_of_length_eq_zero h
          subst this
          have h7:=hre.length
          have hz:∀ q:List Str,Vf.sizeL (q.map Wp)=q.length:=by
            intro q
            induction q with
            | nil=>rfl
            | cons a q ih=>rw [List.map_cons,Vf.sizeL,ih,List.length_cons]; simp [Wp,Vf]; omega
          rw [hz] at h7; simp at h7; omega
        · exact h
      refine ⟨ad,O,(l.take m).map (fun s=>Value.string (bs s)),fun q hq=>⟨?_,(hce 0 h0).2⟩,hlits _ _ _ fun s hs=>hls s (List.mem_of_mem_take hs)⟩
      have hq':q < l.length:=by simp at hq; omega
      have:=hc q hq'
      rw [Nat.mul_one] at this
      rw [this]
      simp
  ·
    have hcm:¬c=m+1:=by omega
    have hold:∀ j v,((l.take m).map (fun s=>Value.string (bs s)))[j]? = some v→w.cell? (ad.add j)=some v:=by
      intro j v hj
      rw [List.getElem?_map] at hj
      cases hg:(l.take m)[j]? with
      | none=>rw [hg] at hj; cases hj
      | some s =>
        rw [hg] at hj
        obtain ⟨hj1,hj2⟩:=List.getElem?_eq_some_iff.1 hg
        have hq:j < l.length:=by simp at hj1; omega
        have h8:=hc j hq
        rw [Nat.mul_one] at h8
        rw [h8]
        have:s=l[j]:=by rw [←hj2]; simp
        simp only [Option.map_some,Option.some.injEq] at hj
        rw [←hj,this]
    have hnew:∀ j v,((l.drop (m+1)).map (fun s=>Value.string (bs s)))[j]? = some v→w.cell? ((ad.add ((m+1) * 1)).add j)=some v:=by
      intro j v hj
      rw [List.getElem?_map] at hj
      cases hg:(l.drop (m+1))[j]? with
      | none=>rw [hg] at hj; cases hj
      | some s =>
        rw [hg] at hj
        obtain ⟨hj1,hj2⟩:=List.getElem?_eq_some_iff.1 hg
        have hq:m+1+j < l.length:=by simp at hj1; omega
        have h8:=hc (m+1+j) hq
        rw [Nat.mul_one] at h8
        rw [Ur,Nat.mul_one,h8]
        have:s=l[m+1+j]:=by rw [←hj2]; simp
        simp only [Option.map_some,Option.some.injEq] at hj
        rw [←hj,this]
    have hr:=run_append_grow (P:=P) w t ty e i z hE.ht hi hz ad m m ((l.take m).map fun s=>Value.string (bs s)) (by rw [h2]; simp; omega) hold (ad.add ((m+1) * 1)) (n - (m+1)) (c - (m+1)) ((l.drop (m+1)).map fun s=>Value.string (bs s)) (by rw [h2]; simp; omega) hnew U U
      (growslice_fits U (by rw [h3]; exact Nat.le_trans (Nat.mul_le_mul_right _ U) hb))
    rw [if_neg hcm]
    simp only [Option.map_some]
    have en:m+(n - (m+1))=n - 1:=by omega
    rw [en] at hr
    have hsm:=(Same.drew w).trans (Same.alloc w.drew (.cells (((l.take m).map fun s=>Value.string (bs s)).toArray++((l.drop (m+1)).map fun s=>Value.string (bs s)).toArray++Builtin.zeroCells z.cells (grownCap w (n - 1) m e - (n - 1))) e))
    refine ⟨_,_,_,hr,?_,hsm⟩
    have hge:=grownCap_ge w (n - 1) m e
    have hcm2:grownCap w (n - 1) m e≤maxLen:=grownCap_le_maxLen w (n - 1) m e (by simp only [maxLen]; omega)
    simp only [maxLen] at hcm2
    refine .one (Rep.slice_mk (by simp [hlen]) hge U fun _=>?_)
    have hhe:=heap_alloc_new w.drew (.cells (((l.take m).map fun s=>Value.string (bs s)).toArray++((l.drop (m+1)).map fun s=>Value.string (bs s)).toArray++Builtin.zeroCells z.cells (grownCap w (n - 1) m e - (n - 1))) e)
    refine ⟨_,O,(l.eraseIdx m).map (fun s=>Value.string (bs s)),fun q hq=>⟨?_,?_⟩,hlits _ _ _ fun s hs=>hls s (List.mem_of_mem_eraseIdx hs)⟩
    · rw [Kk, Nat.zero_add, cell_of_row _ w.heap.size q _ e (0, 0) hhe]
      have hx:((l.eraseIdx m).map fun s=>Value.string (bs s))=((l.take m).map fun s=>Value.string (bs s))++((l.drop (m+1)).map fun s=>Value.string (bs s)):=by rw [Y_,List.map_append]
      rw [←List.getElem?_eq_getElem hq,hx]
      rw [hx] at hq
      rw [Array.getElem?_append_left (by simp at hq ⊢; omega)]
      simp
    · refine ⟨by show w0.heap.size ≤ w.heap.size; exact hw, by show w.heap.size < _; exact Ra hhe, fun hm => ?_, ⟨_, e, hhe⟩⟩
      have:=hids _ hm
      exact absurd this (by show ¬w.heap.size < w.heap.size; omega)
end
end Go.Scarf
