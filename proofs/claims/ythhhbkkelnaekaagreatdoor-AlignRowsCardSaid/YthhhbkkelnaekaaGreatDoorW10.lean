/- A part of the proof. -/
import Derived.Test.YthhhbkkelnaekaaGreatDoorW4
set_option linter.all false
set_option maxHeartbeats 8000000
set_option maxRecDepth 10000
namespace Go.Scarf
open Go.RowKit Go.Proofs Go.Proofs.Tryz
def MapRep (S:Nat→Prop) (w:World) (xs:List Tree) (l:MapL):Prop:=∀ i (h:i < l.length),∃ cs:List Value,l[i].2=.agg cs.toArray∧∃ h2:i < xs.length,Rep S w (Vc xs[i]) cs
theorem MapRep.nil (S:Nat→Prop) (w:World) (xs:List Tree):MapRep S w xs []:=fun i h=>absurd h Ma
theorem MapRep.snoc {S:Nat→Prop} {w:World} {xs:List Tree} {l:MapL} {k:Str} {cs:List Value} (h:MapRep S w xs l) (hl:l.length < xs.length) (hr:Rep S w (Vc xs[l.length]) cs):MapRep S w xs (l++[(k,.agg cs.toArray)]):=by
  intro i hi
  rw [List.length_append,List.length_singleton] at hi
  by_cases he:i < l.length
  · obtain ⟨c, h1, h2, h3⟩ := h i he
    exact ⟨c,by rw [List.getElem_append_left he]; exact h1,h2,h3⟩
  · obtain rfl : i = l.length := by omega
    exact ⟨cs,by simp,hl,hr⟩
theorem ZE {l:MapL} {ks:List Str} {j:Nat} (h:j < ks.length) (hl:l.map (·.1)=ks.take j) (hn:ks.Nodup):Lk l ks[j]=none:=by
  have hnot:¬ks[j]∈ks.take j:=fun hm=>Xr h hm hn
  rw [←hl] at hnot
  unfold Lk
  rw [Option.map_eq_none_iff,List.find?_eq_none]
  intro x hx he
  exact hnot (List.mem_map.2 ⟨x,hx,by simpa using he⟩)
theorem HJ {l:MapL} {ks:List Str} {j:Nat} {v:Value} (h:j < ks.length) (hl:l.map (·.1)=ks.take j):(l++[(ks[j],v)]).map (·.1)=ks.take (j+1):=by
  rw [List.map_append,hl,List.take_succ_eq_append_getElem h]; rfl
theorem IP {l:MapL} {ks:List Str} {j:Nat} (h:j≤ks.length) (hl:l.map (·.1)=ks.take j):l.length=j:=by
  have:=congrArg List.length hl
  rw [List.length_map,List.length_take] at this; omega
theorem EK (k:Int) (t:Str) (ks:List Str) (xs:List Tree) (hn:ks.Nodup) (hlen:ks.length=xs.length) (S:Nat→Prop) (w0:World) (cs:List Value) (hR:Rep S w0 (Vc (.node k t ks xs)) cs):Calls prog 97 #[.agg cs.toArray] w0 (De fun v w'=>∃ (b:Nat) (l:MapL),v=.map (some b)∧w0.heap.size≤b∧w'.heap[b]? = some (Nn l)∧l.map (·.1)=ks∧MapRep S w' xs l∧Same [] w0 w'):=by
 obtain ⟨A,c,B,e,rfl,-,-,hK,hX⟩:=hR.tree_inv
 have hXl:=hX.slice_len
 have hKl:=hK.slice_len
 refine Ka func97 O ntmps97 Kb (Sc _) ?_
 have hF:=FR.start w0 []
 refine Ia ?_
 refine Bh hF O ?_
 clear hF; rintro b1 w hb1 hF -
 refine Ca (S1) (Bc (Ca (Ec Af O) (Tc (Mf isAgg25 O hF.F 0 O O) (Ca (Df underlying25 O) ?_))))
 refine St (v:=fun b=>.map (some b)) hF (S6 underlying127 O) ?_
 clear hF; rintro b2 w hb2 hF -
 refine Ca (S1) (Ea (Ha (Ia (Ca (Ec Af O) (Tc (Mf isAgg25 O hF.F 1 O O) (Ca (Df underlying25 O) (Ca (Va O) (Ea (Ta ?_)))))))))
 refine Lc (fun μ σ w=>∃ (j:Nat),∃ (l:MapL),μ=ks.length - j∧(j≤ks.length)∧(l.map (·.1)=ks.take j)∧(MapRep S w0 xs l)∧AllEq σ [(1,.pointer (some ⟨b1,0,none⟩)),(3,.map (some b2)),(11,.slice A ks.length c),(12,.int .i64 ((ks.length:Nat))),(13,.int .i64 ((j:Int)))]∧FR w0 [] [(b2,Nn (l)),(b1,.cells #[.int .i64 k,.string (bs t),.slice A ks.length c,.slice B xs.length e] 27)] w) _ ⟨0,[],O,(Nat.zero_le _),Ma,(MapRep.nil _ _ _),Am,hF⟩ ?_
 clear hF; rintro μ σ w ⟨j,l,rfl,hj,hl,hr,hs,hF⟩
 refine Cg.slots hs ?_
 clear hs; intro σ
 have hll:=IP hj hl
 refine Ia (Ca (Yg O O) (Ea (Ha ?_)))
 refine Yb O O (fun hc0=>?_) (fun hc0=>?_)
 refine Qa (Ga (Ha (Ta (Ia (Ca (Va O) ?_)))))
 obtain ⟨ad0,hA0,hk0,hx0⟩:=hK.str_elem (i:=j) U
 refine Ja (v:=.pointer (some (ad0.add (j * 1)))) (Pa (i:=(j:Int)) Gk O hA0 O U U) (Ja (v:=.string (bs (ks[j]))) (Ya isAgg9 O (hF.cell0 hk0)) (Ca (Wb O) (Ca (Rd O) (Ea (Fa (Ca (XC) (Ca (Qc O) (Ca (Ec Pc O) (Tc (Mf isAgg22 O hF.F 1 O O) (Ca (Va O) ?_))))))))))
 obtain ⟨ad1,cs1,hA1,hl1,hk1,hx1⟩:=hX.tree_elem (i:=j) U
 have ho1:=hx1.one_
 refine Ja (v:=.pointer (some (ad1.add (j * 4)))) (Pa (i:=(j:Int)) Mg O hA1 O U U) (Ja (v:=.agg (List.toArray cs1)) (Fc (l:=cs1) isAgg27 sizeOf27 O hl1 (hF.cells0 hk1)) ?_)
 refine Zz 0 (v:=.agg (List.toArray cs1)) hF underlying127 underlying9 O O O O (ZE U hl hn) ?_
 clear hF; rintro w hF -
 replace hF:FR w0 [] [(b2,Nn (l++[(ks[j],.agg (List.toArray cs1))])),(b1,.cells #[.int .i64 k,.string (bs t),.slice A ks.length c,.slice B xs.length e] 27)] w:=hF
 refine Xa (Eb (Ga (Fa (Ca (Sl O O) (Ca (Va O) (Xa ?_))))))
 refine Ib ⟨_,?_,j+1,l++[(ks[j],.agg (List.toArray cs1))],O,U,(HJ U hl),(hr.snoc U (by simpa only [hll] using hx1)),Am,hF⟩
 omega
 refine Dc (Cc O ?_)
 refine Ga (Ia (Ca (XC) (Ca (S1) (Ea ?_))))
 refine Td (v:=.map (some b2)) O O ?_
 refine ⟨b2,l,O,by have:=hF.ge (i:=0) O; exact this,hF.heap (i:=0) O,?_,?_,hF.same⟩
 rw [hl]; exact List.take_of_length_le U
 intro i hi; obtain ⟨cs,h1,h2,h3⟩:=hr i hi; exact ⟨cs,h1,h2,hF.rep h3⟩
end Go.Scarf
namespace Go.Scarf
open Go.RowKit Go.Proofs Go.Proofs.Tryz
def Zi:List Str→List Tree→Str→Option Tree
  | k::ks,x::xs,key=>if k=key then some x else Zi ks xs key
  | _,_,_=>none
theorem MapRep.tail {S:Nat→Prop} {w:World} {x:Tree} {xs:List Tree} {p:Str × Value} {l:MapL} (h:MapRep S w (x::xs) (p::l)):MapRep S w xs l:=by
  intro i hi
  obtain ⟨cs,h1,h2,h3⟩:=h (i+1) (by simpa using hi)
  exact ⟨cs,by simpa using h1,by simpa using h2,by simpa using h3⟩
theorem V3 {S:Nat→Prop} {w:World} (key:Str):∀ {ks:List Str} {xs:List Tree} {l:MapL},l.map (·.1)=ks→MapRep S w xs l →
    (Lk l key=none∧Zi ks xs key=none)∨∃ (cs:List Value) (y:Tree),Lk l key=some (.agg cs.toArray)∧Zi ks xs key=some y∧y∈xs∧Rep S w (Vc y) cs
  | ks, xs, [], hk, _ => by
    left
    simp only [List.map_nil] at hk
    subst hk
    exact ⟨O,by cases xs <;> rfl⟩
  | ks, [], p :: l, hk, hm => by
    obtain ⟨cs,h1,h2,h3⟩:=hm 0 Ma
    simp at h2
  | ks, x :: xs, p :: l, hk, hm => by
    rw [List.map_cons] at hk
    subst hk
    by_cases h:p.1=key
    · right
      obtain ⟨cs,h1,h2,h3⟩:=hm 0 Ma
      refine ⟨cs,x,?_,by simp [Zi,h],by simp,h3⟩
      simp only [List.getElem_cons_zero] at h1
      simp [Lk,h,h1]
    · have e1 : Lk (p :: l) key = Lk l key := by simp [Lk, h]
      have e2:Zi (p.1::l.map (·.1)) (x::xs) key=Zi (l.map (·.1)) xs key:=by simp [Zi,h]
      rw [e1,e2]
      rcases V3 key rfl hm.tail with h | ⟨cs,y,h1,h2,h3,h4⟩
      · exact .inl h
      · exact .inr ⟨cs,y,h1,h2,by simp [h3],h4⟩
def BothC (w0:World) (g:Nat) (xs ys:List Tree) (q:Tree→Tree→Bool):Prop:=∀ x,x∈xs→∀ y,y∈ys→∀ S S' w cs ct,Same [] w0 w→Rep S w (Vc x) cs→Rep S' w (Vc y) ct→Calls prog g #[.agg cs.toArray,.agg ct.toArray] w (De fun v w'=>v=.bool (q x y)∧Same [] w w')
theorem BothC.ext {w0 w:World} {g:Nat} {xs ys:List Tree} {q:Tree→Tree→Bool} (h:BothC w0 g xs ys q) (hs:Same [] w0 w):BothC w g xs ys q:=fun x hx y hy S S' w' cs ct hw=>h x hx y hy S S' w' cs ct (hs.trans hw)
end Go.Scarf
namespace Go.Scarf
open Go.RowKit Go.Proofs Go.Proofs.Tryz
theorem MapRep.ext {S:Nat→Prop} {w w':World} {xs:List Tree} {l:MapL} (h:MapRep S w xs l) (hs:Same [] w w'):MapRep S w' xs l:=fun i hi=>by
  obtain ⟨cs,h1,h2,h3⟩:=h i hi
  exact ⟨cs,h1,h2,h3.ext hs⟩
theorem Same.heap {w w':World} {b:Nat} {o:Obj} (hs:Same [] w w') (h:w.heap[b]? = some o):w'.heap[b]? = some o:=(hs.block b (Ra h) Ma).trans h
theorem R6 {q:Tree→Bool}:∀ {xs:List Tree},Tq q xs=true→∀ x∈xs,Fe q x=true
  | [],_,_,h=>absurd h Ma
  | y :: ys, h, x, hx => by
    rw [Tq,Bool.and_eq_true] at h
    rcases List.mem_cons.1 hx with rfl | hx
    · exact h.1
    · exact R6 h.2 x hx
theorem Kg {q:Tree→Bool} {k:Int} {t:Str} {ks:List Str} {xs:List Tree} (h:Fe q (.node k t ks xs)=true):q (.node k t ks xs)=true∧∀ x∈xs,Fe q x=true:=by
  rw [Fe,Bool.and_eq_true] at h
  exact ⟨h.1,R6 h.2⟩
theorem Us {t:Str} {ks:List Str} {xs:List Tree} (h:nodeB (.node 6 t ks xs)=true):ks.Nodup∧ks.length=xs.length:=by
  simp only [nodeB,Tm] at h
  simp at h
  exact ⟨h.1.1.1,by omega⟩
end Go.Scarf
namespace Go.Scarf
open Go.RowKit Go.Proofs Go.Proofs.Tryz
def BothI (w0:World) (g:Nat) (xs ys:List Tree) (q:Tree→Tree→Int):Prop:=∀ x,x∈xs→∀ y,y∈ys→∀ S S' w cs ct,Same [] w0 w→Rep S w (Vc x) cs→Rep S' w (Vc y) ct→Calls prog g #[.agg cs.toArray,.agg ct.toArray] w (De fun v w'=>v=.int .i64 (q x y)∧Same [] w w')
theorem BothI.ext {w0 w:World} {g:Nat} {xs ys:List Tree} {q:Tree→Tree→Int} (h:BothI w0 g xs ys q) (hs:Same [] w0 w):BothI w g xs ys q:=fun x hx y hy S S' w' cs ct hw=>h x hx y hy S S' w' cs ct (hs.trans hw)
end Go.Scarf
namespace Go.Scarf
open Go.RowKit Go.Proofs Go.Proofs.Tryz
end Go.Scarf
namespace Go.Scarf
open Go.RowKit Go.Proofs Go.Proofs.Tryz
theorem Np {x:Tree} (h:Tj x=true):Fe nodeB x=true:=by unfold Tj at h; rw [Bool.and_eq_true] at h; exact h.2
theorem of_c (s:Str) (w0:World):Calls prog 69 #[.string (bs s)] w0 (De fun v w'=>v=.agg #[.int .i64 4,.string (bs s),.slice none 0 0,.slice none 0 0]∧Same [] w0 w'):=by
 refine Ka func69 O ntmps69 Kb (Sc _) ?_
 have hF:=FR.start w0 []
 refine Ia ?_
 refine Fg (cs:=#[.int .i64 0,.string (bs []),.slice none 0 0,.slice none 0 0]) hF zeroValue27 O ?_
 clear hF; rintro b1 w hb1 hF -
 refine Bc (Ca (Qc O) ?_)
 refine Ja (w':=w) (v:=.agg #[.int .i64 4,.string (bs s),.slice none 0 0,.slice none 0 0]) Qb ?_
 refine Ll hF sizeOf27 O O Vm ?_
 clear hF; rintro w hF -
 refine Ea ?_
 refine Ub (Rb (Sa (Bn O (l:=[.int .i64 4,.string (bs s),.slice none 0 0,.slice none 0 0]) O isAgg27 sizeOf27 O (hF.cellsAll 0 O)) ?_))
 exact ⟨O,hF.same⟩
theorem LC (n:Int) (h1:-9223372036854775808≤n) (h2:n≤9223372036854775807) (w0:World) (hG:Gl w0):Calls prog 11 #[.int .i64 n] w0 (De fun v w'=>v=.agg #[.int .i64 3,.string (bs (Km (TT n))),.slice none 0 0,.slice none 0 0]∧Same [] w0 w'):=by
 refine Ka func11 O ntmps11 Kb (Sc _) ?_
 have hF:=FR.start w0 []
 refine Ia ?_
 refine Fg (cs:=#[.int .i64 0,.string (bs []),.slice none 0 0,.slice none 0 0]) hF zeroValue27 O ?_
 clear hF; rintro b1 w hb1 hF -
 refine Bc (Ca (Va O) ?_)
 refine Jb hF (LS n h1 h2 _ (hG.ext hF.same)) (Cb ZZ O O) ?_
 clear hF; intro w hF
 refine Jb hF (VP (TT n) (by have:=Hp (Lib.itoa n); exact Nat.le_trans this Ua) _ (hG.ext hF.same)) (Cb IT O O) ?_
 clear hF; intro w hF
 refine Ja (w':=w) (v:=.agg #[.int .i64 3,.string (bs (Km (TT n))),.slice none 0 0,.slice none 0 0]) Qb ?_
 refine Ll hF sizeOf27 O O Vm ?_
 clear hF; rintro w hF -
 refine Ea ?_
 refine Ub (Rb (Sa (Bn O (l:=[.int .i64 3,.string (bs (Km (TT n))),.slice none 0 0,.slice none 0 0]) O isAgg27 sizeOf27 O (hF.cellsAll 0 O)) ?_))
 exact ⟨O,hF.same⟩
end Go.Scarf
