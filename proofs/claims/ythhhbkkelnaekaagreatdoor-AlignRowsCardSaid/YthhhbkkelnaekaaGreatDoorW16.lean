/- A part of the proof. -/
import Derived.Test.YthhhbkkelnaekaaGreatDoorW10
import Derived.Test.YthhhbkkelnaekaaGreatDoorFacts
import Derived.Test.YthhhbkkelnaekaaGreatDoorMore
import Derived.Test.YthhhbkkelnaekaaGreatDoorIter
set_option linter.all false
set_option maxHeartbeats 8000000
set_option maxRecDepth 10000
namespace Go.Scarf
open Go.RowKit Go.Proofs Go.Proofs.Tryz
mutual
def Vn:Tree→Nat | .node _ _ ks xs=>ks.length+Pm xs
def Pm:List Tree→Nat | []=>0 | x::xs=>Vn x+Pm xs
end
theorem M2:∀ {xs:List Tree} {x:Tree},x∈xs→Vn x≤Pm xs
  | [],_,h=>absurd h Ma
  | y :: ys, x, h => by
    rw [Pm]
    rcases List.mem_cons.1 h with rfl | h
    · omega
    · have:=M2 h; omega
theorem Gq {xs:List Tree} {j:Nat} (h:j < xs.length):Wc (xs.take (j+1))=Wc (xs.take j)++[Vc xs[j]]:=by
  rw [List.take_succ_eq_append_getElem h,Rh,Rh,List.map_append]; rfl
theorem RepL.lits {S S':Nat→Prop} {w w':World}:∀ {ks:List Str} {cs:List Value},RepL S w (ks.map Wp) cs→RepL S' w' (ks.map Wp) cs
  | [],cs,h=>by have:=RepL.nil_inv h; subst this; exact RepL.nil_mk
  | k :: ks, cs, h => by
    obtain ⟨c1,c2,rfl,h1,h2⟩:=RepL.cons_inv h
    obtain ⟨rfl,h3⟩:=Rep.lit_inv h1
    exact RepL.cons_mk (Rep.lit_mk h3) (RepL.lits h2)
def Lie (w:World) (A:Option Addr) (n:Nat) (es:List Value):Prop:=n≠0→∃ ad,A=some ad∧∀ j (hj:j < es.length),w.cell? (ad.add j)=some es[j]
theorem Lie.ext {w w':World} {A:Option Addr} {n:Nat} {es:List Value} (h:Lie w A n es) (hs:Same [] w w'):Lie w' A n es:=fun hn=>by
  obtain ⟨ad,hA,hc⟩:=h hn
  exact ⟨ad,hA,fun j hj=>((FR.start w []).ext hs).cells0 hc j hj⟩
theorem Rep.slice_open {S:Nat→Prop} {w:World} {ds:List D} {A:Option Addr} {n c m:Nat} (h:Rep S w (.slice ds) [.slice A n c]) (hm:∀ d∈ds,Vf d=m) :
    ∃ es,RepL S w ds es∧es.length=n * m∧Lie w A n es:=by
  have hl:=h.slice_len
  obtain ⟨A',c',hA,_,_,hr⟩:=Rep.slice_inv h
  simp only [List.cons.injEq,Value.slice.injEq,and_true] at hA
  obtain ⟨rfl,_,_⟩:=hA
  have hsz:∀ ds:List D,(∀ d∈ds,Vf d=m)→Vf.sizeL ds=ds.length * m:=by
    intro ds
    induction ds with
    | nil=>intro _; simp [Vf.sizeL]
    | cons d ds ih=>intro h; rw [Vf.sizeL,h d Ma,ih (fun x hx=>h x (by simp [hx])),List.length_cons,Nat.add_mul]; omega
  by_cases hne:ds=[]
  · subst hne
    exact ⟨[],RepL.nil_mk,by simp [hl.1],fun h=>absurd hl.1 (by simpa using h)⟩
  · obtain ⟨ad, rfl, es, hc, hr⟩ := hr hne
    exact ⟨es,hr,by rw [hr.length,hsz ds hm,hl.1],fun _=>⟨ad,O,fun j hj=>(hc j hj).1⟩⟩
theorem T7 (ks:List Str):∀ d∈ks.map Wp,Vf d=1:=fun d hd=>by obtain ⟨k,_,rfl⟩:=List.mem_map.1 hd; rfl
def WM (F:Nat) (args:Array Value) (d:D) (w0:World):Prop:=Calls prog F args w0 (De fun v w'=>∃ ct:List Value,v=.agg ct.toArray∧Rep (Btw w0 w') w' d ct∧Same [] w0 w')
end Go.Scarf
namespace Go.Scarf
open Go.RowKit Go.Proofs Go.Proofs.Tryz
mutual
def Cj:Tree→Tree
  | .node k t ks xs=>if k=6 then .node k t (Lg ks) ((Lg ks).map fun key=>(Zi ks (Fh xs) key).getD (.node 0 [] [] [])) else .node k t [] (Fh xs)
def Fh:List Tree→List Tree
  | []=>[]
  | x::xs=>Cj x::Fh xs
end
theorem Xj:∀ xs:List Tree,Fh xs=xs.map Cj
  | []=>rfl
  | x::xs=>by rw [Fh,Xj xs,List.map_cons]
theorem M4 {key:Str} {y:Tree}:∀ {ks:List Str} {xs:List Tree},Zi ks xs key=some y→Zi ks (Fh xs) key=some (Cj y)
  | [],xs,h=>by cases xs <;> cases h
  | k::ks,[],h=>by cases h
  | k :: ks, x :: xs, h => by
    rw [Fh,Zi]
    rw [Zi] at h
    by_cases he:k=key
    · rw [if_pos he] at h ⊢; injection h with h; rw [h]
    · rw [if_neg he] at h ⊢; exact M4 h
theorem QF {S:Nat→Prop} {w:World} {key:Str} {ks:List Str} {xs:List Tree} {l:MapL} (hk:l.map (·.1)=ks) (hm:MapRep S w xs l) (hin:key∈ks) :
    ∃ (cs:List Value) (y:Tree),Lk l key=some (.agg cs.toArray)∧Zi ks xs key=some y∧y∈xs∧Rep S w (Vc y) cs:=by
  rcases V3 key hk hm with ⟨h,-⟩ | h
  · exfalso
    rw [←hk] at hin
    obtain ⟨x,hx,hxe⟩:=List.mem_map.1 hin
    unfold Lk at h
    rw [Option.map_eq_none_iff,List.find?_eq_none] at h
    exact h x hx (by simpa using hxe)
  · exact h
theorem MapRep.back {S:Nat→Prop} {w0 w:World} {xs:List Tree} {l:MapL} (h:MapRep (RS S w0) w xs l) (hs:Same [] w0 w):MapRep (RS S w0) w0 xs l:=fun i hi=>by
  obtain ⟨cs,h1,h2,h3⟩:=h i hi
  exact ⟨cs,h1,h2,h3.back hs⟩
def FO (w1:World) (bk m:Nat) (l:MapL):Prop:=∃ W:World,w1=W.alloc (.cells #[.map (some m)] 127)∧bk=W.heap.size∧W.heap[m]? = some (Nn l)
theorem TV (m:Nat) (l:MapL) (w:World) (hm:w.heap[m]? = some (Nn l)):Calls prog 99 #[.map (some m)] w (De fun v w'=>∃ bk,v=.func (.func 127) #[] #[.pointer (some ⟨bk,0,none⟩)]∧FO w' bk m l∧Same [] w w') :=
  (callsIn_wide.1 (maps_Keys_99 (some m) w)).mono fun _ _ ⟨he,hw⟩=>⟨_,he,w.heap.size,rfl,⟨w,hw,rfl,hm⟩,by rw [hw]; exact Same.alloc w _⟩
theorem Q9 (bk m:Nat) (l:MapL) (ks:List Str) (w:World) (h:FO w bk m l) (hk:l.map (·.1)=ks) (hn:ks.Nodup) (hb:ks.length≤1000000000) (hs:∀ s∈ks,s.length≤140737488355328) :
    Calls prog 98 #[.func (.func 127) #[] #[.pointer (some ⟨bk,0,none⟩)]] w (De fun v w'=>∃ A c,v=.slice A ks.length c∧Rep (Btw w w') w' (Hf (Lg ks)) [.slice A ks.length c]∧Same [] w w'):=by
  obtain ⟨W,rfl,rfl,hm⟩:=h
  have hl:l.length=ks.length:=by rw [←hk,List.length_map]
  obtain ⟨D0,hown,hperm,hsz⟩:=CE (P:=prog) underlying9 hm (by rw [hk]; exact hn) (fun x hx=>by have:=hs x.1 (by rw [←hk]; exact List.mem_map_of_mem hx); simp only [maxLen]; omega) (by simp only [maxLen]; omega)
  refine (callsIn_wide.1 (slices_Sorted_keys_98_99 m l.length D0 _ W hown (by rw [hsz]; simp only [maxLen]; omega) (by rw [hsz]; omega))).mono ?_
  rintro e w' ⟨v,ss,rfl,hp,hrow,-,hbel⟩
  have hpk:ss.Perm ks:=by rw [←hk]; exact hp.trans hperm
  have e1:(ss.mergeSort fun x y=>decide (x≤y))=Lg ks:=G5 hpk
  rw [e1] at hrow
  have e2:ss.length=(Lg ks).length:=by rw [Zf]; exact hpk.length_eq
  rw [e2] at hrow
  obtain ⟨A,c,rfl,hr⟩:=GN (S:=Btw (W.alloc (.cells #[.map (some m)] 127)) w') 9 hrow (fun g h1 h2 h3=>⟨h1,h2,h3⟩) (fun s hs'=>by have:=hs s (Nr.1 hs'); omega)
  rw [Zf] at hr
  exact ⟨_,O,A,c,by rw [Zf],hr,.of_below hbel⟩
def M8 (x:Tree):Prop:=∀ S w0 cs,Rep S w0 (Vc x) cs→U4 x→Fe nodeB x=true→Oc x≤1000000000→WM 73 #[.agg cs.toArray] (Vc (Cj x)) w0
theorem I0 {xs:List Tree} {j:Nat} (h:j < xs.length):Wc (Fh (xs.take (j+1)))=Wc (Fh (xs.take j))++[Vc (Cj xs[j])]:=by
  rw [List.take_succ_eq_append_getElem h,Rh,Rh,Xj,Xj,List.map_append,List.map_append]; rfl
def Hz (ks:List Str) (xs:List Tree):List Tree:=(Lg ks).map fun key=>(Zi ks (Fh xs) key).getD (.node 0 [] [] [])
theorem Sp (ks:List Str) (xs:List Tree):(Hz ks xs).length=ks.length:=by rw [Hz,List.length_map,Zf]
theorem H7 {ks:List Str} {xs:List Tree} {j:Nat} {y:Tree} (h:j < (Lg ks).length) (hy:Zi ks xs (Lg ks)[j]=some y):Wc ((Hz ks xs).take (j+1))=Wc ((Hz ks xs).take j)++[Vc (Cj y)]:=by
  have h':j < (Hz ks xs).length:=by rw [Sp,←Zf]; exact h
  rw [List.take_succ_eq_append_getElem h',Rh,Rh,List.map_append]
  simp only [Hz,List.getElem_map,M4 hy,Option.getD_some]
  rfl
theorem MB (k:Int) (t:Str) (ks:List Str) (xs:List Tree) (ih:∀ x,x∈xs→M8 x):M8 (.node k t ks xs):=by
 intro S w0 cs hR hok hnx hsz
 replace hR:=hR.old
 rw [U4] at hok
 rw [Oc] at hsz
 have hxn:=Jn xs
 replace hnx:=Kg hnx
 obtain ⟨A,c,B,e,rfl,hk,ht,hK,hX⟩:=hR.tree_inv
 have hXl:=hX.slice_len
 have hKn:k=6→ks.length=xs.length:=fun e=>(Us (e ▸ hnx.1)).2
 refine Ka func73 O ntmps73 Kb (Sc _) ?_
 have hF:=FR.start w0 []
 refine Ia ?_
 refine Bh hF O ?_
 clear hF; rintro b1 w hb1 hF -
 refine Fg (cs:=#[.int .i64 0,.string (bs []),.slice none 0 0,.slice none 0 0]) hF zeroValue27 O ?_
 clear hF; rintro b2 w hb2 hF -
 refine Bc (Ca (Ec Ke O) (Tc (Hl isAgg3 O hF.F 1 O O) (Ca (Ec Of O) (Tc (Tp isAgg9 O hF.F 1 O O) ?_))))
 refine Ja (w':=w) (v:=.agg #[.int .i64 k,.string (bs t),.slice none 0 0,.slice none 0 0]) Qb ?_
 refine Ym hF zeroValue27 sizeOf27 O ?_
 clear hF; rintro b3 w hb3 hF -
 refine Ea (Ha (Ia (Ca (Ec Ke O) (Tc (Hl isAgg3 O hF.F 2 O O) (Ca (Sq O O) (Ea ?_))))))
 refine Yb O O (fun hc0=>?_) (fun hc0=>?_)
 refine Ha (Ia (Ca (Ec Pc O) (Tc (Mf isAgg22 O hF.F 2 O O) (Ca (Df underlying22 O) (Ca (Va O) (Ea (Ta ?_)))))))
 refine Lc (fun μ σ w=>∃ (j:Nat),∃ (A1:Option Addr),∃ (c1:Nat),∃ (sb:List (Nat × Obj)),∃ (cs1:List Value),μ=xs.length - j∧(j≤xs.length)∧(SlB 27 4 A1 j c1 cs1 sb)∧(RX w0 ([b3,b2,b1]++sb.map (·.1)) w (Wc (Fh (xs.take j))) cs1)∧AllEq σ [(2,.pointer (some ⟨b2,0,none⟩)),(3,.pointer (some ⟨b3,0,none⟩)),(18,.slice B xs.length e),(19,.int .i64 ((xs.length:Nat))),(20,.int .i64 ((j:Int)))]∧FR w0 [] ([(b3,.cells #[.int .i64 k,.string (bs t),.slice none 0 0,.slice A1 j c1] 27),(b2,.cells #[.int .i64 0,.string (bs []),.slice none 0 0,.slice none 0 0] 27),(b1,.cells #[.int .i64 k,.string (bs t),.slice A ks.length c,.slice B xs.length e] 27)]++(sb++[])) w) _ ⟨0,none,0,[],[],O,(Nat.zero_le _),(SlB.nil _ _),(RX.nil),Am,hF⟩ ?_
 clear hF; rintro μ σ w ⟨j,A1,c1,sb,cs1,rfl,hj,hS,hDX,hs,hF⟩
 refine Cg.slots hs ?_
 clear hs; intro σ
 refine Ia (Ca (Yg O O) (Ea (Ha ?_)))
 refine Yb O O (fun hc1=>?_) (fun hc1=>?_)
 refine Qa (Ga (Ha (Ta (Ia ?_))))
 obtain ⟨ad0,cs0,hA0,hl0,hk0,hx0⟩:=hX.tree_elem (i:=j) U
 have ho0:=hx0.one_
 refine Ja (v:=.pointer (some (ad0.add (j * 4)))) (Pa (i:=(j:Int)) Mg O hA0 O U U) (Ja (v:=.agg (List.toArray cs0)) (Fc (l:=cs0) isAgg27 sizeOf27 O hl0 (hF.cells0 hk0)) ?_)
 refine Tx (l:=cs0) hF zeroValue27 (by rw [hl0]; exact sizeOf27) (by rw [hl0]; rfl) (v:=.agg (List.toArray cs0)) O O (ho0) O ?_
 clear hF; intro b4 w hb4 hF hE
 replace hDX:=hDX.alloc hE hb4
 clear hE
 refine Ea ?_
 refine Uc [7] (.free 0 (.free 1 (.free 2 (.act 3 (.act 4 (.act 5 (.free 6 (.act 7 .nil)))))))) hF ?_
 clear hF; intro w hF hE
 replace hDX:=hDX.ext hE
 clear hE
 refine ⟨fun wq=>FR w0 [] [(b4,.cells (List.toArray cs0) 27),(b3,.cells #[.int .i64 k,.string (bs t),.slice none 0 0,.slice A1 j c1] 27),(b2,.cells #[.int .i64 0,.string (bs []),.slice none 0 0,.slice none 0 0] 27),(b1,.cells #[.int .i64 k,.string (bs t),.slice A ks.length c,.slice B xs.length e] 27)] wq,hF.sub (.cons_cons _ (.cons_cons _ (.cons_cons _ (.cons_cons _ (List.nil_sublist _))))),?_⟩
 refine Db O (Ec Pc O) (Uk O (Mf isAgg22 O C0 1 O O) (Oa O (v:=.agg (List.toArray cs0)) (fun w hC=>Fc (l:=cs0) isAgg27 sizeOf27 O hl0 (hC.cellsAll 0 O)) ?_))
 refine Ye O (ih xs[j] (List.getElem_mem U) _ _ cs0 (hF.rep hx0) (Yt hok.2.2 _ (List.getElem_mem U)) (hnx.2 _ (List.getElem_mem U)) (by have:=Rf (List.getElem_mem (l:=xs) (n:=j) U); omega)) (Cb CQ O O) ?_
 rintro _ w ⟨ct,rfl,hRt,hE⟩
 have hlt:ct.length=4:=hRt.length.trans (Dd _)
 have hot:=hRt.one_
 have hYX:=RX.made (ids:=[b4,b3,b2,b1]++sb.map (·.1)) hF.same.size (fun x hx=>hF.lt_ids (by grind)) hRt
 replace hDX:=(hDX.ext hE).append hYX
 replace hF:=hF.ext hE
 clear hE hYX
 refine ⟨hF.sub (.cons_cons _ (.cons_cons _ (.cons_cons _ (.cons_cons _ (List.nil_sublist _))))),?_⟩
 refine Ge 1 O hF (Qh (l:=ct) underlying22 sizeOf27 zeroValue27 Ua Ua O hlt) ?_
 clear hF; intro b5 w hb5 hF hE
 replace hDX:=hDX.alloc hE hb5
 clear hE
 refine ⟨hF.sub (.cons _ (.cons_cons _ (.cons_cons _ (.cons_cons _ (.cons_cons _ (List.nil_sublist _)))))),?_⟩
 refine Rc [(b5,.cells (List.toArray ct) 27),(b4,.cells (List.toArray cs0) 27),(b3,.cells #[.int .i64 k,.string (bs t),.slice none 0 0,.slice A1 j c1] 27),(b2,.cells #[.int .i64 0,.string (bs []),.slice none 0 0,.slice none 0 0] 27),(b1,.cells #[.int .i64 k,.string (bs t),.slice A ks.length c,.slice B xs.length e] 27)] [] (news:=ct) (len':=j+1) (ys:=cs1++ct) O F0 hF hS O O (by rw [hlt]) (fun _=>⟨_,O,Xb (hF.cellsAll 0 O)⟩) (Pl hot) (by simp only [maxLen]; omega) (O) (O) U ?_
 clear hF; intro A1 c1 i_1 w hS1_i hF hE hnew
 replace hDX:=hDX.app (l:=[b5,b4,b3,b2,b1]) hE hnew
 clear hE hnew
 refine ⟨hF.sub (.cons _ (.cons_cons _ (.cons_cons _ (.cons_cons _ (.cons_cons _ (List.nil_sublist _)))))),?_⟩
 refine Db O (Ec Pc O) ?_
 refine WZ (.slice _ _ _) O hF sizeOf22 O O ZR.app TX ?_
 clear hF; intro w hF hE
 replace hDX:=hDX.store hE (by grind)
 clear hE
 refine Mc (Eb (Ga (Fa (Ca (Sl O O) (Ca (Va O) (Xa ?_))))))
 refine Ib ⟨_,?_,j+1,A1,c1,i_1,cs1++ct,O,U,(by assumption),(by rw [I0 U]; exact hDX.sub (by grind)),Am,hF.drop 2⟩
 omega
 refine Dc (Cc O ?_)
 refine Ga (Ia (Tc (Wj isAgg27 sizeOf27 O hF.F 0 O O) ?_))
 refine Ll hF sizeOf27 O O I5.app ?_
 clear hF; intro w hF hE
 replace hDX:=hDX.store hE (by grind)
 clear hE
 refine Ea ?_
 refine Ub (Rb (Sa (Bn O (l:=[.int .i64 k,.string (bs t),.slice none 0 0,.slice A1 j c1]) O isAgg27 sizeOf27 O (hF.cellsAll 1 O)) ?_))
 have ej:j=xs.length:=by omega
 subst ej
 rw [List.take_length] at hDX
 refine ⟨_,O,?_,hF.same⟩
 rw [Cj,if_neg hc0]
 exact Rep.tree_mk hk ht (Rep.nil_slice 0 U none) (hS.rep (pre:=[_,_,_]) (post:=[]) hF hDX (by rw [Cf,Xj,List.length_map]))
 refine Qa (Ga (Ia (Tc (Wj isAgg27 sizeOf27 O hF.F 2 O O) ?_)))
 have k6:k=6:=by simpa using hc0
 refine Pb (EK k t ks xs (Us (k6 ▸ hnx.1)).1 (Us (k6 ▸ hnx.1)).2 _ _ _ (hF.rep hR)) (Cb GZ O O) ?_
 rintro _ w ⟨m1,l1,rfl,hge,hm1,hk1,hr1,hE⟩
 replace hF:=hF.cons_ext hE hm1 hge
 replace hr1:=hr1.back hF.same
 clear hE hm1 hge
 refine Ca (S1) (Bc (Ca (XC) ?_))
 refine Pb (TV m1 l1 _ (hF.heap (i:=0) O)) (Cb QZ O O) ?_
 rintro _ w ⟨bk,rfl,hKA,hE⟩
 replace hF:=hF.ext hE
 clear hE
 refine Pb (Q9 bk m1 l1 ks _ hKA hk1 (Us (k6 ▸ hnx.1)).1 U hok.2.1) (Cb RZ O O) ?_
 rintro _ w ⟨A2,c2,rfl,hK2,hE⟩
 have hKX:=RX.made (ids:=[m1,b3,b2,b1]) hF.same.size (fun x hx=>hF.lt_ids (by grind)) hK2
 replace hF:=hF.ext hE
 clear hE hK2
 refine Ca (Ec Af O) ?_
 refine Mq (.slice _ _ _) hF sizeOf25 O O I5 ZR ?_
 clear hF; intro w hF hE
 replace hKX:=hKX.store hE (by grind)
 clear hE
 refine Ea (Ha (Ia (Ca (Ec Af O) (Tc (Mf isAgg25 O hF.F 1 O O) (Ca (Df underlying25 O) (Ca (Va O) (Ea (Ta ?_))))))))
 refine Lc (fun μ σ w=>∃ (j:Nat),∃ (A1:Option Addr),∃ (c1:Nat),∃ (sb:List (Nat × Obj)),∃ (cs1:List Value),μ=ks.length - j∧(j≤ks.length)∧(SlB 27 4 A1 j c1 cs1 sb)∧(RX w0 ([m1,b3,b2,b1]++sb.map (·.1)) w (Wc ((Hz ks xs).take j)) cs1)∧(RX w0 ([m1,b3,b2,b1]++sb.map (·.1)) w [Hf (Lg ks)] [.slice A2 ks.length c2])∧AllEq σ [(2,.pointer (some ⟨b2,0,none⟩)),(3,.pointer (some ⟨b3,0,none⟩)),(6,.map (some m1)),(40,.slice A2 ks.length c2),(41,.int .i64 ((ks.length:Nat))),(42,.int .i64 ((j:Int)))]∧FR w0 [] ([(m1,Nn (l1)),(b3,.cells #[.int .i64 k,.string (bs t),.slice A2 ks.length c2,.slice A1 j c1] 27),(b2,.cells #[.int .i64 0,.string (bs []),.slice none 0 0,.slice none 0 0] 27),(b1,.cells #[.int .i64 k,.string (bs t),.slice A ks.length c,.slice B xs.length e] 27)]++(sb++[])) w) _ ⟨0,none,0,[],[],O,(Nat.zero_le _),(SlB.nil _ _),(RX.nil),(hKX),Iu,hF⟩ ?_
 clear hF; rintro μ σ w ⟨j,A1,c1,sb,cs1,rfl,hj,hS,hDX,hKX,hs,hF⟩
 refine Cg.slots hs ?_
 clear hs; intro σ
 refine Ia (Ca (Yg O O) (Ea (Ha ?_)))
 refine Yb O O (fun hc2=>?_) (fun hc2=>?_)
 refine Qa (Ga (Ha (Ta (Ia ?_))))
 obtain ⟨ad2,hA2,hk2,hx2⟩:=hKX.rep.str_elem (i:=j) (by rw [Zf]; omega)
 refine Ja (v:=.pointer (some (ad2.add (j * 1)))) (Pa (i:=(j:Int)) Gk O hA2 O U U) ?_
 refine Ja (v:=.string (bs ((Lg ks)[j]'(by rw [Zf]; omega)))) (Ya isAgg9 O hk2) ?_
 refine Ca (Rd O) (Ea ?_)
 refine Uc [9] (.free 0 (.free 1 (.free 2 (.free 3 (.free 4 (.act 5 (.act 6 (.act 7 (.free 8 (.act 9 .nil)))))))))) hF ?_
 clear hF; intro w hF hE
 replace hDX:=hDX.ext hE
 replace hKX:=hKX.ext hE
 clear hE
 refine ⟨fun wq=>FR w0 [] [(m1,Nn (l1)),(b3,.cells #[.int .i64 k,.string (bs t),.slice A2 ks.length c2,.slice A1 j c1] 27),(b2,.cells #[.int .i64 0,.string (bs []),.slice none 0 0,.slice none 0 0] 27),(b1,.cells #[.int .i64 k,.string (bs t),.slice A ks.length c,.slice B xs.length e] 27)] wq,hF.sub (.cons_cons _ (.cons_cons _ (.cons_cons _ (.cons_cons _ (List.nil_sublist _))))),?_⟩
 refine Db O (Ec Pc O) (Uk O (Mf isAgg22 O C0 1 O O) (Db O (XC) (Db O (Qc O) ?_)))
 obtain ⟨cy,y,hlk,hlt_,hym,hry⟩:=QF hk1 hr1 (Nr.1 (List.getElem_mem (l:=Lg ks) (n:=j) (by rw [Zf]; omega)))
 have hoy:=hry.one_
 have hly:cy.length=4:=hry.length.trans (Dd _)
 refine Oa O (v:=.agg (List.toArray cy)) (fun w hC=>S5 underlying127 underlying9 zeroValue27 O O (hC.heap (i:=0) O) (by rw [hlk]; rfl)) ?_
 refine Ye O (ih y hym _ _ cy (hF.rep hry) (Yt hok.2.2 y hym) (hnx.2 y hym) (by have:=Rf hym; omega)) (Cb CQ O O) ?_
 rintro _ w ⟨ct,rfl,hRt,hE⟩
 have hlt:ct.length=4:=hRt.length.trans (Dd _)
 have hot:=hRt.one_
 have hYX:=RX.made (ids:=[m1,b3,b2,b1]++sb.map (·.1)) hF.same.size (fun x hx=>hF.lt_ids (by grind)) hRt
 replace hDX:=(hDX.ext hE).append hYX
 replace hF:=hF.ext hE
 replace hKX:=hKX.ext hE
 clear hE hYX
 refine ⟨hF.sub (.cons_cons _ (.cons_cons _ (.cons_cons _ (.cons_cons _ (List.nil_sublist _))))),?_⟩
 refine Ge 1 O hF (Qh (l:=ct) underlying22 sizeOf27 zeroValue27 Ua Ua O hlt) ?_
 clear hF; intro b6 w hb6 hF hE
 replace hDX:=hDX.alloc hE hb6
 replace hKX:=hKX.alloc hE hb6
 clear hE
 refine ⟨hF.sub (.cons _ (.cons_cons _ (.cons_cons _ (.cons_cons _ (.cons_cons _ (List.nil_sublist _)))))),?_⟩
 refine Rc [(b6,.cells (List.toArray ct) 27),(m1,Nn (l1)),(b3,.cells #[.int .i64 k,.string (bs t),.slice A2 ks.length c2,.slice A1 j c1] 27),(b2,.cells #[.int .i64 0,.string (bs []),.slice none 0 0,.slice none 0 0] 27),(b1,.cells #[.int .i64 k,.string (bs t),.slice A ks.length c,.slice B xs.length e] 27)] [] (news:=ct) (len':=j+1) (ys:=cs1++ct) O F0 hF hS O O (by rw [hlt]) (fun _=>⟨_,O,Xb (hF.cellsAll 0 O)⟩) (Pl hot) (by simp only [maxLen]; omega) (O) (O) U ?_
 clear hF; intro A3 c3 i_3 w hS3_i hF hE hnew
 replace hDX:=hDX.app (l:=[b6,m1,b3,b2,b1]) hE hnew
 replace hKX:=hKX.app (l:=[b6,m1,b3,b2,b1]) hE hnew
 clear hE hnew
 refine ⟨hF.sub (.cons _ (.cons_cons _ (.cons_cons _ (.cons_cons _ (.cons_cons _ (List.nil_sublist _)))))),?_⟩
 refine Db O (Ec Pc O) ?_
 refine WZ (.slice _ _ _) O hF sizeOf22 O O ZR.app TX ?_
 clear hF; intro w hF hE
 replace hDX:=hDX.store hE (by grind)
 replace hKX:=hKX.store hE (by grind)
 clear hE
 refine Mc (Eb (Ga (Fa (Ca (Sl O O) (Ca (Va O) (Xa ?_))))))
 refine Ib ⟨_,?_,j+1,A3,c3,i_3,cs1++ct,O,U,(by assumption),(by rw [H7 (by rw [Zf]; omega) hlt_]; exact hDX.sub (by grind)),(hKX.sub (by grind)),Iu,hF.drop 1⟩
 omega
 refine Dc (Cc O ?_)
 refine Ga (Ia (Tc (Wj isAgg27 sizeOf27 O hF.F 1 O O) ?_))
 refine Ll hF sizeOf27 O O ZR.app ?_
 clear hF; intro w hF hE
 replace hDX:=hDX.store hE (by grind)
 replace hKX:=hKX.store hE (by grind)
 clear hE
 refine Ea ?_
 refine Ub (Rb (Sa (Bn O (l:=[.int .i64 k,.string (bs t),.slice A2 ks.length c2,.slice A1 j c1]) O isAgg27 sizeOf27 O (hF.cellsAll 2 O)) ?_))
 have ej:j=ks.length:=by omega
 subst ej
 rw [List.take_of_length_le (by rw [Sp]; exact Nat.le_refl _)] at hDX
 refine ⟨_,O,?_,hF.same⟩
 rw [Cj,if_pos k6]
 · exact Rep.tree_mk hk ht hKX.done (hS.rep (pre:=[_,_,_,_]) (post:=[]) hF hDX (by rw [Cf]; exact Sp ks xs))
theorem WL (x:Tree):M8 x:=Tree.ind MB x
end Go.Scarf
namespace Go.Scarf
open Go.RowKit Go.Proofs Go.Proofs.Tryz
def DP:Tree:=.node 0 [] [] []
theorem MC (S:Nat→Prop) (w:World):Rep S w (Vc DP) [.int .i64 0,.string (bs []),.slice none 0 0,.slice none 0 0] :=
  Rep.tree_mk ⟨by omega,by omega⟩ Ma (Rep.nil_slice 0 U none) (Rep.nil_slice 0 U none)
def Qg (x:Tree):Tree:=if Tj x then Cj x else DP
theorem JE {k:Int} {t:Str} {ks:List Str} {xs:List Tree} (h:nodeB (.node k t ks xs)=true):ks.length≤xs.length:=by
  by_cases h6:k=6
  · subst h6; have:=(Us h).2; omega
  · have:ks=[]:=by
      simp only [nodeB] at h
      by_cases h5:k=5
      · subst h5; simp at h; exact h.1
      · rw [if_neg h5, if_neg h6] at h
        cases ks with
        | nil=>rfl
        | cons a l=>simp at h
    subst this; simp
theorem PG:∀ x:Tree,Fe nodeB x=true→Vn x+1≤Oc x:=fun x=>Tree.ind (Q:=fun x=>Fe nodeB x=true→Vn x+1≤Oc x) (fun k t ks xs ih h=>by
  obtain ⟨h1,h2⟩:=Kg h
  have h3:=JE h1
  have h7:∀ ys:List Tree,(∀ y∈ys,y∈xs)→ys.length+Pm ys≤Fd ys:=by
    intro ys
    induction ys with
    | nil=>intro _; simp [Pm,Fd]
    | cons y ys ihy =>
      intro hm
      have h5:=ihy (fun z hz=>hm z (by simp [hz]))
      have h9:=ih y (hm y Ma) (h2 y (hm y Ma))
      simp only [Pm,Fd,List.length_cons]; omega
  have:=h7 xs (fun _ h=>h)
  rw [Vn,Oc]
  omega) x
theorem L5 {key:Str} {y:Tree}:∀ {ks:List Str} {xs:List Tree},Zi ks xs key=some y→y∈xs
  | [],xs,h=>by cases xs <;> cases h
  | k::ks,[],h=>by cases h
  | k :: ks, x :: xs, h => by
    rw [Zi] at h
    by_cases he:k=key
    · rw [if_pos he] at h; injection h with h; simp [h]
    · rw [if_neg he] at h; simp [L5 h]
theorem KH:∀ {xs:List Tree},(∀ x∈xs,U4 x)→Z4 xs
  | [],_=>by rw [Z4]; trivial
  | x::xs,h=>by rw [Z4]; exact ⟨h x Ma,KH (fun y hy=>h y (by simp [hy]))⟩
theorem Y6 {x:Tree} (h:Tj x=true):Oc x≤4096:=by
  unfold Tj Rl at h; simp only [Bool.and_eq_true,decide_eq_true_eq] at h; exact h.1.1
theorem UK (x:Tree) (hsz:Oc x≤1000000000) (S:Nat→Prop) (w0:World) (cs:List Value) (hR:Rep S w0 (Vc x) cs) (hk:U4 x) (hG:Gl w0):WM 44 #[.agg cs.toArray] (Vc (Qg x)) w0:=by
 have hl:cs.length=4:=hR.length.trans (Dd x)
 have ho:=hR.one_
 refine Ka func44 O ntmps44 Kb (Sc _) ?_
 have hF:=FR.start w0 []
 refine Ia ?_
 refine Io (v:=.agg (List.toArray cs)) (cs:=(List.toArray cs)) hF O O ?_
 clear hF; rintro b1 w hb1 hF -
 refine Fg (cs:=#[.int .i64 0,.string (bs []),.slice none 0 0,.slice none 0 0]) hF zeroValue27 O ?_
 clear hF; rintro b2 w hb2 hF -
 refine Ea (Ha (Ia (Ja (v:=.agg (List.toArray cs)) (Fc (l:=cs) isAgg27 sizeOf27 O hl (hF.cellsAll 1 O)) ?_)))
 refine Jb hF (IV x hsz S _ cs (hF.rep hR) hk (hG.ext hF.same)) (Cb ZY O O) ?_
 clear hF; intro w hF
 refine Ca (Pn O) (Ea ?_)
 refine Mi O O (fun hc0=>?_) (fun hc0=>?_)
 refine Ia ?_
 refine Ja (w':=w) (v:=.agg #[.int .i64 0,.string (bs []),.slice none 0 0,.slice none 0 0]) Qb ?_
 refine Ll hF sizeOf27 O O Vm ?_
 clear hF; rintro w hF -
 refine Ea ?_
 refine Ub (Rb (Sa (Bn O (l:=[.int .i64 0,.string (bs []),.slice none 0 0,.slice none 0 0]) O isAgg27 sizeOf27 O (hF.cellsAll 0 O)) ?_))
 have ho_:Tj x=false:=by simpa using hc0
 refine ⟨_,O,?_,hF.same⟩
 rw [Qg,ho_]
 exact MC _ _
 refine Qa (Ga (Ia (Ja (v:=.agg (List.toArray cs)) (Fc (l:=cs) isAgg27 sizeOf27 O hl (hF.cellsAll 1 O)) ?_)))
 refine Pb (WL x S _ cs (hF.rep hR) hk (Np (by simpa using hc0)) hsz) (Cb CQ O O) ?_
 rintro _ w ⟨ct,rfl,hRt,hE⟩
 have hlct:ct.length=4:=hRt.length.trans (Dd _)
 have hoct:=hRt.one_
 have hXX:=RX.made (ids:=[b2,b1]) hF.same.size (fun x hx=>hF.lt_ids (by grind)) hRt
 replace hF:=hF.ext hE
 clear hE hRt
 refine Me 0 (l:=ct) (cs':=(List.toArray ct)) hF (by rw [hlct]; exact sizeOf27) O (v:=.agg (List.toArray ct)) O O (hoct) O (by rw [hlct]; exact Nat.le_of_ble_eq_true O) (Wq (by rw [hlct]; rfl)) ?_
 clear hF; intro w hF hE
 replace hXX:=hXX.store hE (by grind)
 clear hE
 replace hF:FR w0 [] [(b2,.cells (List.toArray ct) 27),_] w:=hF
 refine Ea ?_
 refine Ub (Rb (Sa (Bn O (l:=ct) O isAgg27 sizeOf27 hlct (hF.cellsAll 0 O)) ?_))
 have ho_:Tj x=true:=by simpa using hc0
 refine ⟨_,O,?_,hF.same⟩
 rw [Qg,ho_]
 · exact hXX.done
end Go.Scarf
