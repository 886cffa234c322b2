/- A part of the proof. -/
import Derived.Test.YtehigfneiofjnaaGreatDoorW10
import Derived.Test.YtehigfneiofjnaaGreatDoorFacts
import Derived.Test.YtehigfneiofjnaaGreatDoorMore
import Derived.Test.YtehigfneiofjnaaGreatDoorIter
set_option linter.all false
set_option maxHeartbeats 8000000
set_option maxRecDepth 10000
namespace Go.Scarf
open Go.RowKit Go.Proofs Go.Proofs.Tryz
mutual
def Jo : Tree → Nat | .node _ _ ks xs => ks.length + Hm xs
def Hm : List Tree → Nat | [] => 0 | x :: xs => Jo x + Hm xs
end
theorem RepL.lits {S S' : Nat → Prop} {w w' : World} : ∀ {ks : List Str} {cs : List Value}, RepL S w (ks.map Wn) cs → RepL S' w' (ks.map Wn) cs
  | [], cs, h => by have := RepL.nil_inv h; subst this; exact RepL.nil_mk
  | k :: ks, cs, h => by
    obtain ⟨c1, c2, rfl, h1, h2⟩ := RepL.cons_inv h
    obtain ⟨rfl, h3⟩ := Rep.lit_inv h1
    exact RepL.cons_mk (Rep.lit_mk h3) (RepL.lits h2)
def Lie (w : World) (A : Option Addr) (n : Nat) (es : List Value) : Prop := n ≠ 0 → ∃ ad, A = some ad ∧ ∀ j (hj : j < es.length), w.cell? (ad.add j) = some es[j]
theorem Lie.ext {w w' : World} {A : Option Addr} {n : Nat} {es : List Value} (h : Lie w A n es) (hs : Same [] w w') : Lie w' A n es := fun hn => by
  obtain ⟨ad, hA, hc⟩ := h hn
  exact ⟨ad, hA, fun j hj => ((FR.start w []).ext hs).cells0 hc j hj⟩
theorem Rep.slice_open {S : Nat → Prop} {w : World} {ds : List D} {A : Option Addr} {n c m : Nat} (h : Rep S w (.slice ds) [.slice A n c]) (hm : ∀ d ∈ ds, Qf d = m) :
    ∃ es, RepL S w ds es ∧ es.length = n * m ∧ Lie w A n es := by
  have hl := h.slice_len
  obtain ⟨A', c', hA, _, _, hr⟩ := Rep.slice_inv h
  simp only [List.cons.injEq, Value.slice.injEq, and_true] at hA
  obtain ⟨rfl, _, _⟩ := hA
  have hsz : ∀ ds : List D, (∀ d ∈ ds, Qf d = m) → Qf.sizeL ds = ds.length * m := by
    intro ds
    induction ds with
    | nil => intro _; simp [Qf.sizeL]
    | cons d ds ih => intro h; rw [Qf.sizeL, h d Sa, ih (fun x hx => h x (by simp [hx])), List.length_cons, Nat.add_mul]; omega
  by_cases hne : ds = []
  · subst hne
    exact ⟨[], RepL.nil_mk, by simp [hl.1], fun h => absurd hl.1 (by simpa using h)⟩
  · obtain ⟨ad, rfl, es, hc, hr⟩ := hr hne
    exact ⟨es, hr, by rw [hr.length, hsz ds hm, hl.1], fun _ => ⟨ad, rfl, fun j hj => (hc j hj).1⟩⟩
theorem LD (ks : List Str) : ∀ d ∈ ks.map Wn, Qf d = 1 := fun d hd => by obtain ⟨k, _, rfl⟩ := List.mem_map.1 hd; rfl
def VL (F : Nat) (args : Array Value) (d : D) (w0 : World) : Prop := Calls prog F args w0 (Ce fun v w' => ∃ ct : List Value, v = .agg ct.toArray ∧ Rep (Btw w0 w') w' d ct ∧ Same [] w0 w')
end Go.Scarf
namespace Go.Scarf
open Go.RowKit Go.Proofs Go.Proofs.Tryz
mutual
def Mh : Tree → Tree
  | .node k t ks xs => if k = 6 then .node k t (Sf ks) ((Sf ks).map fun key => (Ai ks (Jg xs) key).getD (.node 0 [] [] [])) else .node k t [] (Jg xs)
def Jg : List Tree → List Tree
  | [] => []
  | x :: xs => Mh x :: Jg xs
end
theorem Aj : ∀ xs : List Tree, Jg xs = xs.map Mh
  | [] => rfl
  | x :: xs => by rw [Jg, Aj xs, List.map_cons]
theorem Zy {key : Str} {y : Tree} : ∀ {ks : List Str} {xs : List Tree}, Ai ks xs key = some y → Ai ks (Jg xs) key = some (Mh y)
  | [], xs, h => by cases xs <;> cases h
  | k :: ks, [], h => by cases h
  | k :: ks, x :: xs, h => by
    rw [Jg, Ai]
    rw [Ai] at h
    by_cases he : k = key
    · rw [if_pos he] at h ⊢; injection h with h; rw [h]
    · rw [if_neg he] at h ⊢; exact Zy h
theorem Z9 {S : Nat → Prop} {w : World} {key : Str} {ks : List Str} {xs : List Tree} {l : MapL} (hk : l.map (·.1) = ks) (hm : MapRep S w xs l) (hin : key ∈ ks) :
    ∃ (cs : List Value) (y : Tree), Jj l key = some (.agg cs.toArray) ∧ Ai ks xs key = some y ∧ y ∈ xs ∧ Rep S w (Gc y) cs := by
  rcases Qz key hk hm with ⟨h, -⟩ | h
  · exfalso
    rw [← hk] at hin
    obtain ⟨x, hx, hxe⟩ := List.mem_map.1 hin
    unfold Jj at h
    rw [Option.map_eq_none_iff, List.find?_eq_none] at h
    exact h x hx (by simpa using hxe)
  · exact h
theorem MapRep.back {S : Nat → Prop} {w0 w : World} {xs : List Tree} {l : MapL} (h : MapRep (TL S w0) w xs l) (hs : Same [] w0 w) : MapRep (TL S w0) w0 xs l := fun i hi => by
  obtain ⟨cs, h1, h2, h3⟩ := h i hi
  exact ⟨cs, h1, h2, h3.back hs⟩
def DJ (w1 : World) (bk m : Nat) (l : MapL) : Prop := ∃ W : World, w1 = W.alloc (.cells #[.map (some m)] 80) ∧ bk = W.heap.size ∧ W.heap[m]? = some (Ql l)
theorem BQ (m : Nat) (l : MapL) (w : World) (hm : w.heap[m]? = some (Ql l)) : Calls prog 58 #[.map (some m)] w (Ce fun v w' => ∃ bk, v = .func (.func 82) #[] #[.pointer (some ⟨bk, 0, none⟩)] ∧ DJ w' bk m l ∧ Same [] w w') :=
  (callsIn_wide.1 (maps_Keys_58 (some m) w)).mono fun _ _ ⟨he, hw⟩ => ⟨_, he, w.heap.size, rfl, ⟨w, hw, rfl, hm⟩, by rw [hw]; exact Same.alloc w _⟩
theorem M3 (bk m : Nat) (l : MapL) (ks : List Str) (w : World) (h : DJ w bk m l) (hk : l.map (·.1) = ks) (hn : ks.Nodup) (hb : ks.length ≤ 1000000000) (hs : ∀ s ∈ ks, s.length ≤ 140737488355328) :
    Calls prog 57 #[.func (.func 82) #[] #[.pointer (some ⟨bk, 0, none⟩)]] w (Ce fun v w' => ∃ A c, v = .slice A ks.length c ∧ Rep (Btw w w') w' (We (Sf ks)) [.slice A ks.length c] ∧ Same [] w w') := by
  obtain ⟨W, rfl, rfl, hm⟩ := h
  have hl : l.length = ks.length := by rw [← hk, List.length_map]
  obtain ⟨D0, hown, hperm, hsz⟩ := U8 (P := prog) underlying9 hm (by rw [hk]; exact hn) (fun x hx => by have := hs x.1 (by rw [← hk]; exact List.mem_map_of_mem hx); simp only [maxLen]; omega) (by simp only [maxLen]; omega)
  refine (callsIn_wide.1 (slices_Sorted_keys_57_58 m l.length D0 _ W hown (by rw [hsz]; simp only [maxLen]; omega) (by rw [hsz]; omega))).mono ?_
  rintro e w' ⟨v, ss, rfl, hp, hrow, -, hbel⟩
  have hpk : ss.Perm ks := by rw [← hk]; exact hp.trans hperm
  have e1 : (ss.mergeSort fun x y => decide (x ≤ y)) = Sf ks := O0 hpk
  rw [e1] at hrow
  have e2 : ss.length = (Sf ks).length := by rw [Lf]; exact hpk.length_eq
  rw [e2] at hrow
  obtain ⟨A, c, rfl, hr⟩ := HF (S := Btw (W.alloc (.cells #[.map (some m)] 80)) w') 9 hrow (fun g h1 h2 h3 => ⟨h1, h2, h3⟩) (fun s hs' => by have := hs s (Wo.1 hs'); omega)
  rw [Lf] at hr
  exact ⟨_, rfl, A, c, by rw [Lf], hr, .of_below hbel⟩
def G3 (x : Tree) : Prop := ∀ S w0 cs, Rep S w0 (Gc x) cs → H5 x → Yd nodeB x = true → Ec x ≤ 1000000000 → VL 34 #[.agg cs.toArray] (Gc (Mh x)) w0
theorem Gx {xs : List Tree} {j : Nat} (h : j < xs.length) : Je (Jg (xs.take (j + 1))) = Je (Jg (xs.take j)) ++ [Gc (Mh xs[j])] := by
  rw [List.take_succ_eq_append_getElem h, Cj, Cj, Aj, Aj, List.map_append, List.map_append]; rfl
def Jw (ks : List Str) (xs : List Tree) : List Tree := (Sf ks).map fun key => (Ai ks (Jg xs) key).getD (.node 0 [] [] [])
theorem Mn (ks : List Str) (xs : List Tree) : (Jw ks xs).length = ks.length := by rw [Jw, List.length_map, Lf]
theorem H1 {ks : List Str} {xs : List Tree} {j : Nat} {y : Tree} (h : j < (Sf ks).length) (hy : Ai ks xs (Sf ks)[j] = some y) : Je ((Jw ks xs).take (j + 1)) = Je ((Jw ks xs).take j) ++ [Gc (Mh y)] := by
  have h' : j < (Jw ks xs).length := by rw [Mn, ← Lf]; exact h
  rw [List.take_succ_eq_append_getElem h', Cj, Cj, List.map_append]
  simp only [Jw, List.getElem_map, Zy hy, Option.getD_some]
  rfl
theorem W7 (k : Int) (t : Str) (ks : List Str) (xs : List Tree) (ih : ∀ x, x ∈ xs → G3 x) : G3 (.node k t ks xs) := by
 intro S w0 cs hR hok hnx hsz
 replace hR := hR.old
 rw [H5] at hok
 rw [Ec] at hsz
 have hxn := Bn xs
 replace hnx := Uf hnx
 obtain ⟨A, c, B, e, rfl, hk, ht, hK, hX⟩ := hR.tree_inv
 have hXl := hX.slice_len
 have hKn : k = 6 → ks.length = xs.length := fun e => (Kq (e ▸ hnx.1)).2
 refine Ma func34 rfl ntmps34 Qb (Rc _) ?_
 have hF := FR.start w0 []
 refine Ha ?_
 refine Bh hF rfl ?_
 clear hF; rintro b1 w hb1 hF -
 refine Af (cs := #[.int .i64 0, .string (bs []), .slice none 0 0, .slice none 0 0]) hF zeroValue25 rfl ?_
 clear hF; rintro b2 w hb2 hF -
 refine Yb (Ca (Fc Ke rfl) (Uc (Nm isAgg3 rfl hF.F 1 rfl rfl) (Ca (Fc Pf rfl) (Uc (Ko isAgg9 rfl hF.F 1 rfl rfl) ?_))))
 refine Fa (w' := w) (v := .agg #[.int .i64 k, .string (bs t), .slice none 0 0, .slice none 0 0]) Fb ?_
 refine Hh hF zeroValue25 sizeOf25 rfl ?_
 clear hF; rintro b3 w hb3 hF -
 refine Da (Ia (Ha (Ca (Fc Ke rfl) (Uc (Nm isAgg3 rfl hF.F 2 rfl rfl) (Ca (Vs rfl rfl) (Da ?_))))))
 refine Bc rfl rfl (fun hc0 => ?_) (fun hc0 => ?_)
 refine Ia (Ha (Ca (Fc Vc rfl) (Uc (Mf isAgg23 rfl hF.F 2 rfl rfl) (Ca (Ji underlying23 rfl) (Ca (Za rfl) (Da (Db ?_)))))))
 refine Xc (fun μ σ w => ∃ (j : Nat), ∃ (A1 : Option Addr), ∃ (c1 : Nat), ∃ (sb : List (Nat × Obj)), ∃ (cs1 : List Value), μ = xs.length - j ∧ (j ≤ xs.length) ∧ (SlB 25 4 A1 j c1 cs1 sb) ∧ (RX w0 ([b3, b2, b1] ++ sb.map (·.1)) w (Je (Jg (xs.take j))) cs1) ∧ AllEq σ [(2, .pointer (some ⟨b2, 0, none⟩)), (3, .pointer (some ⟨b3, 0, none⟩)), (18, .slice B xs.length e), (19, .int .i64 ((xs.length : Nat))), (20, .int .i64 ((j : Int)))] ∧ FR w0 [] ([(b3, .cells #[.int .i64 k, .string (bs t), .slice none 0 0, .slice A1 j c1] 25), (b2, .cells #[.int .i64 0, .string (bs []), .slice none 0 0, .slice none 0 0] 25), (b1, .cells #[.int .i64 k, .string (bs t), .slice A ks.length c, .slice B xs.length e] 25)] ++ (sb ++ [])) w) _ ⟨0, none, 0, [], [], rfl, (Nat.zero_le _), (SlB.nil _ _), (RX.nil), Fp, hF⟩ ?_
 clear hF; rintro μ σ w ⟨j, A1, c1, sb, cs1, rfl, hj, hS, hDX, hs, hF⟩
 refine Cg.slots hs ?_
 clear hs; intro σ
 refine Ha (Ca (Fj rfl rfl) (Da (Ia ?_)))
 refine Bc rfl rfl (fun hc1 => ?_) (fun hc1 => ?_)
 refine Ra (Ja (Ia (Db (Ha ?_))))
 obtain ⟨ad0, cs0, hA0, hl0, hk0, hx0⟩ := hX.tree_elem (i := j) by_Om
 have ho0 := hx0.one_
 refine Fa (v := .pointer (some (ad0.add (j * 4)))) (Ya (i := (j : Int)) Sj rfl hA0 rfl by_Om by_Om) (Fa (v := .agg (List.toArray cs0)) (Rb (l := cs0) isAgg25 sizeOf25 rfl hl0 (hF.cells0 hk0)) ?_)
 refine I2 (l := cs0) hF zeroValue25 (by rw [hl0]; exact sizeOf25) (by rw [hl0]; rfl) (v := .agg (List.toArray cs0)) rfl rfl (ho0) rfl ?_
 clear hF; intro b4 w hb4 hF hE
 replace hDX := hDX.alloc hE hb4
 clear hE
 refine Da ?_
 refine De [7] (.free 0 (.free 1 (.free 2 (.act 3 (.act 4 (.act 5 (.free 6 (.act 7 .nil)))))))) hF ?_
 clear hF; intro w hF hE
 replace hDX := hDX.ext hE
 clear hE
 refine ⟨fun wq => FR w0 [] [(b4, .cells (List.toArray cs0) 25), (b3, .cells #[.int .i64 k, .string (bs t), .slice none 0 0, .slice A1 j c1] 25), (b2, .cells #[.int .i64 0, .string (bs []), .slice none 0 0, .slice none 0 0] 25), (b1, .cells #[.int .i64 k, .string (bs t), .slice A ks.length c, .slice B xs.length e] 25)] wq, hF.sub (.cons_cons _ (.cons_cons _ (.cons_cons _ (.cons_cons _ (List.nil_sublist _))))), ?_⟩
 refine Eb rfl (Fc Vc rfl) (Bk rfl (Mf isAgg23 rfl C0 1 rfl rfl) (Ib rfl (v := .agg (List.toArray cs0)) (fun w hC => Rb (l := cs0) isAgg25 sizeOf25 rfl hl0 (hC.cellsAll 0 rfl)) ?_))
 refine Xf rfl (ih xs[j] (List.getElem_mem by_Om) _ _ cs0 (hF.rep hx0) (Qq hok.2.2 _ (List.getElem_mem by_Om)) (hnx.2 _ (List.getElem_mem by_Om)) (by have := If (List.getElem_mem (l := xs) (n := j) by_Om); omega)) (Ua XF rfl rfl) ?_
 rintro _ w ⟨ct, rfl, hRt, hE⟩
 have hlt : ct.length = 4 := hRt.length.trans (Ac _)
 have hot := hRt.one_
 have hYX := RX.made (ids := [b4, b3, b2, b1] ++ sb.map (·.1)) hF.same.size (fun x hx => hF.lt_ids (by grind)) hRt
 replace hDX := (hDX.ext hE).append hYX
 replace hF := hF.ext hE
 clear hE hYX
 refine ⟨hF.sub (.cons_cons _ (.cons_cons _ (.cons_cons _ (.cons_cons _ (List.nil_sublist _))))), ?_⟩
 refine Xb 1 rfl hF (Ul (l := ct) underlying23 sizeOf25 zeroValue25 Oa Oa rfl hlt) ?_
 clear hF; intro b5 w hb5 hF hE
 replace hDX := hDX.alloc hE hb5
 clear hE
 refine ⟨hF.sub (.cons _ (.cons_cons _ (.cons_cons _ (.cons_cons _ (.cons_cons _ (List.nil_sublist _)))))), ?_⟩
 refine Bf [(b5, .cells (List.toArray ct) 25), (b4, .cells (List.toArray cs0) 25), (b3, .cells #[.int .i64 k, .string (bs t), .slice none 0 0, .slice A1 j c1] 25), (b2, .cells #[.int .i64 0, .string (bs []), .slice none 0 0, .slice none 0 0] 25), (b1, .cells #[.int .i64 k, .string (bs t), .slice A ks.length c, .slice B xs.length e] 25)] [] (news := ct) (len' := j + 1) (ys := cs1 ++ ct) rfl RA hF hS rfl rfl (by rw [hlt]) (fun _ => ⟨_, rfl, Qc (hF.cellsAll 0 rfl)⟩) (Cu hot) (by simp only [maxLen]; omega) (rfl) (rfl) by_Om ?_
 clear hF; intro A1 c1 i_1 w hS1_i hF hE hnew
 replace hDX := hDX.app (l := [b5, b4, b3, b2, b1]) hE hnew
 clear hE hnew
 refine ⟨hF.sub (.cons _ (.cons_cons _ (.cons_cons _ (.cons_cons _ (.cons_cons _ (List.nil_sublist _)))))), ?_⟩
 refine Eb rfl (Fc Vc rfl) ?_
 refine FS (.slice _ _ _) rfl hF sizeOf23 rfl rfl UM.app NQ ?_
 clear hF; intro w hF hE
 replace hDX := hDX.store hE (by grind)
 clear hE
 refine Ic (Wb (Ja (Ga (Ca (El rfl rfl) (Ca (Za rfl) (Cb ?_))))))
 refine Gb ⟨_, ?_, j + 1, A1, c1, i_1, cs1 ++ ct, rfl, by_Om, (by assumption), (by rw [Gx by_Om]; exact hDX.sub (by grind)), Fp, hF.drop 2⟩
 omega
 refine Oc (Nc rfl ?_)
 refine Ja (Ha (Uc (Bi isAgg25 sizeOf25 rfl hF.F 0 rfl rfl) ?_))
 refine Ij hF sizeOf25 rfl rfl Y1.app ?_
 clear hF; intro w hF hE
 replace hDX := hDX.store hE (by grind)
 clear hE
 refine Da ?_
 refine Pb (Ob (Qa (Qk rfl (l := [.int .i64 k, .string (bs t), .slice none 0 0, .slice A1 j c1]) rfl isAgg25 sizeOf25 rfl (hF.cellsAll 1 rfl)) ?_))
 have ej : j = xs.length := by omega
 subst ej
 rw [List.take_length] at hDX
 refine ⟨_, rfl, ?_, hF.same⟩
 rw [Mh, if_neg hc0]
 exact Rep.tree_mk hk ht (Rep.nil_slice 0 by_Om none) (hS.rep (pre := [_, _, _]) (post := []) hF hDX (by rw [Hg, Aj, List.length_map]))
 refine Ra (Ja (Ha (Uc (Bi isAgg25 sizeOf25 rfl hF.F 2 rfl rfl) ?_)))
 have k6 : k = 6 := by simpa using hc0
 refine Zb (OE k t ks xs (Kq (k6 ▸ hnx.1)).1 (Kq (k6 ▸ hnx.1)).2 _ _ _ (hF.rep hR)) (Ua GR rfl rfl) ?_
 rintro _ w ⟨m1, l1, rfl, hge, hm1, hk1, hr1, hE⟩
 replace hF := hF.cons_ext hE hm1 hge
 replace hr1 := hr1.back hF.same
 clear hE hm1 hge
 refine Ca (V2) (Yb (Ca (EC) ?_))
 refine Zb (BQ m1 l1 _ (hF.heap (i := 0) rfl)) (Ua RS rfl rfl) ?_
 rintro _ w ⟨bk, rfl, hKA, hE⟩
 replace hF := hF.ext hE
 clear hE
 refine Zb (M3 bk m1 l1 ks _ hKA hk1 (Kq (k6 ▸ hnx.1)).1 by_Om hok.2.1) (Ua ES rfl rfl) ?_
 rintro _ w ⟨A2, c2, rfl, hK2, hE⟩
 have hKX := RX.made (ids := [m1, b3, b2, b1]) hF.same.size (fun x hx => hF.lt_ids (by grind)) hK2
 replace hF := hF.ext hE
 clear hE hK2
 refine Ca (Fc Nf rfl) ?_
 refine Dp (.slice _ _ _) hF sizeOf22 rfl rfl Y1 UM ?_
 clear hF; intro w hF hE
 replace hKX := hKX.store hE (by grind)
 clear hE
 refine Da (Ia (Ha (Ca (Fc Nf rfl) (Uc (Mf isAgg22 rfl hF.F 1 rfl rfl) (Ca (Ji underlying22 rfl) (Ca (Za rfl) (Da (Db ?_))))))))
 refine Xc (fun μ σ w => ∃ (j : Nat), ∃ (A1 : Option Addr), ∃ (c1 : Nat), ∃ (sb : List (Nat × Obj)), ∃ (cs1 : List Value), μ = ks.length - j ∧ (j ≤ ks.length) ∧ (SlB 25 4 A1 j c1 cs1 sb) ∧ (RX w0 ([m1, b3, b2, b1] ++ sb.map (·.1)) w (Je ((Jw ks xs).take j)) cs1) ∧ (RX w0 ([m1, b3, b2, b1] ++ sb.map (·.1)) w [We (Sf ks)] [.slice A2 ks.length c2]) ∧ AllEq σ [(2, .pointer (some ⟨b2, 0, none⟩)), (3, .pointer (some ⟨b3, 0, none⟩)), (6, .map (some m1)), (40, .slice A2 ks.length c2), (41, .int .i64 ((ks.length : Nat))), (42, .int .i64 ((j : Int)))] ∧ FR w0 [] ([(m1, Ql (l1)), (b3, .cells #[.int .i64 k, .string (bs t), .slice A2 ks.length c2, .slice A1 j c1] 25), (b2, .cells #[.int .i64 0, .string (bs []), .slice none 0 0, .slice none 0 0] 25), (b1, .cells #[.int .i64 k, .string (bs t), .slice A ks.length c, .slice B xs.length e] 25)] ++ (sb ++ [])) w) _ ⟨0, none, 0, [], [], rfl, (Nat.zero_le _), (SlB.nil _ _), (RX.nil), (hKX), Xt, hF⟩ ?_
 clear hF; rintro μ σ w ⟨j, A1, c1, sb, cs1, rfl, hj, hS, hDX, hKX, hs, hF⟩
 refine Cg.slots hs ?_
 clear hs; intro σ
 refine Ha (Ca (Fj rfl rfl) (Da (Ia ?_)))
 refine Bc rfl rfl (fun hc2 => ?_) (fun hc2 => ?_)
 refine Ra (Ja (Ia (Db (Ha ?_))))
 obtain ⟨ad2, hA2, hk2, hx2⟩ := hKX.rep.str_elem (i := j) (by rw [Lf]; omega)
 refine Fa (v := .pointer (some (ad2.add (j * 1)))) (Ya (i := (j : Int)) Pj rfl hA2 rfl by_Om by_Om) ?_
 refine Fa (v := .string (bs ((Sf ks)[j]'(by rw [Lf]; omega)))) (Vb isAgg9 rfl hk2) ?_
 refine Ca (Ld rfl) (Da ?_)
 refine De [9] (.free 0 (.free 1 (.free 2 (.free 3 (.free 4 (.act 5 (.act 6 (.act 7 (.free 8 (.act 9 .nil)))))))))) hF ?_
 clear hF; intro w hF hE
 replace hDX := hDX.ext hE
 replace hKX := hKX.ext hE
 clear hE
 refine ⟨fun wq => FR w0 [] [(m1, Ql (l1)), (b3, .cells #[.int .i64 k, .string (bs t), .slice A2 ks.length c2, .slice A1 j c1] 25), (b2, .cells #[.int .i64 0, .string (bs []), .slice none 0 0, .slice none 0 0] 25), (b1, .cells #[.int .i64 k, .string (bs t), .slice A ks.length c, .slice B xs.length e] 25)] wq, hF.sub (.cons_cons _ (.cons_cons _ (.cons_cons _ (.cons_cons _ (List.nil_sublist _))))), ?_⟩
 refine Eb rfl (Fc Vc rfl) (Bk rfl (Mf isAgg23 rfl C0 1 rfl rfl) (Eb rfl (EC) (Eb rfl (Pc rfl) ?_)))
 obtain ⟨cy, y, hlk, hlt_, hym, hry⟩ := Z9 hk1 hr1 (Wo.1 (List.getElem_mem (l := Sf ks) (n := j) (by rw [Lf]; omega)))
 have hoy := hry.one_
 have hly : cy.length = 4 := hry.length.trans (Ac _)
 refine Ib rfl (v := .agg (List.toArray cy)) (fun w hC => M2 underlying80 underlying9 zeroValue25 rfl rfl (hC.heap (i := 0) rfl) (by rw [hlk]; rfl)) ?_
 refine Xf rfl (ih y hym _ _ cy (hF.rep hry) (Qq hok.2.2 y hym) (hnx.2 y hym) (by have := If hym; omega)) (Ua XF rfl rfl) ?_
 rintro _ w ⟨ct, rfl, hRt, hE⟩
 have hlt : ct.length = 4 := hRt.length.trans (Ac _)
 have hot := hRt.one_
 have hYX := RX.made (ids := [m1, b3, b2, b1] ++ sb.map (·.1)) hF.same.size (fun x hx => hF.lt_ids (by grind)) hRt
 replace hDX := (hDX.ext hE).append hYX
 replace hF := hF.ext hE
 replace hKX := hKX.ext hE
 clear hE hYX
 refine ⟨hF.sub (.cons_cons _ (.cons_cons _ (.cons_cons _ (.cons_cons _ (List.nil_sublist _))))), ?_⟩
 refine Xb 1 rfl hF (Ul (l := ct) underlying23 sizeOf25 zeroValue25 Oa Oa rfl hlt) ?_
 clear hF; intro b6 w hb6 hF hE
 replace hDX := hDX.alloc hE hb6
 replace hKX := hKX.alloc hE hb6
 clear hE
 refine ⟨hF.sub (.cons _ (.cons_cons _ (.cons_cons _ (.cons_cons _ (.cons_cons _ (List.nil_sublist _)))))), ?_⟩
 refine Bf [(b6, .cells (List.toArray ct) 25), (m1, Ql (l1)), (b3, .cells #[.int .i64 k, .string (bs t), .slice A2 ks.length c2, .slice A1 j c1] 25), (b2, .cells #[.int .i64 0, .string (bs []), .slice none 0 0, .slice none 0 0] 25), (b1, .cells #[.int .i64 k, .string (bs t), .slice A ks.length c, .slice B xs.length e] 25)] [] (news := ct) (len' := j + 1) (ys := cs1 ++ ct) rfl RA hF hS rfl rfl (by rw [hlt]) (fun _ => ⟨_, rfl, Qc (hF.cellsAll 0 rfl)⟩) (Cu hot) (by simp only [maxLen]; omega) (rfl) (rfl) by_Om ?_
 clear hF; intro A3 c3 i_3 w hS3_i hF hE hnew
 replace hDX := hDX.app (l := [b6, m1, b3, b2, b1]) hE hnew
 replace hKX := hKX.app (l := [b6, m1, b3, b2, b1]) hE hnew
 clear hE hnew
 refine ⟨hF.sub (.cons _ (.cons_cons _ (.cons_cons _ (.cons_cons _ (.cons_cons _ (List.nil_sublist _)))))), ?_⟩
 refine Eb rfl (Fc Vc rfl) ?_
 refine FS (.slice _ _ _) rfl hF sizeOf23 rfl rfl UM.app NQ ?_
 clear hF; intro w hF hE
 replace hDX := hDX.store hE (by grind)
 replace hKX := hKX.store hE (by grind)
 clear hE
 refine Ic (Wb (Ja (Ga (Ca (El rfl rfl) (Ca (Za rfl) (Cb ?_))))))
 refine Gb ⟨_, ?_, j + 1, A3, c3, i_3, cs1 ++ ct, rfl, by_Om, (by assumption), (by rw [H1 (by rw [Lf]; omega) hlt_]; exact hDX.sub (by grind)), (hKX.sub (by grind)), Xt, hF.drop 1⟩
 omega
 refine Oc (Nc rfl ?_)
 refine Ja (Ha (Uc (Bi isAgg25 sizeOf25 rfl hF.F 1 rfl rfl) ?_))
 refine Ij hF sizeOf25 rfl rfl UM.app ?_
 clear hF; intro w hF hE
 replace hDX := hDX.store hE (by grind)
 replace hKX := hKX.store hE (by grind)
 clear hE
 refine Da ?_
 refine Pb (Ob (Qa (Qk rfl (l := [.int .i64 k, .string (bs t), .slice A2 ks.length c2, .slice A1 j c1]) rfl isAgg25 sizeOf25 rfl (hF.cellsAll 2 rfl)) ?_))
 have ej : j = ks.length := by omega
 subst ej
 rw [List.take_of_length_le (by rw [Mn]; exact Nat.le_refl _)] at hDX
 refine ⟨_, rfl, ?_, hF.same⟩
 rw [Mh, if_pos k6]
 · exact Rep.tree_mk hk ht hKX.done (hS.rep (pre := [_, _, _, _]) (post := []) hF hDX (by rw [Hg]; exact Mn ks xs))
theorem LH (x : Tree) : G3 x := Tree.ind W7 x
end Go.Scarf
namespace Go.Scarf
open Go.RowKit Go.Proofs Go.Proofs.Tryz
def YG : Tree := .node 0 [] [] []
theorem S5 (S : Nat → Prop) (w : World) : Rep S w (Gc YG) [.int .i64 0, .string (bs []), .slice none 0 0, .slice none 0 0] :=
  Rep.tree_mk ⟨by omega, by omega⟩ Sa (Rep.nil_slice 0 by_Om none) (Rep.nil_slice 0 by_Om none)
def Cf (x : Tree) : Tree := if Ti x then Mh x else YG
theorem L_ {k : Int} {t : Str} {ks : List Str} {xs : List Tree} (h : nodeB (.node k t ks xs) = true) : ks.length ≤ xs.length := by
  by_cases h6 : k = 6
  · subst h6; have := (Kq h).2; omega
  · have : ks = [] := by
      simp only [nodeB] at h
      by_cases h5 : k = 5
      · subst h5; simp at h; exact h.1
      · rw [if_neg h5, if_neg h6] at h
        cases ks with
        | nil => rfl
        | cons a l => simp at h
    subst this; simp
theorem AD : ∀ x : Tree, Yd nodeB x = true → Jo x + 1 ≤ Ec x := fun x => Tree.ind (Q := fun x => Yd nodeB x = true → Jo x + 1 ≤ Ec x) (fun k t ks xs ih h => by
  obtain ⟨h1, h2⟩ := Uf h
  have h3 := L_ h1
  have h7 : ∀ ys : List Tree, (∀ y ∈ ys, y ∈ xs) → ys.length + Hm ys ≤ Zc ys := by
    intro ys
    induction ys with
    | nil => intro _; simp [Hm, Zc]
    | cons y ys ihy =>
      intro hm
      have h5 := ihy (fun z hz => hm z (by simp [hz]))
      have h9 := ih y (hm y Sa) (h2 y (hm y Sa))
      simp only [Hm, Zc, List.length_cons]; omega
  have := h7 xs (fun _ h => h)
  rw [Jo, Ec]
  omega) x
theorem J2 {key : Str} {y : Tree} : ∀ {ks : List Str} {xs : List Tree}, Ai ks xs key = some y → y ∈ xs
  | [], xs, h => by cases xs <;> cases h
  | k :: ks, [], h => by cases h
  | k :: ks, x :: xs, h => by
    rw [Ai] at h
    by_cases he : k = key
    · rw [if_pos he] at h; injection h with h; simp [h]
    · rw [if_neg he] at h; simp [J2 h]
theorem GB : ∀ {xs : List Tree}, (∀ x ∈ xs, H5 x) → V8 xs
  | [], _ => by rw [V8]; trivial
  | x :: xs, h => by rw [V8]; exact ⟨h x Sa, GB (fun y hy => h y (by simp [hy]))⟩
theorem F1 {x : Tree} (h : Ti x = true) : Ec x ≤ 4096 := by
  unfold Ti Yj at h; simp only [Bool.and_eq_true, decide_eq_true_eq] at h; exact h.1.1
theorem OD (x : Tree) (hsz : Ec x ≤ 1000000000) (S : Nat → Prop) (w0 : World) (cs : List Value) (hR : Rep S w0 (Gc x) cs) (hk : H5 x) (hG : Gl w0) : VL 16 #[.agg cs.toArray] (Gc (Cf x)) w0 := by
 have hl : cs.length = 4 := hR.length.trans (Ac x)
 have ho := hR.one_
 refine Ma func16 rfl ntmps16 Qb (Rc _) ?_
 have hF := FR.start w0 []
 refine Ha ?_
 refine Vf (v := .agg (List.toArray cs)) (cs := (List.toArray cs)) hF rfl rfl ?_
 clear hF; rintro b1 w hb1 hF -
 refine Af (cs := #[.int .i64 0, .string (bs []), .slice none 0 0, .slice none 0 0]) hF zeroValue25 rfl ?_
 clear hF; rintro b2 w hb2 hF -
 refine Da (Ia (Ha (Fa (v := .agg (List.toArray cs)) (Rb (l := cs) isAgg25 sizeOf25 rfl hl (hF.cellsAll 1 rfl)) ?_)))
 refine Va hF (WO x hsz S _ cs (hF.rep hR) hk (hG.ext hF.same)) (Ua YR rfl rfl) ?_
 clear hF; intro w hF
 refine Ca (Dm rfl) (Da ?_)
 refine Vh rfl rfl (fun hc0 => ?_) (fun hc0 => ?_)
 refine Ha ?_
 refine Fa (w' := w) (v := .agg #[.int .i64 0, .string (bs []), .slice none 0 0, .slice none 0 0]) Fb ?_
 refine Ij hF sizeOf25 rfl rfl Dl ?_
 clear hF; rintro w hF -
 refine Da ?_
 refine Pb (Ob (Qa (Qk rfl (l := [.int .i64 0, .string (bs []), .slice none 0 0, .slice none 0 0]) rfl isAgg25 sizeOf25 rfl (hF.cellsAll 0 rfl)) ?_))
 have ho_ : Ti x = false := by simpa using hc0
 refine ⟨_, rfl, ?_, hF.same⟩
 rw [Cf, ho_]
 exact S5 _ _
 refine Ra (Ja (Ha (Fa (v := .agg (List.toArray cs)) (Rb (l := cs) isAgg25 sizeOf25 rfl hl (hF.cellsAll 1 rfl)) ?_)))
 refine Zb (LH x S _ cs (hF.rep hR) hk (Tn (by simpa using hc0)) hsz) (Ua XF rfl rfl) ?_
 rintro _ w ⟨ct, rfl, hRt, hE⟩
 have hlct : ct.length = 4 := hRt.length.trans (Ac _)
 have hoct := hRt.one_
 have hXX := RX.made (ids := [b2, b1]) hF.same.size (fun x hx => hF.lt_ids (by grind)) hRt
 replace hF := hF.ext hE
 clear hE hRt
 refine Pe 0 (l := ct) (cs' := (List.toArray ct)) hF (by rw [hlct]; exact sizeOf25) rfl (v := .agg (List.toArray ct)) rfl rfl (hoct) rfl (by rw [hlct]; exact Nat.le_of_ble_eq_true rfl) (Mr (by rw [hlct]; rfl)) ?_
 clear hF; intro w hF hE
 replace hXX := hXX.store hE (by grind)
 clear hE
 replace hF : FR w0 [] [(b2, .cells (List.toArray ct) 25), _] w := hF
 refine Da ?_
 refine Pb (Ob (Qa (Qk rfl (l := ct) rfl isAgg25 sizeOf25 hlct (hF.cellsAll 0 rfl)) ?_))
 have ho_ : Ti x = true := by simpa using hc0
 refine ⟨_, rfl, ?_, hF.same⟩
 rw [Cf, ho_]
 · exact hXX.done
end Go.Scarf
