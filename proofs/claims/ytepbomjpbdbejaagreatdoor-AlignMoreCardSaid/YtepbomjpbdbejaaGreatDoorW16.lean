/- A part of the proof. -/
import Derived.Test.YtepbomjpbdbejaaGreatDoorW10
import Derived.Test.YtepbomjpbdbejaaGreatDoorFacts
import Derived.Test.YtepbomjpbdbejaaGreatDoorMore
import Derived.Test.YtepbomjpbdbejaaGreatDoorIter
set_option linter.all false
set_option maxHeartbeats 8000000
set_option maxRecDepth 10000
namespace Go.Scarf
open Go.RowKit Go.Proofs Go.Proofs.Tryz
mutual
def Om : Tree → Nat | .node _ _ ks xs => ks.length + Fk xs
def Fk : List Tree → Nat | [] => 0 | x :: xs => Om x + Fk xs
end
def Lie (w : World) (A : Option Addr) (n : Nat) (es : List Value) : Prop := n ≠ 0 → ∃ ad, A = some ad ∧ ∀ j (hj : j < es.length), w.cell? (ad.add j) = some es[j]
theorem Lie.ext {w w' : World} {A : Option Addr} {n : Nat} {es : List Value} (h : Lie w A n es) (hs : Same [] w w') : Lie w' A n es := fun hn => by
  obtain ⟨ad, hA, hc⟩ := h hn
  exact ⟨ad, hA, fun j hj => ((FR.start w []).ext hs).cells0 hc j hj⟩
theorem Rep.slice_open {S : Nat → Prop} {w : World} {ds : List D} {A : Option Addr} {n c m : Nat} (h : Rep S w (.slice ds) [.slice A n c]) (hm : ∀ d ∈ ds, Fe d = m) :
    ∃ es, RepL S w ds es ∧ es.length = n * m ∧ Lie w A n es := by
  have hl := h.slice_len
  obtain ⟨A', c', hA, _, _, hr⟩ := Rep.slice_inv h
  simp only [List.cons.injEq, Value.slice.injEq, and_true] at hA
  obtain ⟨rfl, _, _⟩ := hA
  have hsz : ∀ ds : List D, (∀ d ∈ ds, Fe d = m) → Fe.sizeL ds = ds.length * m := by
    intro ds
    induction ds with
    | nil => intro _; simp [Fe.sizeL]
    | cons d ds ih => intro h; rw [Fe.sizeL, h d Fa, ih (fun x hx => h x (by simp [hx])), List.length_cons, Nat.add_mul]; omega
  by_cases hne : ds = []
  · subst hne
    exact ⟨[], RepL.nil_mk, by simp [hl.1], fun h => absurd hl.1 (by simpa using h)⟩
  · obtain ⟨ad, rfl, es, hc, hr⟩ := hr hne
    exact ⟨es, hr, by rw [hr.length, hsz ds hm, hl.1], fun _ => ⟨ad, rfl, fun j hj => (hc j hj).1⟩⟩
theorem Gv (xs : List Tree) : ∀ d ∈ Vc xs, Fe d = 4 := fun d hd => by rw [Oe] at hd; obtain ⟨k, _, rfl⟩ := List.mem_map.1 hd; exact Id k
def UL (F : Nat) (args : Array Value) (d : D) (w0 : World) : Prop := Calls prog F args w0 (Nd fun v w' => ∃ ct : List Value, v = .agg ct.toArray ∧ Rep (Btw w0 w') w' d ct ∧ Same [] w0 w')
end Go.Scarf
namespace Go.Scarf
open Go.RowKit Go.Proofs Go.Proofs.Tryz
mutual
def Rh : Tree → Tree
  | .node k t ks xs => if k = 6 then .node k t (Cj ks) ((Cj ks).map fun key => (Yg ks (Ue xs) key).getD (.node 0 [] [] [])) else .node k t [] (Ue xs)
def Ue : List Tree → List Tree
  | [] => []
  | x :: xs => Rh x :: Ue xs
end
theorem Hi : ∀ xs : List Tree, Ue xs = xs.map Rh
  | [] => rfl
  | x :: xs => by rw [Ue, Hi xs, List.map_cons]
theorem Nw {key : Str} {y : Tree} : ∀ {ks : List Str} {xs : List Tree}, Yg ks xs key = some y → Yg ks (Ue xs) key = some (Rh y)
  | [], xs, h => by cases xs <;> cases h
  | k :: ks, [], h => by cases h
  | k :: ks, x :: xs, h => by
    rw [Ue, Yg]
    rw [Yg] at h
    by_cases he : k = key
    · rw [if_pos he] at h ⊢; injection h with h; rw [h]
    · rw [if_neg he] at h ⊢; exact Nw h
theorem I6 {S : Nat → Prop} {w : World} {key : Str} {ks : List Str} {xs : List Tree} {l : MapL} (hk : l.map (·.1) = ks) (hm : MapRep S w xs l) (hin : key ∈ ks) :
    ∃ (cs : List Value) (y : Tree), Gh l key = some (.agg cs.toArray) ∧ Yg ks xs key = some y ∧ y ∈ xs ∧ Rep S w (Qc y) cs := by
  rcases Zv key hk hm with ⟨h, -⟩ | h
  · exfalso
    rw [← hk] at hin
    obtain ⟨x, hx, hxe⟩ := List.mem_map.1 hin
    unfold Gh at h
    rw [Option.map_eq_none_iff, List.find?_eq_none] at h
    exact h x hx (by simpa using hxe)
  · exact h
theorem MapRep.back {S : Nat → Prop} {w0 w : World} {xs : List Tree} {l : MapL} (h : MapRep (SM S w0) w xs l) (hs : Same [] w0 w) : MapRep (SM S w0) w0 xs l := fun i hi => by
  obtain ⟨cs, h1, h2, h3⟩ := h i hi
  exact ⟨cs, h1, h2, h3.back hs⟩
def KD (w1 : World) (bk m : Nat) (l : MapL) : Prop := ∃ W : World, w1 = W.alloc (.cells #[.map (some m)] 81) ∧ bk = W.heap.size ∧ W.heap[m]? = some (Jj l)
theorem GJ (m : Nat) (l : MapL) (w : World) (hm : w.heap[m]? = some (Jj l)) : Calls prog 101 #[.map (some m)] w (Nd fun v w' => ∃ bk, v = .func (.func 130) #[] #[.pointer (some ⟨bk, 0, none⟩)] ∧ KD w' bk m l ∧ Same [] w w') :=
  (callsIn_wide.1 (maps_Keys_101 (some m) w)).mono fun _ _ ⟨he, hw⟩ => ⟨_, he, w.heap.size, rfl, ⟨w, hw, rfl, hm⟩, by rw [hw]; exact Same.alloc w _⟩
theorem Z0 (bk m : Nat) (l : MapL) (ks : List Str) (w : World) (h : KD w bk m l) (hk : l.map (·.1) = ks) (hn : ks.Nodup) (hb : ks.length ≤ 1000000000) (hs : ∀ s ∈ ks, s.length ≤ 140737488355328) :
    Calls prog 100 #[.func (.func 130) #[] #[.pointer (some ⟨bk, 0, none⟩)]] w (Nd fun v w' => ∃ A c, v = .slice A ks.length c ∧ Rep (Btw w w') w' (Lf (Cj ks)) [.slice A ks.length c] ∧ Same [] w w') := by
  obtain ⟨W, rfl, rfl, hm⟩ := h
  have hl : l.length = ks.length := by rw [← hk, List.length_map]
  obtain ⟨D0, hown, hperm, hsz⟩ := J7 (P := prog) underlying9 hm (by rw [hk]; exact hn) (fun x hx => by have := hs x.1 (by rw [← hk]; exact List.mem_map_of_mem hx); simp only [maxLen]; omega) (by simp only [maxLen]; omega)
  refine (callsIn_wide.1 (slices_Sorted_keys_100_101 m l.length D0 _ W hown (by rw [hsz]; simp only [maxLen]; omega) (by rw [hsz]; omega))).mono ?_
  rintro e w' ⟨v, ss, rfl, hp, hrow, -, hbel⟩
  have hpk : ss.Perm ks := by rw [← hk]; exact hp.trans hperm
  have e1 : (ss.mergeSort fun x y => decide (x ≤ y)) = Cj ks := Ox hpk
  rw [e1] at hrow
  have e2 : ss.length = (Cj ks).length := by rw [Lh]; exact hpk.length_eq
  rw [e2] at hrow
  obtain ⟨A, c, rfl, hr⟩ := SC (S := Btw (W.alloc (.cells #[.map (some m)] 81)) w') 9 hrow (fun g h1 h2 h3 => ⟨h1, h2, h3⟩) (fun s hs' => by have := hs s (Us.1 hs'); omega)
  rw [Lh] at hr
  exact ⟨_, rfl, A, c, by rw [Lh], hr, .of_below hbel⟩
def M0 (x : Tree) : Prop := ∀ S w0 cs, Rep S w0 (Qc x) cs → Lx x → Ud nodeB x = true → Kc x ≤ 1000000000 → UL 82 #[.agg cs.toArray] (Qc (Rh x)) w0
theorem U2 {xs : List Tree} {j : Nat} (h : j < xs.length) : Vc (Ue (xs.take (j + 1))) = Vc (Ue (xs.take j)) ++ [Qc (Rh xs[j])] := by
  rw [List.take_succ_eq_append_getElem h, Oe, Oe, Hi, Hi, List.map_append, List.map_append]; rfl
def By (ks : List Str) (xs : List Tree) : List Tree := (Cj ks).map fun key => (Yg ks (Ue xs) key).getD (.node 0 [] [] [])
theorem Iw (ks : List Str) (xs : List Tree) : (By ks xs).length = ks.length := by rw [By, List.length_map, Lh]
theorem DB {ks : List Str} {xs : List Tree} {j : Nat} {y : Tree} (h : j < (Cj ks).length) (hy : Yg ks xs (Cj ks)[j] = some y) : Vc ((By ks xs).take (j + 1)) = Vc ((By ks xs).take j) ++ [Qc (Rh y)] := by
  have h' : j < (By ks xs).length := by rw [Iw, ← Lh]; exact h
  rw [List.take_succ_eq_append_getElem h', Oe, Oe, List.map_append]
  simp only [By, List.getElem_map, Nw hy, Option.getD_some]
  rfl
theorem Y2 (k : Int) (t : Str) (ks : List Str) (xs : List Tree) (ih : ∀ x, x ∈ xs → M0 x) : M0 (.node k t ks xs) := by
 intro S w0 cs hR hok hnx hsz
 replace hR := hR.old
 rw [Lx] at hok
 rw [Kc] at hsz
 have hxn := Gn xs
 replace hnx := Gg hnx
 obtain ⟨A, c, B, e, rfl, hk, ht, hK, hX⟩ := hR.tree_inv
 have hXl := hX.slice_len
 have hKn : k = 6 → ks.length = xs.length := fun e => (Dq (e ▸ hnx.1)).2
 refine Ka func82 rfl ntmps82 Kb (Yc _) ?_
 have hF := FR.start w0 []
 refine Ma ?_
 refine Ij hF rfl ?_
 clear hF; rintro b1 w hb1 hF -
 refine Ch (cs := #[.int .i64 0, .string (bs []), .slice none 0 0, .slice none 0 0]) hF zeroValue27 rfl ?_
 clear hF; rintro b2 w hb2 hF -
 refine Dc (Ca (Ac Tn rfl) (Md (Rr isAgg3 rfl hF.F 1 rfl rfl) (Ca (Ac Bi rfl) (Md (Nv isAgg9 rfl hF.F 1 rfl rfl) ?_))))
 refine Ja (w' := w) (v := .agg #[.int .i64 k, .string (bs t), .slice none 0 0, .slice none 0 0]) Eb ?_
 refine Hm hF zeroValue27 sizeOf27 rfl ?_
 clear hF; rintro b3 w hb3 hF -
 refine Ga (Ia (Ma (Ca (Ac Tn rfl) (Md (Rr isAgg3 rfl hF.F 2 rfl rfl) (Ca (Xx rfl rfl) (Ga ?_))))))
 refine Jc rfl rfl (fun hc0 => ?_) (fun hc0 => ?_)
 refine Ia (Ma (Ca (Ac Ae rfl) (Md (Di isAgg22 rfl hF.F 2 rfl rfl) (Ca (Mf underlying22 rfl) (Ca (Ib rfl) (Ga (Va ?_)))))))
 refine Xc (fun μ σ w => ∃ (j : Nat), ∃ (A1 : Option Addr), ∃ (c1 : Nat), ∃ (sb : List (Nat × Obj)), ∃ (cs1 : List Value), μ = xs.length - j ∧ (j ≤ xs.length) ∧ (SlB 27 4 A1 j c1 cs1 sb) ∧ (RX w0 ([b3, b2, b1] ++ sb.map (·.1)) w (Vc (Ue (xs.take j))) cs1) ∧ AllEq σ [(2, .pointer (some ⟨b2, 0, none⟩)), (3, .pointer (some ⟨b3, 0, none⟩)), (18, .slice B xs.length e), (19, .int .i64 ((xs.length : Nat))), (20, .int .i64 ((j : Int)))] ∧ FR w0 [] ([(b3, .cells #[.int .i64 k, .string (bs t), .slice none 0 0, .slice A1 j c1] 27), (b2, .cells #[.int .i64 0, .string (bs []), .slice none 0 0, .slice none 0 0] 27), (b1, .cells #[.int .i64 k, .string (bs t), .slice A ks.length c, .slice B xs.length e] 27)] ++ (sb ++ [])) w) _ ⟨0, none, 0, [], [], rfl, (Nat.zero_le _), (SlB.nil _ _), (RX.nil), Nt, hF⟩ ?_
 clear hF; rintro μ σ w ⟨j, A1, c1, sb, cs1, rfl, hj, hS, hDX, hs, hF⟩
 refine Cg.slots hs ?_
 clear hs; intro σ
 refine Ma (Ca (Yl rfl rfl) (Ga (Ia ?_)))
 refine Jc rfl rfl (fun hc1 => ?_) (fun hc1 => ?_)
 refine Wa (Ha (Ia (Va (Ma ?_))))
 obtain ⟨ad0, cs0, hA0, hl0, hk0, hx0⟩ := hX.tree_elem (i := j) by_Om
 have ho0 := hx0.one_
 refine Ja (v := .pointer (some (ad0.add (j * 4)))) (Ra (i := (j : Int)) Il rfl hA0 rfl by_Om by_Om) (Ja (v := .agg (List.toArray cs0)) (Wb (l := cs0) isAgg27 sizeOf27 rfl hl0 (hF.cells0 hk0)) ?_)
 refine Ku (l := cs0) hF zeroValue27 (by rw [hl0]; exact sizeOf27) (by rw [hl0]; rfl) (v := .agg (List.toArray cs0)) rfl rfl (ho0) rfl ?_
 clear hF; intro b4 w hb4 hF hE
 replace hDX := hDX.alloc hE hb4
 clear hE
 refine Ga ?_
 refine Dd [7] (.free 0 (.free 1 (.free 2 (.act 3 (.act 4 (.act 5 (.free 6 (.act 7 .nil)))))))) hF ?_
 clear hF; intro w hF hE
 replace hDX := hDX.ext hE
 clear hE
 refine ⟨fun wq => FR w0 [] [(b4, .cells (List.toArray cs0) 27), (b3, .cells #[.int .i64 k, .string (bs t), .slice none 0 0, .slice A1 j c1] 27), (b2, .cells #[.int .i64 0, .string (bs []), .slice none 0 0, .slice none 0 0] 27), (b1, .cells #[.int .i64 k, .string (bs t), .slice A ks.length c, .slice B xs.length e] 27)] wq, hF.sub (.cons_cons _ (.cons_cons _ (.cons_cons _ (.cons_cons _ (List.nil_sublist _))))), ?_⟩
 refine Cb rfl (Ac Ae rfl) (Eo rfl (Di isAgg22 rfl C0 1 rfl rfl) (Qa rfl (v := .agg (List.toArray cs0)) (fun w hC => Wb (l := cs0) isAgg27 sizeOf27 rfl hl0 (hC.cellsAll 0 rfl)) ?_))
 refine Ie rfl (ih xs[j] (List.getElem_mem by_Om) _ _ cs0 (hF.rep hx0) (Zo hok.2.2 _ (List.getElem_mem by_Om)) (hnx.2 _ (List.getElem_mem by_Om)) (by have := Ej (List.getElem_mem (l := xs) (n := j) by_Om); omega)) (Fb MC rfl rfl) ?_
 rintro _ w ⟨ct, rfl, hRt, hE⟩
 have hlt : ct.length = 4 := hRt.length.trans (Id _)
 have hot := hRt.one_
 have hYX := RX.made (ids := [b4, b3, b2, b1] ++ sb.map (·.1)) hF.same.size (fun x hx => hF.lt_ids (by grind)) hRt
 replace hDX := (hDX.ext hE).append hYX
 replace hF := hF.ext hE
 clear hE hYX
 refine ⟨hF.sub (.cons_cons _ (.cons_cons _ (.cons_cons _ (.cons_cons _ (List.nil_sublist _))))), ?_⟩
 refine Sc 1 rfl hF (Xd (l := ct) underlying22 sizeOf27 zeroValue27 Pa Pa rfl hlt) ?_
 clear hF; intro b5 w hb5 hF hE
 replace hDX := hDX.alloc hE hb5
 clear hE
 refine ⟨hF.sub (.cons _ (.cons_cons _ (.cons_cons _ (.cons_cons _ (.cons_cons _ (List.nil_sublist _)))))), ?_⟩
 refine Vb [(b5, .cells (List.toArray ct) 27), (b4, .cells (List.toArray cs0) 27), (b3, .cells #[.int .i64 k, .string (bs t), .slice none 0 0, .slice A1 j c1] 27), (b2, .cells #[.int .i64 0, .string (bs []), .slice none 0 0, .slice none 0 0] 27), (b1, .cells #[.int .i64 k, .string (bs t), .slice A ks.length c, .slice B xs.length e] 27)] [] (news := ct) (len' := j + 1) (ys := cs1 ++ ct) rfl Tl hF hS rfl rfl (by rw [hlt]) (fun _ => ⟨_, rfl, Jb (hF.cellsAll 0 rfl)⟩) (Eh hot) (by simp only [maxLen]; omega) (rfl) (rfl) by_Om ?_
 clear hF; intro A1 c1 i_1 w hS1_i hF hE hnew
 replace hDX := hDX.app (l := [b5, b4, b3, b2, b1]) hE hnew
 clear hE hnew
 refine ⟨hF.sub (.cons _ (.cons_cons _ (.cons_cons _ (.cons_cons _ (.cons_cons _ (List.nil_sublist _)))))), ?_⟩
 refine Cb rfl (Ac Ae rfl) ?_
 refine RM (.slice _ _ _) rfl hF sizeOf22 rfl rfl EH.app VJ ?_
 clear hF; intro w hF hE
 replace hDX := hDX.store hE (by grind)
 clear hE
 refine Bc (Ob (Ha (Ea (Ca (Dm rfl rfl) (Ca (Ib rfl) (Za ?_))))))
 refine Ec ⟨_, ?_, j + 1, A1, c1, i_1, cs1 ++ ct, rfl, by_Om, (by assumption), (by rw [U2 by_Om]; exact hDX.sub (by grind)), Nt, hF.drop 2⟩
 omega
 refine Lc (Hc rfl ?_)
 refine Ha (Ma (Md (Pk isAgg27 sizeOf27 rfl hF.F 0 rfl rfl) ?_))
 refine Pl hF sizeOf27 rfl rfl I2.app ?_
 clear hF; intro w hF hE
 replace hDX := hDX.store hE (by grind)
 clear hE
 refine Ga ?_
 refine Zb (Xb (Ua (Dv rfl (l := [.int .i64 k, .string (bs t), .slice none 0 0, .slice A1 j c1]) rfl isAgg27 sizeOf27 rfl (hF.cellsAll 1 rfl)) ?_))
 have ej : j = xs.length := by omega
 subst ej
 rw [List.take_length] at hDX
 refine ⟨_, rfl, ?_, hF.same⟩
 rw [Rh, if_neg hc0]
 exact Rep.tree_mk hk ht (Rep.nil_slice 0 by_Om none) (hS.rep (pre := [_, _, _]) (post := []) hF hDX (by rw [Uf, Hi, List.length_map]))
 refine Wa (Ha (Ma (Md (Pk isAgg27 sizeOf27 rfl hF.F 2 rfl rfl) ?_)))
 have k6 : k = 6 := by simpa using hc0
 refine Ya (MA k t ks xs (Dq (k6 ▸ hnx.1)).1 (Dq (k6 ▸ hnx.1)).2 _ _ _ (hF.rep hR)) (Fb TM rfl rfl) ?_
 rintro _ w ⟨m1, l1, rfl, hge, hm1, hk1, hr1, hE⟩
 replace hF := hF.cons_ext hE hm1 hge
 replace hr1 := hr1.back hF.same
 clear hE hm1 hge
 refine Ca (Mx) (Dc (Ca (M5) ?_))
 refine Ya (GJ m1 l1 _ (hF.heap (i := 0) rfl)) (Fb FJ rfl rfl) ?_
 rintro _ w ⟨bk, rfl, hKA, hE⟩
 replace hF := hF.ext hE
 clear hE
 refine Ya (Z0 bk m1 l1 ks _ hKA hk1 (Dq (k6 ▸ hnx.1)).1 by_Om hok.2.1) (Fb QJ rfl rfl) ?_
 rintro _ w ⟨A2, c2, rfl, hK2, hE⟩
 have hKX := RX.made (ids := [m1, b3, b2, b1]) hF.same.size (fun x hx => hF.lt_ids (by grind)) hK2
 replace hF := hF.ext hE
 clear hE hK2
 refine Ca (Ac Ni rfl) ?_
 refine Fm (.slice _ _ _) hF sizeOf25 rfl rfl I2 EH ?_
 clear hF; intro w hF hE
 replace hKX := hKX.store hE (by grind)
 clear hE
 refine Ga (Ia (Ma (Ca (Ac Ni rfl) (Md (Di isAgg25 rfl hF.F 1 rfl rfl) (Ca (Mf underlying25 rfl) (Ca (Ib rfl) (Ga (Va ?_))))))))
 refine Xc (fun μ σ w => ∃ (j : Nat), ∃ (A1 : Option Addr), ∃ (c1 : Nat), ∃ (sb : List (Nat × Obj)), ∃ (cs1 : List Value), μ = ks.length - j ∧ (j ≤ ks.length) ∧ (SlB 27 4 A1 j c1 cs1 sb) ∧ (RX w0 ([m1, b3, b2, b1] ++ sb.map (·.1)) w (Vc ((By ks xs).take j)) cs1) ∧ (RX w0 ([m1, b3, b2, b1] ++ sb.map (·.1)) w [Lf (Cj ks)] [.slice A2 ks.length c2]) ∧ AllEq σ [(2, .pointer (some ⟨b2, 0, none⟩)), (3, .pointer (some ⟨b3, 0, none⟩)), (6, .map (some m1)), (40, .slice A2 ks.length c2), (41, .int .i64 ((ks.length : Nat))), (42, .int .i64 ((j : Int)))] ∧ FR w0 [] ([(m1, Jj (l1)), (b3, .cells #[.int .i64 k, .string (bs t), .slice A2 ks.length c2, .slice A1 j c1] 27), (b2, .cells #[.int .i64 0, .string (bs []), .slice none 0 0, .slice none 0 0] 27), (b1, .cells #[.int .i64 k, .string (bs t), .slice A ks.length c, .slice B xs.length e] 27)] ++ (sb ++ [])) w) _ ⟨0, none, 0, [], [], rfl, (Nat.zero_le _), (SlB.nil _ _), (RX.nil), (hKX), PA, hF⟩ ?_
 clear hF; rintro μ σ w ⟨j, A1, c1, sb, cs1, rfl, hj, hS, hDX, hKX, hs, hF⟩
 refine Cg.slots hs ?_
 clear hs; intro σ
 refine Ma (Ca (Yl rfl rfl) (Ga (Ia ?_)))
 refine Jc rfl rfl (fun hc2 => ?_) (fun hc2 => ?_)
 refine Wa (Ha (Ia (Va (Ma ?_))))
 obtain ⟨ad2, hA2, hk2, hx2⟩ := hKX.rep.str_elem (i := j) (by rw [Lh]; omega)
 refine Ja (v := .pointer (some (ad2.add (j * 1)))) (Ra (i := (j : Int)) Du rfl hA2 rfl by_Om by_Om) ?_
 refine Ja (v := .string (bs ((Cj ks)[j]'(by rw [Lh]; omega)))) (Db isAgg9 rfl hk2) ?_
 refine Ca (Li rfl) (Ga ?_)
 refine Dd [9] (.free 0 (.free 1 (.free 2 (.free 3 (.free 4 (.act 5 (.act 6 (.act 7 (.free 8 (.act 9 .nil)))))))))) hF ?_
 clear hF; intro w hF hE
 replace hDX := hDX.ext hE
 replace hKX := hKX.ext hE
 clear hE
 refine ⟨fun wq => FR w0 [] [(m1, Jj (l1)), (b3, .cells #[.int .i64 k, .string (bs t), .slice A2 ks.length c2, .slice A1 j c1] 27), (b2, .cells #[.int .i64 0, .string (bs []), .slice none 0 0, .slice none 0 0] 27), (b1, .cells #[.int .i64 k, .string (bs t), .slice A ks.length c, .slice B xs.length e] 27)] wq, hF.sub (.cons_cons _ (.cons_cons _ (.cons_cons _ (.cons_cons _ (List.nil_sublist _))))), ?_⟩
 refine Cb rfl (Ac Ae rfl) (Eo rfl (Di isAgg22 rfl C0 1 rfl rfl) (Cb rfl (M5) (Cb rfl (Xe rfl) ?_)))
 obtain ⟨cy, y, hlk, hlt_, hym, hry⟩ := I6 hk1 hr1 (Us.1 (List.getElem_mem (l := Cj ks) (n := j) (by rw [Lh]; omega)))
 have hoy := hry.one_
 have hly : cy.length = 4 := hry.length.trans (Id _)
 refine Qa rfl (v := .agg (List.toArray cy)) (fun w hC => Qz underlying81 underlying9 zeroValue27 rfl rfl (hC.heap (i := 0) rfl) (by rw [hlk]; rfl)) ?_
 refine Ie rfl (ih y hym _ _ cy (hF.rep hry) (Zo hok.2.2 y hym) (hnx.2 y hym) (by have := Ej hym; omega)) (Fb MC rfl rfl) ?_
 rintro _ w ⟨ct, rfl, hRt, hE⟩
 have hlt : ct.length = 4 := hRt.length.trans (Id _)
 have hot := hRt.one_
 have hYX := RX.made (ids := [m1, b3, b2, b1] ++ sb.map (·.1)) hF.same.size (fun x hx => hF.lt_ids (by grind)) hRt
 replace hDX := (hDX.ext hE).append hYX
 replace hF := hF.ext hE
 replace hKX := hKX.ext hE
 clear hE hYX
 refine ⟨hF.sub (.cons_cons _ (.cons_cons _ (.cons_cons _ (.cons_cons _ (List.nil_sublist _))))), ?_⟩
 refine Sc 1 rfl hF (Xd (l := ct) underlying22 sizeOf27 zeroValue27 Pa Pa rfl hlt) ?_
 clear hF; intro b6 w hb6 hF hE
 replace hDX := hDX.alloc hE hb6
 replace hKX := hKX.alloc hE hb6
 clear hE
 refine ⟨hF.sub (.cons _ (.cons_cons _ (.cons_cons _ (.cons_cons _ (.cons_cons _ (List.nil_sublist _)))))), ?_⟩
 refine Vb [(b6, .cells (List.toArray ct) 27), (m1, Jj (l1)), (b3, .cells #[.int .i64 k, .string (bs t), .slice A2 ks.length c2, .slice A1 j c1] 27), (b2, .cells #[.int .i64 0, .string (bs []), .slice none 0 0, .slice none 0 0] 27), (b1, .cells #[.int .i64 k, .string (bs t), .slice A ks.length c, .slice B xs.length e] 27)] [] (news := ct) (len' := j + 1) (ys := cs1 ++ ct) rfl Tl hF hS rfl rfl (by rw [hlt]) (fun _ => ⟨_, rfl, Jb (hF.cellsAll 0 rfl)⟩) (Eh hot) (by simp only [maxLen]; omega) (rfl) (rfl) by_Om ?_
 clear hF; intro A3 c3 i_3 w hS3_i hF hE hnew
 replace hDX := hDX.app (l := [b6, m1, b3, b2, b1]) hE hnew
 replace hKX := hKX.app (l := [b6, m1, b3, b2, b1]) hE hnew
 clear hE hnew
 refine ⟨hF.sub (.cons _ (.cons_cons _ (.cons_cons _ (.cons_cons _ (.cons_cons _ (List.nil_sublist _)))))), ?_⟩
 refine Cb rfl (Ac Ae rfl) ?_
 refine RM (.slice _ _ _) rfl hF sizeOf22 rfl rfl EH.app VJ ?_
 clear hF; intro w hF hE
 replace hDX := hDX.store hE (by grind)
 replace hKX := hKX.store hE (by grind)
 clear hE
 refine Bc (Ob (Ha (Ea (Ca (Dm rfl rfl) (Ca (Ib rfl) (Za ?_))))))
 refine Ec ⟨_, ?_, j + 1, A3, c3, i_3, cs1 ++ ct, rfl, by_Om, (by assumption), (by rw [DB (by rw [Lh]; omega) hlt_]; exact hDX.sub (by grind)), (hKX.sub (by grind)), PA, hF.drop 1⟩
 omega
 refine Lc (Hc rfl ?_)
 refine Ha (Ma (Md (Pk isAgg27 sizeOf27 rfl hF.F 1 rfl rfl) ?_))
 refine Pl hF sizeOf27 rfl rfl EH.app ?_
 clear hF; intro w hF hE
 replace hDX := hDX.store hE (by grind)
 replace hKX := hKX.store hE (by grind)
 clear hE
 refine Ga ?_
 refine Zb (Xb (Ua (Dv rfl (l := [.int .i64 k, .string (bs t), .slice A2 ks.length c2, .slice A1 j c1]) rfl isAgg27 sizeOf27 rfl (hF.cellsAll 2 rfl)) ?_))
 have ej : j = ks.length := by omega
 subst ej
 rw [List.take_of_length_le (by rw [Iw]; exact Nat.le_refl _)] at hDX
 refine ⟨_, rfl, ?_, hF.same⟩
 rw [Rh, if_pos k6]
 · exact Rep.tree_mk hk ht hKX.done (hS.rep (pre := [_, _, _, _]) (post := []) hF hDX (by rw [Uf]; exact Iw ks xs))
theorem FF (x : Tree) : M0 x := Tree.ind Y2 x
end Go.Scarf
namespace Go.Scarf
open Go.RowKit Go.Proofs Go.Proofs.Tryz
def RC : Tree := .node 0 [] [] []
theorem LD (S : Nat → Prop) (w : World) : Rep S w (Qc RC) [.int .i64 0, .string (bs []), .slice none 0 0, .slice none 0 0] :=
  Rep.tree_mk ⟨by omega, by omega⟩ Fa (Rep.nil_slice 0 by_Om none) (Rep.nil_slice 0 by_Om none)
def Jf (x : Tree) : Tree := if Mi x then Rh x else RC
theorem T7 {k : Int} {t : Str} {ks : List Str} {xs : List Tree} (h : nodeB (.node k t ks xs) = true) : ks.length ≤ xs.length := by
  by_cases h6 : k = 6
  · subst h6; have := (Dq h).2; omega
  · have : ks = [] := by
      simp only [nodeB] at h
      by_cases h5 : k = 5
      · subst h5; simp at h; exact h.1
      · rw [if_neg h5, if_neg h6] at h
        cases ks with
        | nil => rfl
        | cons a l => simp at h
    subst this; simp
theorem NG : ∀ x : Tree, Ud nodeB x = true → Om x + 1 ≤ Kc x := fun x => Tree.ind (Q := fun x => Ud nodeB x = true → Om x + 1 ≤ Kc x) (fun k t ks xs ih h => by
  obtain ⟨h1, h2⟩ := Gg h
  have h3 := T7 h1
  have h7 : ∀ ys : List Tree, (∀ y ∈ ys, y ∈ xs) → ys.length + Fk ys ≤ Rc ys := by
    intro ys
    induction ys with
    | nil => intro _; simp [Fk, Rc]
    | cons y ys ihy =>
      intro hm
      have h5 := ihy (fun z hz => hm z (by simp [hz]))
      have h9 := ih y (hm y Fa) (h2 y (hm y Fa))
      simp only [Fk, Rc, List.length_cons]; omega
  have := h7 xs (fun _ h => h)
  rw [Om, Kc]
  omega) x
theorem Ty {key : Str} {y : Tree} : ∀ {ks : List Str} {xs : List Tree}, Yg ks xs key = some y → y ∈ xs
  | [], xs, h => by cases xs <;> cases h
  | k :: ks, [], h => by cases h
  | k :: ks, x :: xs, h => by
    rw [Yg] at h
    by_cases he : k = key
    · rw [if_pos he] at h; injection h with h; simp [h]
    · rw [if_neg he] at h; simp [Ty h]
theorem G9 : ∀ {xs : List Tree}, (∀ x ∈ xs, Lx x) → Sx xs
  | [], _ => by rw [Sx]; trivial
  | x :: xs, h => by rw [Sx]; exact ⟨h x Fa, G9 (fun y hy => h y (by simp [hy]))⟩
theorem O_ {x : Tree} (h : Mi x = true) : Kc x ≤ 4096 := by
  unfold Mi On at h; simp only [Bool.and_eq_true, decide_eq_true_eq] at h; exact h.1.1
theorem CB (x : Tree) (hsz : Kc x ≤ 1000000000) (S : Nat → Prop) (w0 : World) (cs : List Value) (hR : Rep S w0 (Qc x) cs) (hk : Lx x) (hG : Gl w0) : UL 55 #[.agg cs.toArray] (Qc (Jf x)) w0 := by
 have hl : cs.length = 4 := hR.length.trans (Id x)
 have ho := hR.one_
 refine Ka func55 rfl ntmps55 Kb (Yc _) ?_
 have hF := FR.start w0 []
 refine Ma ?_
 refine Yn (v := .agg (List.toArray cs)) (cs := (List.toArray cs)) hF rfl rfl ?_
 clear hF; rintro b1 w hb1 hF -
 refine Ch (cs := #[.int .i64 0, .string (bs []), .slice none 0 0, .slice none 0 0]) hF zeroValue27 rfl ?_
 clear hF; rintro b2 w hb2 hF -
 refine Ga (Ia (Ma (Ja (v := .agg (List.toArray cs)) (Wb (l := cs) isAgg27 sizeOf27 rfl hl (hF.cellsAll 1 rfl)) ?_)))
 refine Pb hF (UJ x hsz S _ cs (hF.rep hR) hk (hG.ext hF.same)) (Fb PL rfl rfl) ?_
 clear hF; intro w hF
 refine Ca (Lp rfl) (Ga ?_)
 refine Qj rfl rfl (fun hc0 => ?_) (fun hc0 => ?_)
 refine Ma ?_
 refine Ja (w' := w) (v := .agg #[.int .i64 0, .string (bs []), .slice none 0 0, .slice none 0 0]) Eb ?_
 refine Pl hF sizeOf27 rfl rfl Ol ?_
 clear hF; rintro w hF -
 refine Ga ?_
 refine Zb (Xb (Ua (Dv rfl (l := [.int .i64 0, .string (bs []), .slice none 0 0, .slice none 0 0]) rfl isAgg27 sizeOf27 rfl (hF.cellsAll 0 rfl)) ?_))
 have ho_ : Mi x = false := by simpa using hc0
 refine ⟨_, rfl, ?_, hF.same⟩
 rw [Jf, ho_]
 exact LD _ _
 refine Wa (Ha (Ma (Ja (v := .agg (List.toArray cs)) (Wb (l := cs) isAgg27 sizeOf27 rfl hl (hF.cellsAll 1 rfl)) ?_)))
 refine Ya (FF x S _ cs (hF.rep hR) hk (Xm (by simpa using hc0)) hsz) (Fb MC rfl rfl) ?_
 rintro _ w ⟨ct, rfl, hRt, hE⟩
 have hlct : ct.length = 4 := hRt.length.trans (Id _)
 have hoct := hRt.one_
 have hXX := RX.made (ids := [b2, b1]) hF.same.size (fun x hx => hF.lt_ids (by grind)) hRt
 replace hF := hF.ext hE
 clear hE hRt
 refine Zf 0 (l := ct) (cs' := (List.toArray ct)) hF (by rw [hlct]; exact sizeOf27) rfl (v := .agg (List.toArray ct)) rfl rfl (hoct) rfl (by rw [hlct]; exact Nat.le_of_ble_eq_true rfl) (Ir (by rw [hlct]; rfl)) ?_
 clear hF; intro w hF hE
 replace hXX := hXX.store hE (by grind)
 clear hE
 replace hF : FR w0 [] [(b2, .cells (List.toArray ct) 27), _] w := hF
 refine Ga ?_
 refine Zb (Xb (Ua (Dv rfl (l := ct) rfl isAgg27 sizeOf27 hlct (hF.cellsAll 0 rfl)) ?_))
 have ho_ : Mi x = true := by simpa using hc0
 refine ⟨_, rfl, ?_, hF.same⟩
 rw [Jf, ho_]
 · exact hXX.done
end Go.Scarf
