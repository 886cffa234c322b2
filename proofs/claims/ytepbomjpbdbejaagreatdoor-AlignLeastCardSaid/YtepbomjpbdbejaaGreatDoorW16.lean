/- A part of the proof. -/
import Derived.Test.YtepbomjpbdbejaaGreatDoorW10
import Derived.Test.YtepbomjpbdbejaaGreatDoorFacts
import Derived.Test.YtepbomjpbdbejaaGreatDoorMore
import Derived.Test.YtepbomjpbdbejaaGreatDoorIter
set_option linter.all false
set_option maxHeartbeats 8000000
set_option maxRecDepth 10000
namespace Go.Scarf
open Go.RowKit Go.Proofs Go.Proofs.Tryz
mutual
def Lo : Tree → Nat | .node _ _ ks xs => ks.length + Em xs
def Em : List Tree → Nat | [] => 0 | x :: xs => Lo x + Em xs
end
def Lie (w : World) (A : Option Addr) (n : Nat) (es : List Value) : Prop := n ≠ 0 → ∃ ad, A = some ad ∧ ∀ j (hj : j < es.length), w.cell? (ad.add j) = some es[j]
theorem Lie.ext {w w' : World} {A : Option Addr} {n : Nat} {es : List Value} (h : Lie w A n es) (hs : Same [] w w') : Lie w' A n es := fun hn => by
  obtain ⟨ad, hA, hc⟩ := h hn
  exact ⟨ad, hA, fun j hj => ((FR.start w []).ext hs).cells0 hc j hj⟩
def JS (F : Nat) (args : Array Value) (d : D) (w0 : World) : Prop := Calls prog F args w0 (Rd fun v w' => ∃ ct : List Value, v = .agg ct.toArray ∧ Rep (Btw w0 w') w' d ct ∧ Same [] w0 w')
end Go.Scarf
namespace Go.Scarf
open Go.RowKit Go.Proofs Go.Proofs.Tryz
mutual
def sortT : Tree → Tree
  | .node k t ks xs => if k = 6 then .node k t (Ui ks) ((Ui ks).map fun key => (Me ks (He xs) key).getD (.node 0 [] [] [])) else .node k t [] (He xs)
def He : List Tree → List Tree
  | [] => []
  | x :: xs => sortT x :: He xs
end
theorem Xg : ∀ xs : List Tree, He xs = xs.map sortT
  | [] => rfl
  | x :: xs => by rw [He, Xg xs, List.map_cons]
theorem Ls {key : Str} {y : Tree} : ∀ {ks : List Str} {xs : List Tree}, Me ks xs key = some y → Me ks (He xs) key = some (sortT y)
  | [], xs, h => by cases xs <;> cases h
  | k :: ks, [], h => by cases h
  | k :: ks, x :: xs, h => by
    rw [He, Me]
    rw [Me] at h
    by_cases he : k = key
    · rw [if_pos he] at h ⊢; injection h with h; rw [h]
    · rw [if_neg he] at h ⊢; exact Ls h
theorem IB {S : Nat → Prop} {w : World} {key : Str} {ks : List Str} {xs : List Tree} {l : MapL} (hk : l.map (·.1) = ks) (hm : MapRep S w xs l) (hin : key ∈ ks) :
    ∃ (cs : List Value) (y : Tree), Ah l key = some (.agg cs.toArray) ∧ Me ks xs key = some y ∧ y ∈ xs ∧ Rep S w (Sc y) cs := by
  rcases Ss key hk hm with ⟨h, -⟩ | h
  · exfalso
    rw [← hk] at hin
    obtain ⟨x, hx, hxe⟩ := List.mem_map.1 hin
    unfold Ah at h
    rw [Option.map_eq_none_iff, List.find?_eq_none] at h
    exact h x hx (by simpa using hxe)
  · exact h
theorem MapRep.back {S : Nat → Prop} {w0 w : World} {xs : List Tree} {l : MapL} (h : MapRep (TT S w0) w xs l) (hs : Same [] w0 w) : MapRep (TT S w0) w0 xs l := fun i hi => by
  obtain ⟨cs, h1, h2, h3⟩ := h i hi
  exact ⟨cs, h1, h2, h3.back hs⟩
def UJ (w1 : World) (bk m : Nat) (l : MapL) : Prop := ∃ W : World, w1 = W.alloc (.cells #[.map (some m)] 81) ∧ bk = W.heap.size ∧ W.heap[m]? = some (Sh l)
theorem CQ (m : Nat) (l : MapL) (w : World) (hm : w.heap[m]? = some (Sh l)) : Calls prog 101 #[.map (some m)] w (Rd fun v w' => ∃ bk, v = .func (.func 130) #[] #[.pointer (some ⟨bk, 0, none⟩)] ∧ UJ w' bk m l ∧ Same [] w w') :=
  (callsIn_wide.1 (maps_Keys_101 (some m) w)).mono fun _ _ ⟨he, hw⟩ => ⟨_, he, w.heap.size, rfl, ⟨w, hw, rfl, hm⟩, by rw [hw]; exact Same.alloc w _⟩
theorem O5 (bk m : Nat) (l : MapL) (ks : List Str) (w : World) (h : UJ w bk m l) (hk : l.map (·.1) = ks) (hn : ks.Nodup) (hb : ks.length ≤ 1000000000) (hs : ∀ s ∈ ks, s.length ≤ 140737488355328) :
    Calls prog 100 #[.func (.func 130) #[] #[.pointer (some ⟨bk, 0, none⟩)]] w (Rd fun v w' => ∃ A c, v = .slice A ks.length c ∧ Rep (Btw w w') w' (Gf (Ui ks)) [.slice A ks.length c] ∧ Same [] w w') := by
  obtain ⟨W, rfl, rfl, hm⟩ := h
  have hl : l.length = ks.length := by rw [← hk, List.length_map]
  obtain ⟨D0, hown, hperm, hsz⟩ := OA (P := prog) underlying9 hm (by rw [hk]; exact hn) (fun x hx => by have := hs x.1 (by rw [← hk]; exact List.mem_map_of_mem hx); simp only [maxLen]; omega) (by simp only [maxLen]; omega)
  refine (callsIn_wide.1 (slices_Sorted_keys_100_101 m l.length D0 _ W hown (by rw [hsz]; simp only [maxLen]; omega) (by rw [hsz]; omega))).mono ?_
  rintro e w' ⟨v, ss, rfl, hp, hrow, -, hbel⟩
  have hpk : ss.Perm ks := by rw [← hk]; exact hp.trans hperm
  have e1 : (ss.mergeSort fun x y => decide (x ≤ y)) = Ui ks := U1 hpk
  rw [e1] at hrow
  have e2 : ss.length = (Ui ks).length := by rw [Dh]; exact hpk.length_eq
  rw [e2] at hrow
  obtain ⟨A, c, rfl, hr⟩ := TI (S := Btw (W.alloc (.cells #[.map (some m)] 81)) w') 9 hrow (fun g h1 h2 h3 => ⟨h1, h2, h3⟩) (fun s hs' => by have := hs s (Pm.1 hs'); omega)
  rw [Dh] at hr
  exact ⟨_, rfl, A, c, by rw [Dh], hr, .of_below hbel⟩
def W6 (x : Tree) : Prop := ∀ S w0 cs, Rep S w0 (Sc x) cs → Ox x → Vc nodeB x = true → Ac x ≤ 1000000000 → JS 82 #[.agg cs.toArray] (Sc (sortT x)) w0
theorem L9 {xs : List Tree} {j : Nat} (h : j < xs.length) : Dd (He (xs.take (j + 1))) = Dd (He (xs.take j)) ++ [Sc (sortT xs[j])] := by
  rw [List.take_succ_eq_append_getElem h, Vh, Vh, Xg, Xg, List.map_append, List.map_append]; rfl
def C2 (ks : List Str) (xs : List Tree) : List Tree := (Ui ks).map fun key => (Me ks (He xs) key).getD (.node 0 [] [] [])
theorem Dy (ks : List Str) (xs : List Tree) : (C2 ks xs).length = ks.length := by rw [C2, List.length_map, Dh]
theorem CF {ks : List Str} {xs : List Tree} {j : Nat} {y : Tree} (h : j < (Ui ks).length) (hy : Me ks xs (Ui ks)[j] = some y) : Dd ((C2 ks xs).take (j + 1)) = Dd ((C2 ks xs).take j) ++ [Sc (sortT y)] := by
  have h' : j < (C2 ks xs).length := by rw [Dy, ← Dh]; exact h
  rw [List.take_succ_eq_append_getElem h', Vh, Vh, List.map_append]
  simp only [C2, List.getElem_map, Ls hy, Option.getD_some]
  rfl
theorem E7 (k : Int) (t : Str) (ks : List Str) (xs : List Tree) (ih : ∀ x, x ∈ xs → W6 x) : W6 (.node k t ks xs) := by
 intro S w0 cs hR hok hnx hsz
 replace hR := hR.old
 rw [Ox] at hok
 rw [Ac] at hsz
 have hxn := To xs
 replace hnx := Td hnx
 obtain ⟨A, c, B, e, rfl, hk, ht, hK, hX⟩ := hR.tree_inv
 have hXl := hX.slice_len
 have hKn : k = 6 → ks.length = xs.length := fun e => (Tl (e ▸ hnx.1)).2
 refine Ma func82 rfl ntmps82 Jb (Ed _) ?_
 have hF := FR.start w0 []
 refine Ka ?_
 refine Sj hF rfl ?_
 clear hF; rintro b1 w hb1 hF -
 refine Ig (cs := #[.int .i64 0, .string (bs []), .slice none 0 0, .slice none 0 0]) hF zeroValue27 rfl ?_
 clear hF; rintro b2 w hb2 hF -
 refine Cc (Ca (Kc Hl rfl) (Qd (Zr isAgg3 rfl hF.F 1 rfl rfl) (Ca (Kc Yh rfl) (Qd (Jx isAgg9 rfl hF.F 1 rfl rfl) ?_))))
 refine Ja (w' := w) (v := .agg #[.int .i64 k, .string (bs t), .slice none 0 0, .slice none 0 0]) Ib ?_
 refine Bj hF zeroValue27 sizeOf27 rfl ?_
 clear hF; rintro b3 w hb3 hF -
 refine Ea (Ia (Ka (Ca (Kc Hl rfl) (Qd (Zr isAgg3 rfl hF.F 2 rfl rfl) (Ca (Ux rfl rfl) (Ea ?_))))))
 refine Pc rfl rfl (fun hc0 => ?_) (fun hc0 => ?_)
 refine Ia (Ka (Ca (Kc Ce rfl) (Qd (Vi isAgg22 rfl hF.F 2 rfl rfl) (Ca (Qe underlying22 rfl) (Ca (Hb rfl) (Ea (Va ?_)))))))
 refine Uc (fun μ σ w => ∃ (j : Nat), ∃ (A1 : Option Addr), ∃ (c1 : Nat), ∃ (sb : List (Nat × Obj)), ∃ (cs1 : List Value), μ = xs.length - j ∧ (j ≤ xs.length) ∧ (SlB 27 4 A1 j c1 cs1 sb) ∧ (RX w0 ([b3, b2, b1] ++ sb.map (·.1)) w (Dd (He (xs.take j))) cs1) ∧ AllEq σ [(2, .pointer (some ⟨b2, 0, none⟩)), (3, .pointer (some ⟨b3, 0, none⟩)), (18, .slice B xs.length e), (19, .int .i64 ((xs.length : Nat))), (20, .int .i64 ((j : Int)))] ∧ FR w0 [] ([(b3, .cells #[.int .i64 k, .string (bs t), .slice none 0 0, .slice A1 j c1] 27), (b2, .cells #[.int .i64 0, .string (bs []), .slice none 0 0, .slice none 0 0] 27), (b1, .cells #[.int .i64 k, .string (bs t), .slice A ks.length c, .slice B xs.length e] 27)] ++ (sb ++ [])) w) _ ⟨0, none, 0, [], [], rfl, (Nat.zero_le _), (SlB.nil _ _), (RX.nil), Jr, hF⟩ ?_
 clear hF; rintro μ σ w ⟨j, A1, c1, sb, cs1, rfl, hj, hS, hDX, hs, hF⟩
 refine Cg.slots hs ?_
 clear hs; intro σ
 refine Ka (Ca (Nk rfl rfl) (Ea (Ia ?_)))
 refine Pc rfl rfl (fun hc1 => ?_) (fun hc1 => ?_)
 refine Wa (Ha (Ia (Va (Ka ?_))))
 obtain ⟨ad0, cs0, hA0, hl0, hk0, hx0⟩ := hX.tree_elem (i := j) by_Om
 have ho0 := hx0.one_
 refine Ja (v := .pointer (some (ad0.add (j * 4)))) (Oa (i := (j : Int)) Hi rfl hA0 rfl by_Om by_Om) (Ja (v := .agg (List.toArray cs0)) (Sb (l := cs0) isAgg27 sizeOf27 rfl hl0 (hF.cells0 hk0)) ?_)
 refine Tr (l := cs0) hF zeroValue27 (by rw [hl0]; exact sizeOf27) (by rw [hl0]; rfl) (v := .agg (List.toArray cs0)) rfl rfl (ho0) rfl ?_
 clear hF; intro b4 w hb4 hF hE
 replace hDX := hDX.alloc hE hb4
 clear hE
 refine Ea ?_
 refine Id [7] (.free 0 (.free 1 (.free 2 (.act 3 (.act 4 (.act 5 (.free 6 (.act 7 .nil)))))))) hF ?_
 clear hF; intro w hF hE
 replace hDX := hDX.ext hE
 clear hE
 refine ⟨fun wq => FR w0 [] [(b4, .cells (List.toArray cs0) 27), (b3, .cells #[.int .i64 k, .string (bs t), .slice none 0 0, .slice A1 j c1] 27), (b2, .cells #[.int .i64 0, .string (bs []), .slice none 0 0, .slice none 0 0] 27), (b1, .cells #[.int .i64 k, .string (bs t), .slice A ks.length c, .slice B xs.length e] 27)] wq, hF.sub (.cons_cons _ (.cons_cons _ (.cons_cons _ (.cons_cons _ (List.nil_sublist _))))), ?_⟩
 refine Xa rfl (Kc Ce rfl) (Zo rfl (Vi isAgg22 rfl C0 1 rfl rfl) (Qa rfl (v := .agg (List.toArray cs0)) (fun w hC => Sb (l := cs0) isAgg27 sizeOf27 rfl hl0 (hC.cellsAll 0 rfl)) ?_))
 refine Ke rfl (ih xs[j] (List.getElem_mem by_Om) _ _ cs0 (hF.rep hx0) (Pq hok.2.2 _ (List.getElem_mem by_Om)) (hnx.2 _ (List.getElem_mem by_Om)) (by have := Qk (List.getElem_mem (l := xs) (n := j) by_Om); omega)) (Eb EL rfl rfl) ?_
 rintro _ w ⟨ct, rfl, hRt, hE⟩
 have hlt : ct.length = 4 := hRt.length.trans (Tc _)
 have hot := hRt.one_
 have hYX := RX.made (ids := [b4, b3, b2, b1] ++ sb.map (·.1)) hF.same.size (fun x hx => hF.lt_ids (by grind)) hRt
 replace hDX := (hDX.ext hE).append hYX
 replace hF := hF.ext hE
 clear hE hYX
 refine ⟨hF.sub (.cons_cons _ (.cons_cons _ (.cons_cons _ (.cons_cons _ (List.nil_sublist _))))), ?_⟩
 refine Wd 1 rfl hF (Nr (l := ct) underlying22 sizeOf27 zeroValue27 Ra Ra rfl hlt) ?_
 clear hF; intro b5 w hb5 hF hE
 replace hDX := hDX.alloc hE hb5
 clear hE
 refine ⟨hF.sub (.cons _ (.cons_cons _ (.cons_cons _ (.cons_cons _ (.cons_cons _ (List.nil_sublist _)))))), ?_⟩
 refine Qc [(b5, .cells (List.toArray ct) 27), (b4, .cells (List.toArray cs0) 27), (b3, .cells #[.int .i64 k, .string (bs t), .slice none 0 0, .slice A1 j c1] 27), (b2, .cells #[.int .i64 0, .string (bs []), .slice none 0 0, .slice none 0 0] 27), (b1, .cells #[.int .i64 k, .string (bs t), .slice A ks.length c, .slice B xs.length e] 27)] [] (news := ct) (len' := j + 1) (ys := cs1 ++ ct) rfl QO hF hS rfl rfl (by rw [hlt]) (fun _ => ⟨_, rfl, Xb (hF.cellsAll 0 rfl)⟩) (MD hot) (by simp only [maxLen]; omega) (rfl) (rfl) by_Om ?_
 clear hF; intro A1 c1 i_1 w hS1_i hF hE hnew
 replace hDX := hDX.app (l := [b5, b4, b3, b2, b1]) hE hnew
 clear hE hnew
 refine ⟨hF.sub (.cons _ (.cons_cons _ (.cons_cons _ (.cons_cons _ (.cons_cons _ (List.nil_sublist _)))))), ?_⟩
 refine Xa rfl (Kc Ce rfl) ?_
 refine UT (.slice _ _ _) rfl hF sizeOf22 rfl rfl WM.app LP ?_
 clear hF; intro w hF hE
 replace hDX := hDX.store hE (by grind)
 clear hE
 refine Jc (Mb (Ha (Da (Ca (Jn rfl rfl) (Ca (Hb rfl) (Ya ?_))))))
 refine Ic ⟨_, ?_, j + 1, A1, c1, i_1, cs1 ++ ct, rfl, by_Om, (by assumption), (by rw [L9 by_Om]; exact hDX.sub (by grind)), Jr, hF.drop 2⟩
 omega
 refine Nc (Lc rfl ?_)
 refine Ha (Ka (Qd (Bm isAgg27 sizeOf27 rfl hF.F 0 rfl rfl) ?_))
 refine An hF sizeOf27 rfl rfl Y6.app ?_
 clear hF; intro w hF hE
 replace hDX := hDX.store hE (by grind)
 clear hE
 refine Ea ?_
 refine Fc (Bc (Za (J0 rfl (l := [.int .i64 k, .string (bs t), .slice none 0 0, .slice A1 j c1]) rfl isAgg27 sizeOf27 rfl (hF.cellsAll 1 rfl)) ?_))
 have ej : j = xs.length := by omega
 subst ej
 rw [List.take_length] at hDX
 refine ⟨_, rfl, ?_, hF.same⟩
 rw [sortT, if_neg hc0]
 exact Rep.tree_mk hk ht (Rep.nil_slice 0 by_Om none) (hS.rep (pre := [_, _, _]) (post := []) hF hDX (by rw [Mf, Xg, List.length_map]))
 refine Wa (Ha (Ka (Qd (Bm isAgg27 sizeOf27 rfl hF.F 2 rfl rfl) ?_)))
 have k6 : k = 6 := by simpa using hc0
 refine Db (Vv k t ks xs (Tl (k6 ▸ hnx.1)).1 (Tl (k6 ▸ hnx.1)).2 _ _ _ (hF.rep hR)) (Eb TL rfl rfl) ?_
 rintro _ w ⟨m1, l1, rfl, hge, hm1, hk1, hr1, hE⟩
 replace hF := hF.cons_ext hE hm1 hge
 replace hr1 := hr1.back hF.same
 clear hE hm1 hge
 refine Ca (C1) (Cc (Ca (Z0) ?_))
 refine Db (CQ m1 l1 _ (hF.heap (i := 0) rfl)) (Eb LR rfl rfl) ?_
 rintro _ w ⟨bk, rfl, hKA, hE⟩
 replace hF := hF.ext hE
 clear hE
 refine Db (O5 bk m1 l1 ks _ hKA hk1 (Tl (k6 ▸ hnx.1)).1 by_Om hok.2.1) (Eb XP rfl rfl) ?_
 rintro _ w ⟨A2, c2, rfl, hK2, hE⟩
 have hKX := RX.made (ids := [m1, b3, b2, b1]) hF.same.size (fun x hx => hF.lt_ids (by grind)) hK2
 replace hF := hF.ext hE
 clear hE hK2
 refine Ca (Kc Zj rfl) ?_
 refine Co (.slice _ _ _) hF sizeOf25 rfl rfl Y6 WM ?_
 clear hF; intro w hF hE
 replace hKX := hKX.store hE (by grind)
 clear hE
 refine Ea (Ia (Ka (Ca (Kc Zj rfl) (Qd (Vi isAgg25 rfl hF.F 1 rfl rfl) (Ca (Qe underlying25 rfl) (Ca (Hb rfl) (Ea (Va ?_))))))))
 refine Uc (fun μ σ w => ∃ (j : Nat), ∃ (A1 : Option Addr), ∃ (c1 : Nat), ∃ (sb : List (Nat × Obj)), ∃ (cs1 : List Value), μ = ks.length - j ∧ (j ≤ ks.length) ∧ (SlB 27 4 A1 j c1 cs1 sb) ∧ (RX w0 ([m1, b3, b2, b1] ++ sb.map (·.1)) w (Dd ((C2 ks xs).take j)) cs1) ∧ (RX w0 ([m1, b3, b2, b1] ++ sb.map (·.1)) w [Gf (Ui ks)] [.slice A2 ks.length c2]) ∧ AllEq σ [(2, .pointer (some ⟨b2, 0, none⟩)), (3, .pointer (some ⟨b3, 0, none⟩)), (6, .map (some m1)), (40, .slice A2 ks.length c2), (41, .int .i64 ((ks.length : Nat))), (42, .int .i64 ((j : Int)))] ∧ FR w0 [] ([(m1, Sh (l1)), (b3, .cells #[.int .i64 k, .string (bs t), .slice A2 ks.length c2, .slice A1 j c1] 27), (b2, .cells #[.int .i64 0, .string (bs []), .slice none 0 0, .slice none 0 0] 27), (b1, .cells #[.int .i64 k, .string (bs t), .slice A ks.length c, .slice B xs.length e] 27)] ++ (sb ++ [])) w) _ ⟨0, none, 0, [], [], rfl, (Nat.zero_le _), (SlB.nil _ _), (RX.nil), (hKX), MG, hF⟩ ?_
 clear hF; rintro μ σ w ⟨j, A1, c1, sb, cs1, rfl, hj, hS, hDX, hKX, hs, hF⟩
 refine Cg.slots hs ?_
 clear hs; intro σ
 refine Ka (Ca (Nk rfl rfl) (Ea (Ia ?_)))
 refine Pc rfl rfl (fun hc2 => ?_) (fun hc2 => ?_)
 refine Wa (Ha (Ia (Va (Ka ?_))))
 obtain ⟨ad2, hA2, hk2, hx2⟩ := hKX.rep.str_elem (i := j) (by rw [Dh]; omega)
 refine Ja (v := .pointer (some (ad2.add (j * 1)))) (Oa (i := (j : Int)) Lw rfl hA2 rfl by_Om by_Om) ?_
 refine Ja (v := .string (bs ((Ui ks)[j]'(by rw [Dh]; omega)))) (Cb isAgg9 rfl hk2) ?_
 refine Ca (Qj rfl) (Ea ?_)
 refine Id [9] (.free 0 (.free 1 (.free 2 (.free 3 (.free 4 (.act 5 (.act 6 (.act 7 (.free 8 (.act 9 .nil)))))))))) hF ?_
 clear hF; intro w hF hE
 replace hDX := hDX.ext hE
 replace hKX := hKX.ext hE
 clear hE
 refine ⟨fun wq => FR w0 [] [(m1, Sh (l1)), (b3, .cells #[.int .i64 k, .string (bs t), .slice A2 ks.length c2, .slice A1 j c1] 27), (b2, .cells #[.int .i64 0, .string (bs []), .slice none 0 0, .slice none 0 0] 27), (b1, .cells #[.int .i64 k, .string (bs t), .slice A ks.length c, .slice B xs.length e] 27)] wq, hF.sub (.cons_cons _ (.cons_cons _ (.cons_cons _ (.cons_cons _ (List.nil_sublist _))))), ?_⟩
 refine Xa rfl (Kc Ce rfl) (Zo rfl (Vi isAgg22 rfl C0 1 rfl rfl) (Xa rfl (Z0) (Xa rfl (Lf rfl) ?_)))
 obtain ⟨cy, y, hlk, hlt_, hym, hry⟩ := IB hk1 hr1 (Pm.1 (List.getElem_mem (l := Ui ks) (n := j) (by rw [Dh]; omega)))
 have hoy := hry.one_
 have hly : cy.length = 4 := hry.length.trans (Tc _)
 refine Qa rfl (v := .agg (List.toArray cy)) (fun w hC => H2 underlying81 underlying9 zeroValue27 rfl rfl (hC.heap (i := 0) rfl) (by rw [hlk]; rfl)) ?_
 refine Ke rfl (ih y hym _ _ cy (hF.rep hry) (Pq hok.2.2 y hym) (hnx.2 y hym) (by have := Qk hym; omega)) (Eb EL rfl rfl) ?_
 rintro _ w ⟨ct, rfl, hRt, hE⟩
 have hlt : ct.length = 4 := hRt.length.trans (Tc _)
 have hot := hRt.one_
 have hYX := RX.made (ids := [m1, b3, b2, b1] ++ sb.map (·.1)) hF.same.size (fun x hx => hF.lt_ids (by grind)) hRt
 replace hDX := (hDX.ext hE).append hYX
 replace hF := hF.ext hE
 replace hKX := hKX.ext hE
 clear hE hYX
 refine ⟨hF.sub (.cons_cons _ (.cons_cons _ (.cons_cons _ (.cons_cons _ (List.nil_sublist _))))), ?_⟩
 refine Wd 1 rfl hF (Nr (l := ct) underlying22 sizeOf27 zeroValue27 Ra Ra rfl hlt) ?_
 clear hF; intro b6 w hb6 hF hE
 replace hDX := hDX.alloc hE hb6
 replace hKX := hKX.alloc hE hb6
 clear hE
 refine ⟨hF.sub (.cons _ (.cons_cons _ (.cons_cons _ (.cons_cons _ (.cons_cons _ (List.nil_sublist _)))))), ?_⟩
 refine Qc [(b6, .cells (List.toArray ct) 27), (m1, Sh (l1)), (b3, .cells #[.int .i64 k, .string (bs t), .slice A2 ks.length c2, .slice A1 j c1] 27), (b2, .cells #[.int .i64 0, .string (bs []), .slice none 0 0, .slice none 0 0] 27), (b1, .cells #[.int .i64 k, .string (bs t), .slice A ks.length c, .slice B xs.length e] 27)] [] (news := ct) (len' := j + 1) (ys := cs1 ++ ct) rfl QO hF hS rfl rfl (by rw [hlt]) (fun _ => ⟨_, rfl, Xb (hF.cellsAll 0 rfl)⟩) (MD hot) (by simp only [maxLen]; omega) (rfl) (rfl) by_Om ?_
 clear hF; intro A3 c3 i_3 w hS3_i hF hE hnew
 replace hDX := hDX.app (l := [b6, m1, b3, b2, b1]) hE hnew
 replace hKX := hKX.app (l := [b6, m1, b3, b2, b1]) hE hnew
 clear hE hnew
 refine ⟨hF.sub (.cons _ (.cons_cons _ (.cons_cons _ (.cons_cons _ (.cons_cons _ (List.nil_sublist _)))))), ?_⟩
 refine Xa rfl (Kc Ce rfl) ?_
 refine UT (.slice _ _ _) rfl hF sizeOf22 rfl rfl WM.app LP ?_
 clear hF; intro w hF hE
 replace hDX := hDX.store hE (by grind)
 replace hKX := hKX.store hE (by grind)
 clear hE
 refine Jc (Mb (Ha (Da (Ca (Jn rfl rfl) (Ca (Hb rfl) (Ya ?_))))))
 refine Ic ⟨_, ?_, j + 1, A3, c3, i_3, cs1 ++ ct, rfl, by_Om, (by assumption), (by rw [CF (by rw [Dh]; omega) hlt_]; exact hDX.sub (by grind)), (hKX.sub (by grind)), MG, hF.drop 1⟩
 omega
 refine Nc (Lc rfl ?_)
 refine Ha (Ka (Qd (Bm isAgg27 sizeOf27 rfl hF.F 1 rfl rfl) ?_))
 refine An hF sizeOf27 rfl rfl WM.app ?_
 clear hF; intro w hF hE
 replace hDX := hDX.store hE (by grind)
 replace hKX := hKX.store hE (by grind)
 clear hE
 refine Ea ?_
 refine Fc (Bc (Za (J0 rfl (l := [.int .i64 k, .string (bs t), .slice A2 ks.length c2, .slice A1 j c1]) rfl isAgg27 sizeOf27 rfl (hF.cellsAll 2 rfl)) ?_))
 have ej : j = ks.length := by omega
 subst ej
 rw [List.take_of_length_le (by rw [Dy]; exact Nat.le_refl _)] at hDX
 refine ⟨_, rfl, ?_, hF.same⟩
 rw [sortT, if_pos k6]
 · exact Rep.tree_mk hk ht hKX.done (hS.rep (pre := [_, _, _, _]) (post := []) hF hDX (by rw [Mf]; exact Dy ks xs))
theorem QK (x : Tree) : W6 x := Tree.ind E7 x
end Go.Scarf
namespace Go.Scarf
open Go.RowKit Go.Proofs Go.Proofs.Tryz
def Vr : Tree := .node 0 [] [] []
theorem TJ (S : Nat → Prop) (w : World) : Rep S w (Sc Vr) [.int .i64 0, .string (bs []), .slice none 0 0, .slice none 0 0] :=
  Rep.tree_mk ⟨by omega, by omega⟩ Ga (Rep.nil_slice 0 by_Om none) (Rep.nil_slice 0 by_Om none)
def Re (x : Tree) : Tree := if Th x then sortT x else Vr
theorem CC {k : Int} {t : Str} {ks : List Str} {xs : List Tree} (h : nodeB (.node k t ks xs) = true) : ks.length ≤ xs.length := by
  by_cases h6 : k = 6
  · subst h6; have := (Tl h).2; omega
  · have : ks = [] := by
      simp only [nodeB] at h
      by_cases h5 : k = 5
      · subst h5; simp at h; exact h.1
      · rw [if_neg h5, if_neg h6] at h
        cases ks with
        | nil => rfl
        | cons a l => simp at h
    subst this; simp
theorem ON : ∀ x : Tree, Vc nodeB x = true → Lo x + 1 ≤ Ac x := fun x => Tree.ind (Q := fun x => Vc nodeB x = true → Lo x + 1 ≤ Ac x) (fun k t ks xs ih h => by
  obtain ⟨h1, h2⟩ := Td h
  have h3 := CC h1
  have h7 : ∀ ys : List Tree, (∀ y ∈ ys, y ∈ xs) → ys.length + Em ys ≤ Xc ys := by
    intro ys
    induction ys with
    | nil => intro _; simp [Em, Xc]
    | cons y ys ihy =>
      intro hm
      have h5 := ihy (fun z hz => hm z (by simp [hz]))
      have h9 := ih y (hm y Ga) (h2 y (hm y Ga))
      simp only [Em, Xc, List.length_cons]; omega
  have := h7 xs (fun _ h => h)
  rw [Lo, Ac]
  omega) x
theorem Dr {key : Str} {y : Tree} : ∀ {ks : List Str} {xs : List Tree}, Me ks xs key = some y → y ∈ xs
  | [], xs, h => by cases xs <;> cases h
  | k :: ks, [], h => by cases h
  | k :: ks, x :: xs, h => by
    rw [Me] at h
    by_cases he : k = key
    · rw [if_pos he] at h; injection h with h; simp [h]
    · rw [if_neg he] at h; simp [Dr h]
theorem GC : ∀ {xs : List Tree}, (∀ x ∈ xs, Ox x) → F1 xs
  | [], _ => by rw [F1]; trivial
  | x :: xs, h => by rw [F1]; exact ⟨h x Ga, GC (fun y hy => h y (by simp [hy]))⟩
theorem OE {x : Tree} (h : Th x = true) : Ac x ≤ 4096 := by
  unfold Th Hn at h; simp only [Bool.and_eq_true, decide_eq_true_eq] at h; exact h.1.1
theorem HG (x : Tree) (hsz : Ac x ≤ 1000000000) (S : Nat → Prop) (w0 : World) (cs : List Value) (hR : Rep S w0 (Sc x) cs) (hk : Ox x) (hG : Gl w0) : JS 55 #[.agg cs.toArray] (Sc (Re x)) w0 := by
 have hl : cs.length = 4 := hR.length.trans (Tc x)
 have ho := hR.one_
 refine Ma func55 rfl ntmps55 Jb (Ed _) ?_
 have hF := FR.start w0 []
 refine Ka ?_
 refine Jj (v := .agg (List.toArray cs)) (cs := (List.toArray cs)) hF rfl rfl ?_
 clear hF; rintro b1 w hb1 hF -
 refine Ig (cs := #[.int .i64 0, .string (bs []), .slice none 0 0, .slice none 0 0]) hF zeroValue27 rfl ?_
 clear hF; rintro b2 w hb2 hF -
 refine Ea (Ia (Ka (Ja (v := .agg (List.toArray cs)) (Sb (l := cs) isAgg27 sizeOf27 rfl hl (hF.cellsAll 1 rfl)) ?_)))
 refine Pb hF (PA x hsz S _ cs (hF.rep hR) hk (hG.ext hF.same)) (Eb OL rfl rfl) ?_
 clear hF; intro w hF
 refine Ca (Oo rfl) (Ea ?_)
 refine Pj rfl rfl (fun hc0 => ?_) (fun hc0 => ?_)
 refine Ka ?_
 refine Ja (w' := w) (v := .agg #[.int .i64 0, .string (bs []), .slice none 0 0, .slice none 0 0]) Ib ?_
 refine An hF sizeOf27 rfl rfl Gn ?_
 clear hF; rintro w hF -
 refine Ea ?_
 refine Fc (Bc (Za (J0 rfl (l := [.int .i64 0, .string (bs []), .slice none 0 0, .slice none 0 0]) rfl isAgg27 sizeOf27 rfl (hF.cellsAll 0 rfl)) ?_))
 have ho_ : Th x = false := by simpa using hc0
 refine ⟨_, rfl, ?_, hF.same⟩
 rw [Re, ho_]
 exact TJ _ _
 refine Wa (Ha (Ka (Ja (v := .agg (List.toArray cs)) (Sb (l := cs) isAgg27 sizeOf27 rfl hl (hF.cellsAll 1 rfl)) ?_)))
 refine Db (QK x S _ cs (hF.rep hR) hk (Gi (by simpa using hc0)) hsz) (Eb EL rfl rfl) ?_
 rintro _ w ⟨ct, rfl, hRt, hE⟩
 have hlct : ct.length = 4 := hRt.length.trans (Tc _)
 have hoct := hRt.one_
 have hXX := RX.made (ids := [b2, b1]) hF.same.size (fun x hx => hF.lt_ids (by grind)) hRt
 replace hF := hF.ext hE
 clear hE hRt
 refine Bf 0 (l := ct) (cs' := (List.toArray ct)) hF (by rw [hlct]; exact sizeOf27) rfl (v := .agg (List.toArray ct)) rfl rfl (hoct) rfl (by rw [hlct]; exact Nat.le_of_ble_eq_true rfl) (Rl (by rw [hlct]; rfl)) ?_
 clear hF; intro w hF hE
 replace hXX := hXX.store hE (by grind)
 clear hE
 replace hF : FR w0 [] [(b2, .cells (List.toArray ct) 27), _] w := hF
 refine Ea ?_
 refine Fc (Bc (Za (J0 rfl (l := ct) rfl isAgg27 sizeOf27 hlct (hF.cellsAll 0 rfl)) ?_))
 have ho_ : Th x = true := by simpa using hc0
 refine ⟨_, rfl, ?_, hF.same⟩
 rw [Re, ho_]
 · exact hXX.done
end Go.Scarf
