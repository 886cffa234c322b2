/- A part of the proof. -/
import Derived.Test.YtepbomjpbdbejaaGreatDoorW10
import Derived.Test.YtepbomjpbdbejaaGreatDoorFacts
import Derived.Test.YtepbomjpbdbejaaGreatDoorMore
import Derived.Test.YtepbomjpbdbejaaGreatDoorIter
set_option linter.all false
set_option maxHeartbeats 8000000
set_option maxRecDepth 10000
namespace Go.Scarf
open Go.RowKit Go.Proofs Go.Proofs.Tryz
mutual
def Xq : Tree → Nat | .node _ _ ks xs => ks.length + Qm xs
def Qm : List Tree → Nat | [] => 0 | x :: xs => Xq x + Qm xs
end
def Lie (w : World) (A : Option Addr) (n : Nat) (es : List Value) : Prop := n ≠ 0 → ∃ ad, A = some ad ∧ ∀ j (hj : j < es.length), w.cell? (ad.add j) = some es[j]
theorem Lie.ext {w w' : World} {A : Option Addr} {n : Nat} {es : List Value} (h : Lie w A n es) (hs : Same [] w w') : Lie w' A n es := fun hn => by
  obtain ⟨ad, hA, hc⟩ := h hn
  exact ⟨ad, hA, fun j hj => ((FR.start w []).ext hs).cells0 hc j hj⟩
def MK (F : Nat) (args : Array Value) (d : D) (w0 : World) : Prop := Calls prog F args w0 (Kd fun v w' => ∃ ct : List Value, v = .agg ct.toArray ∧ Rep (Btw w0 w') w' d ct ∧ Same [] w0 w')
end Go.Scarf
namespace Go.Scarf
open Go.RowKit Go.Proofs Go.Proofs.Tryz
mutual
def Lh : Tree → Tree
  | .node k t ks xs => if k = 6 then .node k t (Yi ks) ((Yi ks).map fun key => (Ah ks (Ue xs) key).getD (.node 0 [] [] [])) else .node k t [] (Ue xs)
def Ue : List Tree → List Tree
  | [] => []
  | x :: xs => Lh x :: Ue xs
end
theorem Ii : ∀ xs : List Tree, Ue xs = xs.map Lh
  | [] => rfl
  | x :: xs => by rw [Ue, Ii xs, List.map_cons]
theorem Kv {key : Str} {y : Tree} : ∀ {ks : List Str} {xs : List Tree}, Ah ks xs key = some y → Ah ks (Ue xs) key = some (Lh y)
  | [], xs, h => by cases xs <;> cases h
  | k :: ks, [], h => by cases h
  | k :: ks, x :: xs, h => by
    rw [Ue, Ah]
    rw [Ah] at h
    by_cases he : k = key
    · rw [if_pos he] at h ⊢; injection h with h; rw [h]
    · rw [if_neg he] at h ⊢; exact Kv h
theorem P6 {S : Nat → Prop} {w : World} {key : Str} {ks : List Str} {xs : List Tree} {l : MapL} (hk : l.map (·.1) = ks) (hm : MapRep S w xs l) (hin : key ∈ ks) :
    ∃ (cs : List Value) (y : Tree), Eh l key = some (.agg cs.toArray) ∧ Ah ks xs key = some y ∧ y ∈ xs ∧ Rep S w (Zc y) cs := by
  rcases Bw key hk hm with ⟨h, -⟩ | h
  · exfalso
    rw [← hk] at hin
    obtain ⟨x, hx, hxe⟩ := List.mem_map.1 hin
    unfold Eh at h
    rw [Option.map_eq_none_iff, List.find?_eq_none] at h
    exact h x hx (by simpa using hxe)
  · exact h
theorem MapRep.back {S : Nat → Prop} {w0 w : World} {xs : List Tree} {l : MapL} (h : MapRep (NJ S w0) w xs l) (hs : Same [] w0 w) : MapRep (NJ S w0) w0 xs l := fun i hi => by
  obtain ⟨cs, h1, h2, h3⟩ := h i hi
  exact ⟨cs, h1, h2, h3.back hs⟩
def KC (w1 : World) (bk m : Nat) (l : MapL) : Prop := ∃ W : World, w1 = W.alloc (.cells #[.map (some m)] 81) ∧ bk = W.heap.size ∧ W.heap[m]? = some (Cj l)
theorem SI (m : Nat) (l : MapL) (w : World) (hm : w.heap[m]? = some (Cj l)) : Calls prog 101 #[.map (some m)] w (Kd fun v w' => ∃ bk, v = .func (.func 130) #[] #[.pointer (some ⟨bk, 0, none⟩)] ∧ KC w' bk m l ∧ Same [] w w') :=
  (callsIn_wide.1 (maps_Keys_101 (some m) w)).mono fun _ _ ⟨he, hw⟩ => ⟨_, he, w.heap.size, rfl, ⟨w, hw, rfl, hm⟩, by rw [hw]; exact Same.alloc w _⟩
theorem H0 (bk m : Nat) (l : MapL) (ks : List Str) (w : World) (h : KC w bk m l) (hk : l.map (·.1) = ks) (hn : ks.Nodup) (hb : ks.length ≤ 1000000000) (hs : ∀ s ∈ ks, s.length ≤ 140737488355328) :
    Calls prog 100 #[.func (.func 130) #[] #[.pointer (some ⟨bk, 0, none⟩)]] w (Kd fun v w' => ∃ A c, v = .slice A ks.length c ∧ Rep (Btw w w') w' (Gf (Yi ks)) [.slice A ks.length c] ∧ Same [] w w') := by
  obtain ⟨W, rfl, rfl, hm⟩ := h
  have hl : l.length = ks.length := by rw [← hk, List.length_map]
  obtain ⟨D0, hown, hperm, hsz⟩ := I5 (P := prog) underlying9 hm (by rw [hk]; exact hn) (fun x hx => by have := hs x.1 (by rw [← hk]; exact List.mem_map_of_mem hx); simp only [maxLen]; omega) (by simp only [maxLen]; omega)
  refine (callsIn_wide.1 (slices_Sorted_keys_100_101 m l.length D0 _ W hown (by rw [hsz]; simp only [maxLen]; omega) (by rw [hsz]; omega))).mono ?_
  rintro e w' ⟨v, ss, rfl, hp, hrow, -, hbel⟩
  have hpk : ss.Perm ks := by rw [← hk]; exact hp.trans hperm
  have e1 : (ss.mergeSort fun x y => decide (x ≤ y)) = Yi ks := Dx hpk
  rw [e1] at hrow
  have e2 : ss.length = (Yi ks).length := by rw [Hh]; exact hpk.length_eq
  rw [e2] at hrow
  obtain ⟨A, c, rfl, hr⟩ := NC (S := Btw (W.alloc (.cells #[.map (some m)] 81)) w') 9 hrow (fun g h1 h2 h3 => ⟨h1, h2, h3⟩) (fun s hs' => by have := hs s (Qs.1 hs'); omega)
  rw [Hh] at hr
  exact ⟨_, rfl, A, c, by rw [Hh], hr, .of_below hbel⟩
def Hz (x : Tree) : Prop := ∀ S w0 cs, Rep S w0 (Zc x) cs → Bx x → Rd nodeB x = true → Nc x ≤ 1000000000 → MK 82 #[.agg cs.toArray] (Zc (Lh x)) w0
theorem L1 {xs : List Tree} {j : Nat} (h : j < xs.length) : Ee (Ue (xs.take (j + 1))) = Ee (Ue (xs.take j)) ++ [Zc (Lh xs[j])] := by
  rw [List.take_succ_eq_append_getElem h, Gi, Gi, Ii, Ii, List.map_append, List.map_append]; rfl
def Qx (ks : List Str) (xs : List Tree) : List Tree := (Yi ks).map fun key => (Ah ks (Ue xs) key).getD (.node 0 [] [] [])
theorem Iv (ks : List Str) (xs : List Tree) : (Qx ks xs).length = ks.length := by rw [Qx, List.length_map, Hh]
theorem Z8 {ks : List Str} {xs : List Tree} {j : Nat} {y : Tree} (h : j < (Yi ks).length) (hy : Ah ks xs (Yi ks)[j] = some y) : Ee ((Qx ks xs).take (j + 1)) = Ee ((Qx ks xs).take j) ++ [Zc (Lh y)] := by
  have h' : j < (Qx ks xs).length := by rw [Iv, ← Hh]; exact h
  rw [List.take_succ_eq_append_getElem h', Gi, Gi, List.map_append]
  simp only [Qx, List.getElem_map, Kv hy, Option.getD_some]
  rfl
theorem M1 (k : Int) (t : Str) (ks : List Str) (xs : List Tree) (ih : ∀ x, x ∈ xs → Hz x) : Hz (.node k t ks xs) := by
 intro S w0 cs hR hok hnx hsz
 replace hR := hR.old
 rw [Bx] at hok
 rw [Nc] at hsz
 have hxn := Gn xs
 replace hnx := Gg hnx
 obtain ⟨A, c, B, e, rfl, hk, ht, hK, hX⟩ := hR.tree_inv
 have hXl := hX.slice_len
 have hKn : k = 6 → ks.length = xs.length := fun e => (Vp (e ▸ hnx.1)).2
 refine Ka func82 rfl ntmps82 Jb (Vc _) ?_
 have hF := FR.start w0 []
 refine Ma ?_
 refine Vj hF rfl ?_
 clear hF; rintro b1 w hb1 hF -
 refine Zg (cs := #[.int .i64 0, .string (bs []), .slice none 0 0, .slice none 0 0]) hF zeroValue27 rfl ?_
 clear hF; rintro b2 w hb2 hF -
 refine Dc (Ca (Ac Ln rfl) (Pd (Ar isAgg3 rfl hF.F 1 rfl rfl) (Ca (Ac Oi rfl) (Pd (Cx isAgg9 rfl hF.F 1 rfl rfl) ?_))))
 refine Ja (w' := w) (v := .agg #[.int .i64 k, .string (bs t), .slice none 0 0, .slice none 0 0]) Db ?_
 refine Km hF zeroValue27 sizeOf27 rfl ?_
 clear hF; rintro b3 w hb3 hF -
 refine Ha (Ia (Ma (Ca (Ac Ln rfl) (Pd (Ar isAgg3 rfl hF.F 2 rfl rfl) (Ca (N4 rfl rfl) (Ha ?_))))))
 refine Jc rfl rfl (fun hc0 => ?_) (fun hc0 => ?_)
 refine Ia (Ma (Ca (Ac Te rfl) (Pd (Xi isAgg22 rfl hF.F 2 rfl rfl) (Ca (Ff underlying22 rfl) (Ca (Hb rfl) (Ha (Za ?_)))))))
 refine Uc (fun μ σ w => ∃ (j : Nat), ∃ (A1 : Option Addr), ∃ (c1 : Nat), ∃ (sb : List (Nat × Obj)), ∃ (cs1 : List Value), μ = xs.length - j ∧ (j ≤ xs.length) ∧ (SlB 27 4 A1 j c1 cs1 sb) ∧ (RX w0 ([b3, b2, b1] ++ sb.map (·.1)) w (Ee (Ue (xs.take j))) cs1) ∧ AllEq σ [(2, .pointer (some ⟨b2, 0, none⟩)), (3, .pointer (some ⟨b3, 0, none⟩)), (18, .slice B xs.length e), (19, .int .i64 ((xs.length : Nat))), (20, .int .i64 ((j : Int)))] ∧ FR w0 [] ([(b3, .cells #[.int .i64 k, .string (bs t), .slice none 0 0, .slice A1 j c1] 27), (b2, .cells #[.int .i64 0, .string (bs []), .slice none 0 0, .slice none 0 0] 27), (b1, .cells #[.int .i64 k, .string (bs t), .slice A ks.length c, .slice B xs.length e] 27)] ++ (sb ++ [])) w) _ ⟨0, none, 0, [], [], rfl, (Nat.zero_le _), (SlB.nil _ _), (RX.nil), Xt, hF⟩ ?_
 clear hF; rintro μ σ w ⟨j, A1, c1, sb, cs1, rfl, hj, hS, hDX, hs, hF⟩
 refine Cg.slots hs ?_
 clear hs; intro σ
 refine Ma (Ca (Zl rfl rfl) (Ha (Ia ?_)))
 refine Jc rfl rfl (fun hc1 => ?_) (fun hc1 => ?_)
 refine Xa (Ga (Ia (Za (Ma ?_))))
 obtain ⟨ad0, cs0, hA0, hl0, hk0, hx0⟩ := hX.tree_elem (i := j) by_Om
 have ho0 := hx0.one_
 refine Ja (v := .pointer (some (ad0.add (j * 4)))) (Ra (i := (j : Int)) Sn rfl hA0 rfl by_Om by_Om) (Ja (v := .agg (List.toArray cs0)) (Ec (l := cs0) isAgg27 sizeOf27 rfl hl0 (hF.cells0 hk0)) ?_)
 refine Ut (l := cs0) hF zeroValue27 (by rw [hl0]; exact sizeOf27) (by rw [hl0]; rfl) (v := .agg (List.toArray cs0)) rfl rfl (ho0) rfl ?_
 clear hF; intro b4 w hb4 hF hE
 replace hDX := hDX.alloc hE hb4
 clear hE
 refine Ha ?_
 refine Yc [7] (.free 0 (.free 1 (.free 2 (.act 3 (.act 4 (.act 5 (.free 6 (.act 7 .nil)))))))) hF ?_
 clear hF; intro w hF hE
 replace hDX := hDX.ext hE
 clear hE
 refine ⟨fun wq => FR w0 [] [(b4, .cells (List.toArray cs0) 27), (b3, .cells #[.int .i64 k, .string (bs t), .slice none 0 0, .slice A1 j c1] 27), (b2, .cells #[.int .i64 0, .string (bs []), .slice none 0 0, .slice none 0 0] 27), (b1, .cells #[.int .i64 k, .string (bs t), .slice A ks.length c, .slice B xs.length e] 27)] wq, hF.sub (.cons_cons _ (.cons_cons _ (.cons_cons _ (.cons_cons _ (List.nil_sublist _))))), ?_⟩
 refine Eb rfl (Ac Te rfl) (Tn rfl (Xi isAgg22 rfl C0 1 rfl rfl) (Sa rfl (v := .agg (List.toArray cs0)) (fun w hC => Ec (l := cs0) isAgg27 sizeOf27 rfl hl0 (hC.cellsAll 0 rfl)) ?_))
 refine De rfl (ih xs[j] (List.getElem_mem by_Om) _ _ cs0 (hF.rep hx0) (No hok.2.2 _ (List.getElem_mem by_Om)) (hnx.2 _ (List.getElem_mem by_Om)) (by have := Ej (List.getElem_mem (l := xs) (n := j) by_Om); omega)) (Ib ID rfl rfl) ?_
 rintro _ w ⟨ct, rfl, hRt, hE⟩
 have hlt : ct.length = 4 := hRt.length.trans (Sd _)
 have hot := hRt.one_
 have hYX := RX.made (ids := [b4, b3, b2, b1] ++ sb.map (·.1)) hF.same.size (fun x hx => hF.lt_ids (by grind)) hRt
 replace hDX := (hDX.ext hE).append hYX
 replace hF := hF.ext hE
 clear hE hYX
 refine ⟨hF.sub (.cons_cons _ (.cons_cons _ (.cons_cons _ (.cons_cons _ (List.nil_sublist _))))), ?_⟩
 refine Gd 1 rfl hF (Lp (l := ct) underlying22 sizeOf27 zeroValue27 Qa Qa rfl hlt) ?_
 clear hF; intro b5 w hb5 hF hE
 replace hDX := hDX.alloc hE hb5
 clear hE
 refine ⟨hF.sub (.cons _ (.cons_cons _ (.cons_cons _ (.cons_cons _ (.cons_cons _ (List.nil_sublist _)))))), ?_⟩
 refine Zb [(b5, .cells (List.toArray ct) 27), (b4, .cells (List.toArray cs0) 27), (b3, .cells #[.int .i64 k, .string (bs t), .slice none 0 0, .slice A1 j c1] 27), (b2, .cells #[.int .i64 0, .string (bs []), .slice none 0 0, .slice none 0 0] 27), (b1, .cells #[.int .i64 k, .string (bs t), .slice A ks.length c, .slice B xs.length e] 27)] [] (news := ct) (len' := j + 1) (ys := cs1 ++ ct) rfl KG hF hS rfl rfl (by rw [hlt]) (fun _ => ⟨_, rfl, Sb (hF.cellsAll 0 rfl)⟩) (T7 hot) (by simp only [maxLen]; omega) (rfl) (rfl) by_Om ?_
 clear hF; intro A1 c1 i_1 w hS1_i hF hE hnew
 replace hDX := hDX.app (l := [b5, b4, b3, b2, b1]) hE hnew
 clear hE hnew
 refine ⟨hF.sub (.cons _ (.cons_cons _ (.cons_cons _ (.cons_cons _ (.cons_cons _ (List.nil_sublist _)))))), ?_⟩
 refine Eb rfl (Ac Te rfl) ?_
 refine SK (.slice _ _ _) rfl hF sizeOf22 rfl rfl IF.app AH ?_
 clear hF; intro w hF hE
 replace hDX := hDX.store hE (by grind)
 clear hE
 refine Cc (Mb (Ga (Da (Ca (Ko rfl rfl) (Ca (Hb rfl) (Wa ?_))))))
 refine Fc ⟨_, ?_, j + 1, A1, c1, i_1, cs1 ++ ct, rfl, by_Om, (by assumption), (by rw [L1 by_Om]; exact hDX.sub (by grind)), Xt, hF.drop 2⟩
 omega
 refine Oc (Mc rfl ?_)
 refine Ga (Ma (Pd (Pk isAgg27 sizeOf27 rfl hF.F 0 rfl rfl) ?_))
 refine Il hF sizeOf27 rfl rfl G1.app ?_
 clear hF; intro w hF hE
 replace hDX := hDX.store hE (by grind)
 clear hE
 refine Ha ?_
 refine Wb (Vb (Ua (Uw rfl (l := [.int .i64 k, .string (bs t), .slice none 0 0, .slice A1 j c1]) rfl isAgg27 sizeOf27 rfl (hF.cellsAll 1 rfl)) ?_))
 have ej : j = xs.length := by omega
 subst ej
 rw [List.take_length] at hDX
 refine ⟨_, rfl, ?_, hF.same⟩
 rw [Lh, if_neg hc0]
 exact Rep.tree_mk hk ht (Rep.nil_slice 0 by_Om none) (hS.rep (pre := [_, _, _]) (post := []) hF hDX (by rw [Kj, Ii, List.length_map]))
 refine Xa (Ga (Ma (Pd (Pk isAgg27 sizeOf27 rfl hF.F 2 rfl rfl) ?_)))
 have k6 : k = 6 := by simpa using hc0
 refine Cb (N_ k t ks xs (Vp (k6 ▸ hnx.1)).1 (Vp (k6 ▸ hnx.1)).2 _ _ _ (hF.rep hR)) (Ib OK rfl rfl) ?_
 rintro _ w ⟨m1, l1, rfl, hge, hm1, hk1, hr1, hE⟩
 replace hF := hF.cons_ext hE hm1 hge
 replace hr1 := hr1.back hF.same
 clear hE hm1 hge
 refine Ca (Ex) (Dc (Ca (K4) ?_))
 refine Cb (SI m1 l1 _ (hF.heap (i := 0) rfl)) (Ib WI rfl rfl) ?_
 rintro _ w ⟨bk, rfl, hKA, hE⟩
 replace hF := hF.ext hE
 clear hE
 refine Cb (H0 bk m1 l1 ks _ hKA hk1 (Vp (k6 ▸ hnx.1)).1 by_Om hok.2.1) (Ib BH rfl rfl) ?_
 rintro _ w ⟨A2, c2, rfl, hK2, hE⟩
 have hKX := RX.made (ids := [m1, b3, b2, b1]) hF.same.size (fun x hx => hF.lt_ids (by grind)) hK2
 replace hF := hF.ext hE
 clear hE hK2
 refine Ca (Ac Tl rfl) ?_
 refine Vl (.slice _ _ _) hF sizeOf25 rfl rfl G1 IF ?_
 clear hF; intro w hF hE
 replace hKX := hKX.store hE (by grind)
 clear hE
 refine Ha (Ia (Ma (Ca (Ac Tl rfl) (Pd (Xi isAgg25 rfl hF.F 1 rfl rfl) (Ca (Ff underlying25 rfl) (Ca (Hb rfl) (Ha (Za ?_))))))))
 refine Uc (fun μ σ w => ∃ (j : Nat), ∃ (A1 : Option Addr), ∃ (c1 : Nat), ∃ (sb : List (Nat × Obj)), ∃ (cs1 : List Value), μ = ks.length - j ∧ (j ≤ ks.length) ∧ (SlB 27 4 A1 j c1 cs1 sb) ∧ (RX w0 ([m1, b3, b2, b1] ++ sb.map (·.1)) w (Ee ((Qx ks xs).take j)) cs1) ∧ (RX w0 ([m1, b3, b2, b1] ++ sb.map (·.1)) w [Gf (Yi ks)] [.slice A2 ks.length c2]) ∧ AllEq σ [(2, .pointer (some ⟨b2, 0, none⟩)), (3, .pointer (some ⟨b3, 0, none⟩)), (6, .map (some m1)), (40, .slice A2 ks.length c2), (41, .int .i64 ((ks.length : Nat))), (42, .int .i64 ((j : Int)))] ∧ FR w0 [] ([(m1, Cj (l1)), (b3, .cells #[.int .i64 k, .string (bs t), .slice A2 ks.length c2, .slice A1 j c1] 27), (b2, .cells #[.int .i64 0, .string (bs []), .slice none 0 0, .slice none 0 0] 27), (b1, .cells #[.int .i64 k, .string (bs t), .slice A ks.length c, .slice B xs.length e] 27)] ++ (sb ++ [])) w) _ ⟨0, none, 0, [], [], rfl, (Nat.zero_le _), (SlB.nil _ _), (RX.nil), (hKX), M_, hF⟩ ?_
 clear hF; rintro μ σ w ⟨j, A1, c1, sb, cs1, rfl, hj, hS, hDX, hKX, hs, hF⟩
 refine Cg.slots hs ?_
 clear hs; intro σ
 refine Ma (Ca (Zl rfl rfl) (Ha (Ia ?_)))
 refine Jc rfl rfl (fun hc2 => ?_) (fun hc2 => ?_)
 refine Xa (Ga (Ia (Za (Ma ?_))))
 obtain ⟨ad2, hA2, hk2, hx2⟩ := hKX.rep.str_elem (i := j) (by rw [Hh]; omega)
 refine Ja (v := .pointer (some (ad2.add (j * 1)))) (Ra (i := (j : Int)) Bv rfl hA2 rfl by_Om by_Om) ?_
 refine Ja (v := .string (bs ((Yi ks)[j]'(by rw [Hh]; omega)))) (Va isAgg9 rfl hk2) ?_
 refine Ca (Ti rfl) (Ha ?_)
 refine Yc [9] (.free 0 (.free 1 (.free 2 (.free 3 (.free 4 (.act 5 (.act 6 (.act 7 (.free 8 (.act 9 .nil)))))))))) hF ?_
 clear hF; intro w hF hE
 replace hDX := hDX.ext hE
 replace hKX := hKX.ext hE
 clear hE
 refine ⟨fun wq => FR w0 [] [(m1, Cj (l1)), (b3, .cells #[.int .i64 k, .string (bs t), .slice A2 ks.length c2, .slice A1 j c1] 27), (b2, .cells #[.int .i64 0, .string (bs []), .slice none 0 0, .slice none 0 0] 27), (b1, .cells #[.int .i64 k, .string (bs t), .slice A ks.length c, .slice B xs.length e] 27)] wq, hF.sub (.cons_cons _ (.cons_cons _ (.cons_cons _ (.cons_cons _ (List.nil_sublist _))))), ?_⟩
 refine Eb rfl (Ac Te rfl) (Tn rfl (Xi isAgg22 rfl C0 1 rfl rfl) (Eb rfl (K4) (Eb rfl (Ve rfl) ?_)))
 obtain ⟨cy, y, hlk, hlt_, hym, hry⟩ := P6 hk1 hr1 (Qs.1 (List.getElem_mem (l := Yi ks) (n := j) (by rw [Hh]; omega)))
 have hoy := hry.one_
 have hly : cy.length = 4 := hry.length.trans (Sd _)
 refine Sa rfl (v := .agg (List.toArray cy)) (fun w hC => Wy underlying81 underlying9 zeroValue27 rfl rfl (hC.heap (i := 0) rfl) (by rw [hlk]; rfl)) ?_
 refine De rfl (ih y hym _ _ cy (hF.rep hry) (No hok.2.2 y hym) (hnx.2 y hym) (by have := Ej hym; omega)) (Ib ID rfl rfl) ?_
 rintro _ w ⟨ct, rfl, hRt, hE⟩
 have hlt : ct.length = 4 := hRt.length.trans (Sd _)
 have hot := hRt.one_
 have hYX := RX.made (ids := [m1, b3, b2, b1] ++ sb.map (·.1)) hF.same.size (fun x hx => hF.lt_ids (by grind)) hRt
 replace hDX := (hDX.ext hE).append hYX
 replace hF := hF.ext hE
 replace hKX := hKX.ext hE
 clear hE hYX
 refine ⟨hF.sub (.cons_cons _ (.cons_cons _ (.cons_cons _ (.cons_cons _ (List.nil_sublist _))))), ?_⟩
 refine Gd 1 rfl hF (Lp (l := ct) underlying22 sizeOf27 zeroValue27 Qa Qa rfl hlt) ?_
 clear hF; intro b6 w hb6 hF hE
 replace hDX := hDX.alloc hE hb6
 replace hKX := hKX.alloc hE hb6
 clear hE
 refine ⟨hF.sub (.cons _ (.cons_cons _ (.cons_cons _ (.cons_cons _ (.cons_cons _ (List.nil_sublist _)))))), ?_⟩
 refine Zb [(b6, .cells (List.toArray ct) 27), (m1, Cj (l1)), (b3, .cells #[.int .i64 k, .string (bs t), .slice A2 ks.length c2, .slice A1 j c1] 27), (b2, .cells #[.int .i64 0, .string (bs []), .slice none 0 0, .slice none 0 0] 27), (b1, .cells #[.int .i64 k, .string (bs t), .slice A ks.length c, .slice B xs.length e] 27)] [] (news := ct) (len' := j + 1) (ys := cs1 ++ ct) rfl KG hF hS rfl rfl (by rw [hlt]) (fun _ => ⟨_, rfl, Sb (hF.cellsAll 0 rfl)⟩) (T7 hot) (by simp only [maxLen]; omega) (rfl) (rfl) by_Om ?_
 clear hF; intro A3 c3 i_3 w hS3_i hF hE hnew
 replace hDX := hDX.app (l := [b6, m1, b3, b2, b1]) hE hnew
 replace hKX := hKX.app (l := [b6, m1, b3, b2, b1]) hE hnew
 clear hE hnew
 refine ⟨hF.sub (.cons _ (.cons_cons _ (.cons_cons _ (.cons_cons _ (.cons_cons _ (List.nil_sublist _)))))), ?_⟩
 refine Eb rfl (Ac Te rfl) ?_
 refine SK (.slice _ _ _) rfl hF sizeOf22 rfl rfl IF.app AH ?_
 clear hF; intro w hF hE
 replace hDX := hDX.store hE (by grind)
 replace hKX := hKX.store hE (by grind)
 clear hE
 refine Cc (Mb (Ga (Da (Ca (Ko rfl rfl) (Ca (Hb rfl) (Wa ?_))))))
 refine Fc ⟨_, ?_, j + 1, A3, c3, i_3, cs1 ++ ct, rfl, by_Om, (by assumption), (by rw [Z8 (by rw [Hh]; omega) hlt_]; exact hDX.sub (by grind)), (hKX.sub (by grind)), M_, hF.drop 1⟩
 omega
 refine Oc (Mc rfl ?_)
 refine Ga (Ma (Pd (Pk isAgg27 sizeOf27 rfl hF.F 1 rfl rfl) ?_))
 refine Il hF sizeOf27 rfl rfl IF.app ?_
 clear hF; intro w hF hE
 replace hDX := hDX.store hE (by grind)
 replace hKX := hKX.store hE (by grind)
 clear hE
 refine Ha ?_
 refine Wb (Vb (Ua (Uw rfl (l := [.int .i64 k, .string (bs t), .slice A2 ks.length c2, .slice A1 j c1]) rfl isAgg27 sizeOf27 rfl (hF.cellsAll 2 rfl)) ?_))
 have ej : j = ks.length := by omega
 subst ej
 rw [List.take_of_length_le (by rw [Iv]; exact Nat.le_refl _)] at hDX
 refine ⟨_, rfl, ?_, hF.same⟩
 rw [Lh, if_pos k6]
 · exact Rep.tree_mk hk ht hKX.done (hS.rep (pre := [_, _, _, _]) (post := []) hF hDX (by rw [Kj]; exact Iv ks xs))
theorem WB (x : Tree) : Hz x := Tree.ind M1 x
end Go.Scarf
namespace Go.Scarf
open Go.RowKit Go.Proofs Go.Proofs.Tryz
def JB : Tree := .node 0 [] [] []
theorem SA (S : Nat → Prop) (w : World) : Rep S w (Zc JB) [.int .i64 0, .string (bs []), .slice none 0 0, .slice none 0 0] :=
  Rep.tree_mk ⟨by omega, by omega⟩ Fa (Rep.nil_slice 0 by_Om none) (Rep.nil_slice 0 by_Om none)
def Pf (x : Tree) : Tree := if Ui x then Lh x else JB
theorem G5 {k : Int} {t : Str} {ks : List Str} {xs : List Tree} (h : nodeB (.node k t ks xs) = true) : ks.length ≤ xs.length := by
  by_cases h6 : k = 6
  · subst h6; have := (Vp h).2; omega
  · have : ks = [] := by
      simp only [nodeB] at h
      by_cases h5 : k = 5
      · subst h5; simp at h; exact h.1
      · rw [if_neg h5, if_neg h6] at h
        cases ks with
        | nil => rfl
        | cons a l => simp at h
    subst this; simp
theorem FE : ∀ x : Tree, Rd nodeB x = true → Xq x + 1 ≤ Nc x := fun x => Tree.ind (Q := fun x => Rd nodeB x = true → Xq x + 1 ≤ Nc x) (fun k t ks xs ih h => by
  obtain ⟨h1, h2⟩ := Gg h
  have h3 := G5 h1
  have h7 : ∀ ys : List Tree, (∀ y ∈ ys, y ∈ xs) → ys.length + Qm ys ≤ Rc ys := by
    intro ys
    induction ys with
    | nil => intro _; simp [Qm, Rc]
    | cons y ys ihy =>
      intro hm
      have h5 := ihy (fun z hz => hm z (by simp [hz]))
      have h9 := ih y (hm y Fa) (h2 y (hm y Fa))
      simp only [Qm, Rc, List.length_cons]; omega
  have := h7 xs (fun _ h => h)
  rw [Xq, Nc]
  omega) x
theorem Vx {key : Str} {y : Tree} : ∀ {ks : List Str} {xs : List Tree}, Ah ks xs key = some y → y ∈ xs
  | [], xs, h => by cases xs <;> cases h
  | k :: ks, [], h => by cases h
  | k :: ks, x :: xs, h => by
    rw [Ah] at h
    by_cases he : k = key
    · rw [if_pos he] at h; injection h with h; simp [h]
    · rw [if_neg he] at h; simp [Vx h]
theorem P8 : ∀ {xs : List Tree}, (∀ x ∈ xs, Bx x) → Px xs
  | [], _ => by rw [Px]; trivial
  | x :: xs, h => by rw [Px]; exact ⟨h x Fa, P8 (fun y hy => h y (by simp [hy]))⟩
theorem O_ {x : Tree} (h : Ui x = true) : Nc x ≤ 4096 := by
  unfold Ui Wm at h; simp only [Bool.and_eq_true, decide_eq_true_eq] at h; exact h.1.1
theorem Z9 (x : Tree) (hsz : Nc x ≤ 1000000000) (S : Nat → Prop) (w0 : World) (cs : List Value) (hR : Rep S w0 (Zc x) cs) (hk : Bx x) (hG : Gl w0) : MK 55 #[.agg cs.toArray] (Zc (Pf x)) w0 := by
 have hl : cs.length = 4 := hR.length.trans (Sd x)
 have ho := hR.one_
 refine Ka func55 rfl ntmps55 Jb (Vc _) ?_
 have hF := FR.start w0 []
 refine Ma ?_
 refine Up (v := .agg (List.toArray cs)) (cs := (List.toArray cs)) hF rfl rfl ?_
 clear hF; rintro b1 w hb1 hF -
 refine Zg (cs := #[.int .i64 0, .string (bs []), .slice none 0 0, .slice none 0 0]) hF zeroValue27 rfl ?_
 clear hF; rintro b2 w hb2 hF -
 refine Ha (Ia (Ma (Ja (v := .agg (List.toArray cs)) (Ec (l := cs) isAgg27 sizeOf27 rfl hl (hF.cellsAll 1 rfl)) ?_)))
 refine Pb hF (ZI x hsz S _ cs (hF.rep hR) hk (hG.ext hF.same)) (Ib TJ rfl rfl) ?_
 clear hF; intro w hF
 refine Ca (Zo rfl) (Ha ?_)
 refine Gk rfl rfl (fun hc0 => ?_) (fun hc0 => ?_)
 refine Ma ?_
 refine Ja (w' := w) (v := .agg #[.int .i64 0, .string (bs []), .slice none 0 0, .slice none 0 0]) Db ?_
 refine Il hF sizeOf27 rfl rfl Hl ?_
 clear hF; rintro w hF -
 refine Ha ?_
 refine Wb (Vb (Ua (Uw rfl (l := [.int .i64 0, .string (bs []), .slice none 0 0, .slice none 0 0]) rfl isAgg27 sizeOf27 rfl (hF.cellsAll 0 rfl)) ?_))
 have ho_ : Ui x = false := by simpa using hc0
 refine ⟨_, rfl, ?_, hF.same⟩
 rw [Pf, ho_]
 exact SA _ _
 refine Xa (Ga (Ma (Ja (v := .agg (List.toArray cs)) (Ec (l := cs) isAgg27 sizeOf27 rfl hl (hF.cellsAll 1 rfl)) ?_)))
 refine Cb (WB x S _ cs (hF.rep hR) hk (Em (by simpa using hc0)) hsz) (Ib ID rfl rfl) ?_
 rintro _ w ⟨ct, rfl, hRt, hE⟩
 have hlct : ct.length = 4 := hRt.length.trans (Sd _)
 have hoct := hRt.one_
 have hXX := RX.made (ids := [b2, b1]) hF.same.size (fun x hx => hF.lt_ids (by grind)) hRt
 replace hF := hF.ext hE
 clear hE hRt
 refine Xf 0 (l := ct) (cs' := (List.toArray ct)) hF (by rw [hlct]; exact sizeOf27) rfl (v := .agg (List.toArray ct)) rfl rfl (hoct) rfl (by rw [hlct]; exact Nat.le_of_ble_eq_true rfl) (Qr (by rw [hlct]; rfl)) ?_
 clear hF; intro w hF hE
 replace hXX := hXX.store hE (by grind)
 clear hE
 replace hF : FR w0 [] [(b2, .cells (List.toArray ct) 27), _] w := hF
 refine Ha ?_
 refine Wb (Vb (Ua (Uw rfl (l := ct) rfl isAgg27 sizeOf27 hlct (hF.cellsAll 0 rfl)) ?_))
 have ho_ : Ui x = true := by simpa using hc0
 refine ⟨_, rfl, ?_, hF.same⟩
 rw [Pf, ho_]
 · exact hXX.done
end Go.Scarf
