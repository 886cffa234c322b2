/- A part of the proof. -/
import Derived.Test.YtpliibolgknenaaGreatDoorW10
import Derived.Test.YtpliibolgknenaaGreatDoorFacts
import Derived.Test.YtpliibolgknenaaGreatDoorMore
import Derived.Test.YtpliibolgknenaaGreatDoorIter
set_option linter.all false
namespace Go.Scarf
open Go.RowKit Go.Proofs
mutual
def keysT : Tree → Nat | .node _ _ ks xs => ks.length + keysTs xs
def keysTs : List Tree → Nat | [] => 0 | x :: xs => keysT x + keysTs xs
end
def Lie (w : World) (A : Option Addr) (n : Nat) (es : List Value) : Prop := n ≠ 0 → ∃ ad, A = some ad ∧ ∀ j (hj : j < es.length), w.cell? (ad.add j) = some es[j]
theorem Lie.ext {w w' : World} {A : Option Addr} {n : Nat} {es : List Value} (h : Lie w A n es) (hs : Same [] w w') : Lie w' A n es := fun hn => by
  obtain ⟨ad, hA, hc⟩ := h hn
  exact ⟨ad, hA, fun j hj => ((FR.start w []).ext hs).cells0 hc j hj⟩
def NewC (F : Nat) (args : Array Value) (d : D) (w0 : World) : Prop := Calls Tryz.prog F args w0 (Ret fun v w' => ∃ ct : List Value, v = .agg ct.toArray ∧ Rep (Btw w0 w') w' d ct ∧ Same [] w0 w')
end Go.Scarf
namespace Go.Scarf
open Go.RowKit Go.Proofs
mutual
def sortT : Tree → Tree
  | .node k t ks xs => if k = 6 then .node k t (sortS ks) ((sortS ks).map fun key => (lookT ks (sortTs xs) key).getD (.node 0 [] [] [])) else .node k t [] (sortTs xs)
def sortTs : List Tree → List Tree
  | [] => []
  | x :: xs => sortT x :: sortTs xs
end
theorem sortTs_eq : ∀ xs : List Tree, sortTs xs = xs.map sortT
  | [] => rfl
  | x :: xs => by rw [sortTs, sortTs_eq xs, List.map_cons]
theorem lookT_sort {key : Str} {y : Tree} : ∀ {ks : List Str} {xs : List Tree}, lookT ks xs key = some y → lookT ks (sortTs xs) key = some (sortT y)
  | [], xs, h => by cases xs <;> cases h
  | k :: ks, [], h => by cases h
  | k :: ks, x :: xs, h => by
    rw [sortTs, lookT]
    rw [lookT] at h
    by_cases he : k = key
    · rw [if_pos he] at h ⊢; injection h with h; rw [h]
    · rw [if_neg he] at h ⊢; exact lookT_sort h
theorem lookM_some {S : Nat → Prop} {w : World} {key : Str} {ks : List Str} {xs : List Tree} {l : MapL} (hk : l.map (·.1) = ks) (hm : MapRep S w xs l) (hin : key ∈ ks) :
    ∃ (cs : List Value) (y : Tree), lookM l key = some (.agg cs.toArray) ∧ lookT ks xs key = some y ∧ y ∈ xs ∧ Rep S w (treeD y) cs := by
  rcases lookM_tree key hk hm with ⟨h, -⟩ | h
  · exfalso
    rw [← hk] at hin
    obtain ⟨x, hx, hxe⟩ := List.mem_map.1 hin
    unfold lookM at h
    rw [Option.map_eq_none_iff, List.find?_eq_none] at h
    exact h x hx (by simpa using hxe)
  · exact h
theorem MapRep.back {S : Nat → Prop} {w0 w : World} {xs : List Tree} {l : MapL} (h : MapRep (Old S w0) w xs l) (hs : Same [] w0 w) : MapRep (Old S w0) w0 xs l := fun i hi => by
  obtain ⟨cs, h1, h2, h3⟩ := h i hi
  exact ⟨cs, h1, h2, h3.back hs⟩
def KeysAt (w1 : World) (bk m : Nat) (l : MapL) : Prop := ∃ W : World, w1 = W.alloc (.cells #[.map (some m)] 100) ∧ bk = W.heap.size ∧ W.heap[m]? = some (mapO l)
theorem keys_c (m : Nat) (l : MapL) (w : World) (hm : w.heap[m]? = some (mapO l)) : Calls Tryz.prog 72 #[.map (some m)] w (Ret fun v w' => ∃ bk, v = .func (.func 93) #[] #[.pointer (some ⟨bk, 0, none⟩)] ∧ KeysAt w' bk m l ∧ Same [] w w') :=
  (callsIn_wide.1 (Tryz.maps_Keys_72 (some m) w)).mono fun _ _ ⟨he, hw⟩ => ⟨_, he, w.heap.size, rfl, ⟨w, hw, rfl, hm⟩, by rw [hw]; exact Same.alloc w _⟩
theorem sortedKeys_c (bk m : Nat) (l : MapL) (ks : List Str) (w : World) (h : KeysAt w bk m l) (hk : l.map (·.1) = ks) (hn : ks.Nodup) (hb : ks.length ≤ 1000000000) (hs : ∀ s ∈ ks, s.length ≤ 140737488355328) :
    Calls Tryz.prog 71 #[.func (.func 93) #[] #[.pointer (some ⟨bk, 0, none⟩)]] w (Ret fun v w' => ∃ A c, v = .slice A ks.length c ∧ Rep (Btw w w') w' (strsD (sortS ks)) [.slice A ks.length c] ∧ Same [] w w') := by
  obtain ⟨W, rfl, rfl, hm⟩ := h
  have hl : l.length = ks.length := by rw [← hk, List.length_map]
  obtain ⟨D0, hown, hperm, hsz⟩ := ownsMap_of (P := Tryz.prog) Tryz.underlying9 hm (by rw [hk]; exact hn) (fun x hx => by have := hs x.1 (by rw [← hk]; exact List.mem_map_of_mem hx); simp only [maxLen]; omega) (by simp only [maxLen]; omega)
  refine (callsIn_wide.1 (Tryz.slices_Sorted_keys_71_72 m l.length D0 _ W hown (by rw [hsz]; simp only [maxLen]; omega) (by rw [hsz]; omega))).mono ?_
  rintro e w' ⟨v, ss, rfl, hp, hrow, -, hbel⟩
  have hpk : ss.Perm ks := by rw [← hk]; exact hp.trans hperm
  have e1 : (ss.mergeSort fun x y => decide (x ≤ y)) = sortS ks := sortS_of_perm hpk
  rw [e1] at hrow
  have e2 : ss.length = (sortS ks).length := by rw [sortS_len]; exact hpk.length_eq
  rw [e2] at hrow
  obtain ⟨A, c, rfl, hr⟩ := row_strs (S := Btw (W.alloc (.cells #[.map (some m)] 100)) w') 9 hrow (fun g h1 h2 h3 => ⟨h1, h2, h3⟩) (fun s hs' => by have := hs s (sortS_mem.1 hs'); omega)
  rw [sortS_len] at hr
  exact ⟨_, rfl, A, c, by rw [sortS_len], hr, .of_below hbel⟩
def SortedC (x : Tree) : Prop := ∀ S w0 cs, Rep S w0 (treeD x) cs → okT x → allT nodeB x = true → sizeT x ≤ 1000000000 → NewC 51 #[.agg cs.toArray] (treeD (sortT x)) w0
theorem sortTs_take {xs : List Tree} {j : Nat} (h : j < xs.length) : treesD (sortTs (xs.take (j + 1))) = treesD (sortTs (xs.take j)) ++ [treeD (sortT xs[j])] := by
  rw [List.take_succ_eq_append_getElem h, treesD_eq, treesD_eq, sortTs_eq, sortTs_eq, List.map_append, List.map_append]; rfl
def outs (ks : List Str) (xs : List Tree) : List Tree := (sortS ks).map fun key => (lookT ks (sortTs xs) key).getD (.node 0 [] [] [])
theorem outs_len (ks : List Str) (xs : List Tree) : (outs ks xs).length = ks.length := by rw [outs, List.length_map, sortS_len]
theorem outs_take {ks : List Str} {xs : List Tree} {j : Nat} {y : Tree} (h : j < (sortS ks).length) (hy : lookT ks xs (sortS ks)[j] = some y) : treesD ((outs ks xs).take (j + 1)) = treesD ((outs ks xs).take j) ++ [treeD (sortT y)] := by
  have h' : j < (outs ks xs).length := by rw [outs_len, ← sortS_len]; exact h
  rw [List.take_succ_eq_append_getElem h', treesD_eq, treesD_eq, List.map_append]
  simp only [outs, List.getElem_map, lookT_sort hy, Option.getD_some]
  rfl
set_option maxHeartbeats 4000000 in
set_option maxRecDepth 10000 in
theorem sorted_step (k : Int) (t : Str) (ks : List Str) (xs : List Tree) (ih : ∀ x, x ∈ xs → SortedC x) : SortedC (.node k t ks xs) := by
 intro S w0 cs hR hok hnx hsz
 replace hR := hR.old
 rw [okT] at hok
 rw [sizeT] at hsz
 have hxn := sizeTs_len xs
 replace hnx := allT_node hnx
 obtain ⟨A, c, B, e, rfl, hk, ht, hK, hX⟩ := hR.tree_inv
 have hXl := hX.slice_len
 have hKn : k = 6 → ks.length = xs.length := fun e => (node6 (e ▸ hnx.1)).2
 refine calls_start Tryz.func51 rfl Tryz.ntmps51 (Nat.le_of_ble_eq_true rfl) (args_1 _) ?_
 have hF := FR.start w0 []
 refine c_seq (c_region ?_)
 refine o_box (v := .agg #[.int .i64 (k), .string (bs (t)), .slice (A) (ks.length) (c), .slice (B) (xs.length) (e)]) (cs := #[.int .i64 (k), .string (bs (t)), .slice (A) (ks.length) (c), .slice (B) (xs.length) (e)]) hF rfl rfl ?_
 clear hF; rintro b1 w hb1 hF -
 refine o_alloc (cs := #[.int .i64 (0), .string (bs ([])), .slice (none) (0) (0), .slice (none) (0) (0)]) hF Tryz.zeroValue25 rfl ?_
 clear hF; rintro b2 w hb2 hF -
 refine o_nil (e_seq (c_seq (c_region (o_val (v := .pointer (some ⟨b1, 0, none⟩)) (x_fieldAddrO fa_25_0 rfl) (o_val (v := .int .i64 (k)) (x_load Tryz.isAgg3 rfl (hF.cell 1 rfl rfl)) (o_val (v := .pointer (some ⟨b1, 1, none⟩)) (x_fieldAddrO fa_25_1 rfl) (o_val (v := .string (bs (t))) (x_load Tryz.isAgg9 rfl (hF.cell 1 rfl rfl)) ?_)))))))
 refine o_val (w' := w) (v := .agg #[.int .i64 (k), .string (bs (t)), .slice (none) (0) (0), .slice (none) (0) (0)]) (by kernel_rfl) ?_
 refine o_lay (l := [.int .i64 (k), .string (bs (t)), .slice (none) (0) (0), .slice (none) (0) (0)]) hF Tryz.zeroValue25 Tryz.sizeOf25 rfl (v := .agg #[.int .i64 (k), .string (bs (t)), .slice (none) (0) (0), .slice (none) (0) (0)]) rfl rfl (by simp [one]) rfl ?_
 clear hF; rintro b3 w hb3 hF -
 refine o_nil (e_seq (c_seq (c_seq (c_region (o_val (v := .pointer (some ⟨b1, 0, none⟩)) (x_fieldAddrO fa_25_0 rfl) (o_val (v := .int .i64 (k)) (x_load Tryz.isAgg3 rfl (hF.cell 2 rfl rfl)) (o_val (v := .bool (decide ((k : Int) ≠ (6 : Int)))) (x_neq rfl rfl) (o_nil (e_seq ?_)))))))))
 refine c_splitd (d := 16) (p := (k : Int) ≠ (6 : Int)) rfl (fun hc0 => ?_) (fun hc0 => ?_)
 refine c_ift rfl (c_seq (c_seq (c_region (o_val (v := .pointer (some ⟨b1, 3, none⟩)) (x_fieldAddrO fa_25_3 rfl) (o_val (v := .slice (B) (xs.length) (e)) (x_load Tryz.isAgg23 rfl (hF.cell 2 rfl rfl)) (o_val (v := .int .i64 ((xs.length : Nat))) (x_len_slice Tryz.underlying23 rfl) (o_val (x_move rfl) (o_nil (e_seq (c_block ?_))))))))))
 refine c_loop (fun μ σ w => ∃ (j : Nat), ∃ (A1 : Option Addr), ∃ (c1 : Nat), ∃ (sb : List (Nat × Obj)), ∃ (cs1 : List Value), μ = xs.length - j ∧ (j ≤ xs.length) ∧ (SlB 25 4 A1 j c1 cs1 sb) ∧ (RX w0 ([b3, b2, b1] ++ sb.map (·.1)) w (treesD (sortTs (xs.take j))) cs1) ∧ AllEq σ [(2, .pointer (some ⟨b2, 0, none⟩)), (3, .pointer (some ⟨b3, 0, none⟩)), (18, .slice (B) (xs.length) (e)), (19, .int .i64 ((xs.length : Nat))), (20, .int .i64 ((j : Int)))] ∧ FR w0 [] ([(b3, .cells #[.int .i64 (k), .string (bs (t)), .slice (none) (0) (0), .slice (A1) (j) (c1)] 25), (b2, .cells #[.int .i64 (0), .string (bs ([])), .slice (none) (0) (0), .slice (none) (0) (0)] 25), (b1, .cells #[.int .i64 (k), .string (bs (t)), .slice (A) (ks.length) (c), .slice (B) (xs.length) (e)] 25)] ++ (sb ++ [])) w) _ ⟨0, none, 0, [], [], rfl, (Nat.zero_le _), (SlB.nil _ _), (RX.nil), ⟨rfl, rfl, rfl, rfl, rfl, trivial⟩, hF⟩ ?_
 clear hF; rintro μ σ w ⟨j, A1, c1, sb, cs1, rfl, hj, hS, hDX, hs, hF⟩
 refine Cg.slots hs ?_
 clear hs; intro σ
 refine c_seq (c_region (o_val (v := .bool (decide (((j : Int) : Int) < ((xs.length : Nat) : Int)))) (x_lss rfl rfl) (o_nil (e_seq (c_seq ?_)))))
 refine c_splitd (d := 21) (p := ((j : Int) : Int) < ((xs.length : Nat) : Int)) rfl (fun hc1 => ?_) (fun hc1 => ?_)
 refine c_ift rfl (c_skip (e_seq (c_seq (c_block (c_seq (c_region ?_))))))
 obtain ⟨ad0, cs0, hA0, hl0, hk0, hx0⟩ := hX.tree_elem (i := j) (by omega)
 have ho0 := hx0.one_
 refine o_val (v := .pointer (some (ad0.add (j * 4)))) (x_indexAddrA (i := (j : Int)) sl_23 rfl hA0 rfl (by omega) (by omega)) (o_val (v := .agg (List.toArray cs0)) (x_loadS (l := cs0) Tryz.isAgg25 Tryz.sizeOf25 rfl hl0 (hF.cells0 hk0)) ?_)
 refine o_lay (l := cs0) hF Tryz.zeroValue25 (by rw [hl0]; exact Tryz.sizeOf25) (by rw [hl0]; rfl) (v := .agg (List.toArray cs0)) rfl rfl (ho0) rfl ?_
 clear hF; intro b4 w hb4 hF hE
 replace hDX := hDX.alloc hE hb4
 clear hE
 refine o_nil (e_seq ?_)
 refine c_drawF [7] (.free 0 (.free 1 (.free 2 (.act 3 (.act 4 (.act 5 (.free 6 (.act 7 .nil)))))))) (by kernel_rfl) hF (by kernel_rfl) (by kernel_rfl) ?_
 clear hF; intro w hF hE
 replace hDX := hDX.ext hE
 clear hE
 refine ⟨fun wq => FR w0 [] [(b4, .cells (List.toArray cs0) 25), (b3, .cells #[.int .i64 (k), .string (bs (t)), .slice (none) (0) (0), .slice (A1) (j) (c1)] 25), (b2, .cells #[.int .i64 (0), .string (bs ([])), .slice (none) (0) (0), .slice (none) (0) (0)] 25), (b1, .cells #[.int .i64 (k), .string (bs (t)), .slice (A) (ks.length) (c), .slice (B) (xs.length) (e)] 25)] wq, hF.sub (.cons_cons _ (.cons_cons _ (.cons_cons _ (.cons_cons _ (List.nil_sublist _))))), ?_⟩
 refine f_free rfl (v := .pointer (some ⟨b3, 3, none⟩)) (fun w hC => x_fieldAddrO fa_25_3 rfl) (f_free rfl (v := .slice (A1) (j) (c1)) (fun w hC => x_load Tryz.isAgg23 rfl (hC.cell 1 rfl rfl)) (f_free rfl (v := .agg (List.toArray cs0)) (fun w hC => x_loadS (l := cs0) Tryz.isAgg25 Tryz.sizeOf25 rfl hl0 (hC.cellsAll 0 rfl)) ?_))
 refine f_call rfl (ih xs[j] (List.getElem_mem (by omega)) _ _ cs0 (hF.rep hx0) (okTs_mem hok.2.2 _ (List.getElem_mem (by omega))) (hnx.2 _ (List.getElem_mem (by omega))) (by have := sizeTs_mem (List.getElem_mem (l := xs) (n := j) (by omega)); omega)) (x_call1 en_51 rfl rfl) ?_
 rintro _ w ⟨ct, rfl, hRt, hE⟩
 have hlt : ct.length = 4 := hRt.length.trans (size_treeD _)
 have hot := hRt.one_
 have hYX := RX.made (ids := [b4, b3, b2, b1] ++ sb.map (·.1)) hF.same.size (fun x hx => hF.lt_ids (by grind)) hRt
 replace hDX := (hDX.ext hE).append hYX
 replace hF := hF.ext hE
 clear hE hYX
 refine ⟨hF.sub (.cons_cons _ (.cons_cons _ (.cons_cons _ (.cons_cons _ (List.nil_sublist _))))), ?_⟩
 refine f_new rfl (v := fun b => .slice (some ⟨b, 0, none⟩) 1 1) hF (x_buildSlice1 (l := ct) Tryz.underlying23 Tryz.sizeOf25 Tryz.zeroValue25 (by decide) (by decide) rfl hlt) ?_
 clear hF; intro b5 w hb5 hF hE
 replace hDX := hDX.alloc hE hb5
 clear hE
 refine ⟨hF.sub (.cons _ (.cons_cons _ (.cons_cons _ (.cons_cons _ (.cons_cons _ (List.nil_sublist _)))))), ?_⟩
 refine f_append [(b5, .cells (List.toArray ct) 25), (b4, .cells (List.toArray cs0) 25), (b3, .cells #[.int .i64 (k), .string (bs (t)), .slice (none) (0) (0), .slice (A1) (j) (c1)] 25), (b2, .cells #[.int .i64 (0), .string (bs ([])), .slice (none) (0) (0), .slice (none) (0) (0)] 25), (b1, .cells #[.int .i64 (k), .string (bs (t)), .slice (A) (ks.length) (c), .slice (B) (xs.length) (e)] 25)] [] (news := ct) (len' := j + 1) (ys := cs1 ++ ct) rfl el_23 hF hS rfl rfl (by rw [hlt]) (fun _ => ⟨_, rfl, cells_opt (hF.cellsAll 0 rfl)⟩) (ones_eq hot) (by simp only [maxLen]; omega) (rfl) (rfl) (by omega) ?_
 clear hF; intro A1 c1 i_1 w hS1_i hF hE hnew
 replace hDX := hDX.app (l := [b5, b4, b3, b2, b1]) hE hnew
 clear hE hnew
 refine ⟨hF.sub (.cons _ (.cons_cons _ (.cons_cons _ (.cons_cons _ (.cons_cons _ (List.nil_sublist _)))))), ?_⟩
 refine f_free rfl (v := .pointer (some ⟨b3, 3, none⟩)) (fun w hC => x_fieldAddrO fa_25_3 rfl) ?_
 refine f_storez rfl 2 (l := [.slice (A1) (j + 1) (c1)]) (cs' := #[.int .i64 (k), .string (bs (t)), .slice (none) (0) (0), .slice (A1) (j + 1) (c1)]) hF Tryz.sizeOf23 rfl (v := .slice (A1) (j + 1) (c1)) rfl rfl (by simp [one]) rfl (Nat.le_of_ble_eq_true rfl) rfl ?_
 clear hF; intro w hF hE
 replace hDX := hDX.store hE (by grind)
 clear hE
 replace hF : FR w0 [] ([(b5, .cells (List.toArray ct) 25), (b4, .cells (List.toArray cs0) 25), (b3, .cells #[.int .i64 (k), .string (bs (t)), .slice (none) (0) (0), .slice (A1) (j + 1) (c1)] 25), (b2, .cells #[.int .i64 (0), .string (bs ([])), .slice (none) (0) (0), .slice (none) (0) (0)] 25), (b1, .cells #[.int .i64 (k), .string (bs (t)), .slice (A) (ks.length) (c), .slice (B) (xs.length) (e)] 25)] ++ (i_1 ++ [])) w := hF
 refine d_nil (e_block (e_seq (c_region (o_val (v := .int .i64 (((j : Int) : Int) + 1)) (x_add rfl rfl (wrap_id (by omega) (by omega))) (o_val (x_move rfl) (o_nil ?_))))))
 refine e_inv ⟨_, ?_, j + 1, A1, c1, i_1, cs1 ++ ct, rfl, (by omega), (by assumption), (by rw [sortTs_take (by omega)]; exact hDX.sub (by grind)), ⟨rfl, rfl, rfl, rfl, rfl, trivial⟩, hF.drop 2⟩
 omega
 refine c_iff rfl ?_
 refine c_exit (e_exit rfl ?_)
 refine e_seq (c_seq (c_region (o_val (v := .agg #[.int .i64 (k), .string (bs (t)), .slice (none) (0) (0), .slice (A1) (j) (c1)]) (x_loadS (l := [.int .i64 (k), .string (bs (t)), .slice (none) (0) (0), .slice (A1) (j) (c1)]) Tryz.isAgg25 Tryz.sizeOf25 rfl rfl (hF.cellsAll 0 rfl)) ?_)))
 refine o_store 1 (l := [.int .i64 (k), .string (bs (t)), .slice (none) (0) (0), .slice (A1) (j) (c1)]) (cs' := #[.int .i64 (k), .string (bs (t)), .slice (none) (0) (0), .slice (A1) (j) (c1)]) hF Tryz.sizeOf25 rfl (v := .agg #[.int .i64 (k), .string (bs (t)), .slice (none) (0) (0), .slice (A1) (j) (c1)]) rfl rfl (by simp [one]) rfl (Nat.le_of_ble_eq_true rfl) rfl ?_
 clear hF; intro w hF hE
 replace hDX := hDX.store hE (by grind)
 clear hE
 replace hF : FR w0 [] ([(b3, .cells #[.int .i64 (k), .string (bs (t)), .slice (none) (0) (0), .slice (A1) (j) (c1)] 25), (b2, .cells #[.int .i64 (k), .string (bs (t)), .slice (none) (0) (0), .slice (A1) (j) (c1)] 25), (b1, .cells #[.int .i64 (k), .string (bs (t)), .slice (A) (ks.length) (c), .slice (B) (xs.length) (e)] 25)] ++ (sb ++ [])) w := hF
 refine o_nil (e_seq ?_)
 refine c_ret (e_ret (post_ret (res_c rfl (l := [.int .i64 (k), .string (bs (t)), .slice (none) (0) (0), .slice (A1) (j) (c1)]) rfl Tryz.isAgg25 Tryz.sizeOf25 rfl (hF.cellsAll 1 rfl)) ?_))
 have ej : j = xs.length := by omega
 subst ej
 rw [List.take_length] at hDX
 refine ⟨_, rfl, ?_, hF.same⟩
 rw [sortT, if_neg hc0]
 exact Rep.tree_mk hk ht (Rep.nil_slice 0 (by omega) none) (hS.rep (pre := [_, _, _]) (post := []) hF hDX (by rw [treesD_length, sortTs_eq, List.length_map]))
 refine c_iff rfl (c_skip (e_seq (c_seq (c_region (o_val (v := .agg #[.int .i64 (k), .string (bs (t)), .slice (A) (ks.length) (c), .slice (B) (xs.length) (e)]) (x_loadS (l := [.int .i64 (k), .string (bs (t)), .slice (A) (ks.length) (c), .slice (B) (xs.length) (e)]) Tryz.isAgg25 Tryz.sizeOf25 rfl rfl (hF.cellsAll 2 rfl)) ?_)))))
 have k6 : k = 6 := by simpa using hc0
 refine o_call (members_c k t ks xs (node6 (k6 ▸ hnx.1)).1 (node6 (k6 ▸ hnx.1)).2 _ _ _ (hF.rep hR)) (x_call1 en_70 rfl rfl) ?_
 rintro _ w ⟨m1, l1, rfl, hge, hm1, hk1, hr1, hE⟩
 replace hF := hF.cons_ext hE hm1 hge
 replace hr1 := hr1.back hF.same
 clear hE hm1 hge
 refine o_val (x_assign rfl) (o_nil (e_seq (c_seq (c_region (o_val (x_move rfl) ?_)))))
 refine o_call (keys_c m1 l1 _ (hF.heap (i := 0) rfl)) (x_call1 en_72 rfl rfl) ?_
 rintro _ w ⟨bk, rfl, hKA, hE⟩
 replace hF := hF.ext hE
 clear hE
 refine o_call (sortedKeys_c bk m1 l1 ks _ hKA hk1 (node6 (k6 ▸ hnx.1)).1 (by omega) hok.2.1) (x_call1 en_71 rfl rfl) ?_
 rintro _ w ⟨A2, c2, rfl, hK2, hE⟩
 have hKX := RX.made (ids := [m1, b3, b2, b1]) hF.same.size (fun x hx => hF.lt_ids (by grind)) hK2
 replace hF := hF.ext hE
 clear hE hK2
 refine o_val (v := .pointer (some ⟨b3, 2, none⟩)) (x_fieldAddrO fa_25_2 rfl) ?_
 refine o_store 1 (l := [.slice (A2) (ks.length) (c2)]) (cs' := #[.int .i64 (k), .string (bs (t)), .slice (A2) (ks.length) (c2), .slice (none) (0) (0)]) hF Tryz.sizeOf22 rfl (v := .slice (A2) (ks.length) (c2)) rfl rfl (by simp [one]) rfl (Nat.le_of_ble_eq_true rfl) rfl ?_
 clear hF; intro w hF hE
 replace hKX := hKX.store hE (by grind)
 clear hE
 replace hF : FR w0 [] [(m1, mapO (l1)), (b3, .cells #[.int .i64 (k), .string (bs (t)), .slice (A2) (ks.length) (c2), .slice (none) (0) (0)] 25), (b2, .cells #[.int .i64 (0), .string (bs ([])), .slice (none) (0) (0), .slice (none) (0) (0)] 25), (b1, .cells #[.int .i64 (k), .string (bs (t)), .slice (A) (ks.length) (c), .slice (B) (xs.length) (e)] 25)] w := hF
 refine o_nil (e_seq (c_seq (c_seq (c_region (o_val (v := .pointer (some ⟨b3, 2, none⟩)) (x_fieldAddrO fa_25_2 rfl) (o_val (v := .slice (A2) (ks.length) (c2)) (x_load Tryz.isAgg22 rfl (hF.cell 1 rfl rfl)) (o_val (v := .int .i64 ((ks.length : Nat))) (x_len_slice Tryz.underlying22 rfl) (o_val (x_move rfl) (o_nil (e_seq (c_block ?_)))))))))))
 refine c_loop (fun μ σ w => ∃ (j : Nat), ∃ (A1 : Option Addr), ∃ (c1 : Nat), ∃ (sb : List (Nat × Obj)), ∃ (cs1 : List Value), μ = ks.length - j ∧ (j ≤ ks.length) ∧ (SlB 25 4 A1 j c1 cs1 sb) ∧ (RX w0 ([m1, b3, b2, b1] ++ sb.map (·.1)) w (treesD ((outs ks xs).take j)) cs1) ∧ (RX w0 ([m1, b3, b2, b1] ++ sb.map (·.1)) w [strsD (sortS ks)] [.slice A2 ks.length c2]) ∧ AllEq σ [(2, .pointer (some ⟨b2, 0, none⟩)), (3, .pointer (some ⟨b3, 0, none⟩)), (6, .map (some m1)), (40, .slice (A2) (ks.length) (c2)), (41, .int .i64 ((ks.length : Nat))), (42, .int .i64 ((j : Int)))] ∧ FR w0 [] ([(m1, mapO (l1)), (b3, .cells #[.int .i64 (k), .string (bs (t)), .slice (A2) (ks.length) (c2), .slice (A1) (j) (c1)] 25), (b2, .cells #[.int .i64 (0), .string (bs ([])), .slice (none) (0) (0), .slice (none) (0) (0)] 25), (b1, .cells #[.int .i64 (k), .string (bs (t)), .slice (A) (ks.length) (c), .slice (B) (xs.length) (e)] 25)] ++ (sb ++ [])) w) _ ⟨0, none, 0, [], [], rfl, (Nat.zero_le _), (SlB.nil _ _), (RX.nil), (hKX), ⟨rfl, rfl, rfl, rfl, rfl, rfl, trivial⟩, hF⟩ ?_
 clear hF; rintro μ σ w ⟨j, A1, c1, sb, cs1, rfl, hj, hS, hDX, hKX, hs, hF⟩
 refine Cg.slots hs ?_
 clear hs; intro σ
 refine c_seq (c_region (o_val (v := .bool (decide (((j : Int) : Int) < ((ks.length : Nat) : Int)))) (x_lss rfl rfl) (o_nil (e_seq (c_seq ?_)))))
 refine c_splitd (d := 43) (p := ((j : Int) : Int) < ((ks.length : Nat) : Int)) rfl (fun hc2 => ?_) (fun hc2 => ?_)
 refine c_ift rfl (c_skip (e_seq (c_seq (c_block (c_seq (c_region ?_))))))
 obtain ⟨ad2, hA2, hk2, hx2⟩ := hKX.rep.str_elem (i := j) (by rw [sortS_len]; omega)
 refine o_val (v := .pointer (some (ad2.add (j * 1)))) (x_indexAddrA (i := (j : Int)) sl_22 rfl hA2 rfl (by omega) (by omega)) ?_
 refine o_val (v := .string (bs ((sortS ks)[j]'(by rw [sortS_len]; omega)))) (x_load Tryz.isAgg9 rfl hk2) ?_
 refine o_val (x_assign rfl) ?_
 refine o_nil (e_seq ?_)
 refine c_drawF [9] (.free 0 (.free 1 (.free 2 (.free 3 (.free 4 (.act 5 (.act 6 (.act 7 (.free 8 (.act 9 .nil)))))))))) (by kernel_rfl) hF (by kernel_rfl) (by kernel_rfl) ?_
 clear hF; intro w hF hE
 replace hDX := hDX.ext hE
 replace hKX := hKX.ext hE
 clear hE
 refine ⟨fun wq => FR w0 [] [(m1, mapO (l1)), (b3, .cells #[.int .i64 (k), .string (bs (t)), .slice (A2) (ks.length) (c2), .slice (A1) (j) (c1)] 25), (b2, .cells #[.int .i64 (0), .string (bs ([])), .slice (none) (0) (0), .slice (none) (0) (0)] 25), (b1, .cells #[.int .i64 (k), .string (bs (t)), .slice (A) (ks.length) (c), .slice (B) (xs.length) (e)] 25)] wq, hF.sub (.cons_cons _ (.cons_cons _ (.cons_cons _ (.cons_cons _ (List.nil_sublist _))))), ?_⟩
 refine f_free rfl (v := .pointer (some ⟨b3, 3, none⟩)) (fun w hC => x_fieldAddrO fa_25_3 rfl) (f_free rfl (v := .slice (A1) (j) (c1)) (fun w hC => x_load Tryz.isAgg23 rfl (hC.cell 1 rfl rfl)) (f_free rfl (v := .map (some m1)) (fun w hC => x_move rfl) ?_))
 refine f_free rfl (v := .string (bs ((sortS ks)[j]'(by rw [sortS_len]; omega)))) (fun w hC => x_move rfl) ?_
 obtain ⟨cy, y, hlk, hlt_, hym, hry⟩ := lookM_some hk1 hr1 (sortS_mem.1 (List.getElem_mem (l := sortS ks) (n := j) (by rw [sortS_len]; omega)))
 have hoy := hry.one_
 have hly : cy.length = 4 := hry.length.trans (size_treeD _)
 refine f_free rfl (v := .agg (List.toArray cy)) (fun w hC => x_lookupE Tryz.underlying100 Tryz.underlying9 Tryz.zeroValue25 rfl rfl (hC.heap (i := 0) rfl) (by rw [hlk]; rfl)) ?_
 refine f_call rfl (ih y hym _ _ cy (hF.rep hry) (okTs_mem hok.2.2 y hym) (hnx.2 y hym) (by have := sizeTs_mem hym; omega)) (x_call1 en_51 rfl rfl) ?_
 rintro _ w ⟨ct, rfl, hRt, hE⟩
 have hlt : ct.length = 4 := hRt.length.trans (size_treeD _)
 have hot := hRt.one_
 have hYX := RX.made (ids := [m1, b3, b2, b1] ++ sb.map (·.1)) hF.same.size (fun x hx => hF.lt_ids (by grind)) hRt
 replace hDX := (hDX.ext hE).append hYX
 replace hF := hF.ext hE
 replace hKX := hKX.ext hE
 clear hE hYX
 refine ⟨hF.sub (.cons_cons _ (.cons_cons _ (.cons_cons _ (.cons_cons _ (List.nil_sublist _))))), ?_⟩
 refine f_new rfl (v := fun b => .slice (some ⟨b, 0, none⟩) 1 1) hF (x_buildSlice1 (l := ct) Tryz.underlying23 Tryz.sizeOf25 Tryz.zeroValue25 (by decide) (by decide) rfl hlt) ?_
 clear hF; intro b6 w hb6 hF hE
 replace hDX := hDX.alloc hE hb6
 replace hKX := hKX.alloc hE hb6
 clear hE
 refine ⟨hF.sub (.cons _ (.cons_cons _ (.cons_cons _ (.cons_cons _ (.cons_cons _ (List.nil_sublist _)))))), ?_⟩
 refine f_append [(b6, .cells (List.toArray ct) 25), (m1, mapO (l1)), (b3, .cells #[.int .i64 (k), .string (bs (t)), .slice (A2) (ks.length) (c2), .slice (A1) (j) (c1)] 25), (b2, .cells #[.int .i64 (0), .string (bs ([])), .slice (none) (0) (0), .slice (none) (0) (0)] 25), (b1, .cells #[.int .i64 (k), .string (bs (t)), .slice (A) (ks.length) (c), .slice (B) (xs.length) (e)] 25)] [] (news := ct) (len' := j + 1) (ys := cs1 ++ ct) rfl el_23 hF hS rfl rfl (by rw [hlt]) (fun _ => ⟨_, rfl, cells_opt (hF.cellsAll 0 rfl)⟩) (ones_eq hot) (by simp only [maxLen]; omega) (rfl) (rfl) (by omega) ?_
 clear hF; intro A3 c3 i_3 w hS3_i hF hE hnew
 replace hDX := hDX.app (l := [b6, m1, b3, b2, b1]) hE hnew
 replace hKX := hKX.app (l := [b6, m1, b3, b2, b1]) hE hnew
 clear hE hnew
 refine ⟨hF.sub (.cons _ (.cons_cons _ (.cons_cons _ (.cons_cons _ (.cons_cons _ (List.nil_sublist _)))))), ?_⟩
 refine f_free rfl (v := .pointer (some ⟨b3, 3, none⟩)) (fun w hC => x_fieldAddrO fa_25_3 rfl) ?_
 refine f_storez rfl 2 (l := [.slice (A3) (j + 1) (c3)]) (cs' := #[.int .i64 (k), .string (bs (t)), .slice (A2) (ks.length) (c2), .slice (A3) (j + 1) (c3)]) hF Tryz.sizeOf23 rfl (v := .slice (A3) (j + 1) (c3)) rfl rfl (by simp [one]) rfl (Nat.le_of_ble_eq_true rfl) rfl ?_
 clear hF; intro w hF hE
 replace hDX := hDX.store hE (by grind)
 replace hKX := hKX.store hE (by grind)
 clear hE
 replace hF : FR w0 [] ([(b6, .cells (List.toArray ct) 25), (m1, mapO (l1)), (b3, .cells #[.int .i64 (k), .string (bs (t)), .slice (A2) (ks.length) (c2), .slice (A3) (j + 1) (c3)] 25), (b2, .cells #[.int .i64 (0), .string (bs ([])), .slice (none) (0) (0), .slice (none) (0) (0)] 25), (b1, .cells #[.int .i64 (k), .string (bs (t)), .slice (A) (ks.length) (c), .slice (B) (xs.length) (e)] 25)] ++ (i_3 ++ [])) w := hF
 refine d_nil (e_block (e_seq (c_region (o_val (v := .int .i64 (((j : Int) : Int) + 1)) (x_add rfl rfl (wrap_id (by omega) (by omega))) (o_val (x_move rfl) (o_nil ?_))))))
 refine e_inv ⟨_, ?_, j + 1, A3, c3, i_3, cs1 ++ ct, rfl, (by omega), (by assumption), (by rw [outs_take (by rw [sortS_len]; omega) hlt_]; exact hDX.sub (by grind)), (hKX.sub (by grind)), ⟨rfl, rfl, rfl, rfl, rfl, rfl, trivial⟩, hF.drop 1⟩
 omega
 refine c_iff rfl ?_
 refine c_exit (e_exit rfl ?_)
 refine e_seq (c_seq (c_region (o_val (v := .agg #[.int .i64 (k), .string (bs (t)), .slice (A2) (ks.length) (c2), .slice (A1) (j) (c1)]) (x_loadS (l := [.int .i64 (k), .string (bs (t)), .slice (A2) (ks.length) (c2), .slice (A1) (j) (c1)]) Tryz.isAgg25 Tryz.sizeOf25 rfl rfl (hF.cellsAll 1 rfl)) ?_)))
 refine o_store 2 (l := [.int .i64 (k), .string (bs (t)), .slice (A2) (ks.length) (c2), .slice (A1) (j) (c1)]) (cs' := #[.int .i64 (k), .string (bs (t)), .slice (A2) (ks.length) (c2), .slice (A1) (j) (c1)]) hF Tryz.sizeOf25 rfl (v := .agg #[.int .i64 (k), .string (bs (t)), .slice (A2) (ks.length) (c2), .slice (A1) (j) (c1)]) rfl rfl (by simp [one]) rfl (Nat.le_of_ble_eq_true rfl) rfl ?_
 clear hF; intro w hF hE
 replace hDX := hDX.store hE (by grind)
 replace hKX := hKX.store hE (by grind)
 clear hE
 replace hF : FR w0 [] ([(m1, mapO (l1)), (b3, .cells #[.int .i64 (k), .string (bs (t)), .slice (A2) (ks.length) (c2), .slice (A1) (j) (c1)] 25), (b2, .cells #[.int .i64 (k), .string (bs (t)), .slice (A2) (ks.length) (c2), .slice (A1) (j) (c1)] 25), (b1, .cells #[.int .i64 (k), .string (bs (t)), .slice (A) (ks.length) (c), .slice (B) (xs.length) (e)] 25)] ++ (sb ++ [])) w := hF
 refine o_nil (e_seq ?_)
 refine c_ret (e_ret (post_ret (res_c rfl (l := [.int .i64 (k), .string (bs (t)), .slice (A2) (ks.length) (c2), .slice (A1) (j) (c1)]) rfl Tryz.isAgg25 Tryz.sizeOf25 rfl (hF.cellsAll 2 rfl)) ?_))
 have ej : j = ks.length := by omega
 subst ej
 rw [List.take_of_length_le (by rw [outs_len]; exact Nat.le_refl _)] at hDX
 refine ⟨_, rfl, ?_, hF.same⟩
 rw [sortT, if_pos k6]
 · exact Rep.tree_mk hk ht hKX.done (hS.rep (pre := [_, _, _, _]) (post := []) hF hDX (by rw [treesD_length]; exact outs_len ks xs))
theorem sorted_c (x : Tree) : SortedC x := Tree.ind sorted_step x
end Go.Scarf
namespace Go.Scarf
open Go.RowKit Go.Proofs
def zeroT : Tree := .node 0 [] [] []
theorem zero_rep (S : Nat → Prop) (w : World) : Rep S w (treeD zeroT) [.int .i64 0, .string (bs []), .slice none 0 0, .slice none 0 0] :=
  Rep.tree_mk ⟨by omega, by omega⟩ (by simp) (Rep.nil_slice 0 (by omega) none) (Rep.nil_slice 0 (by omega) none)
def sortedV (x : Tree) : Tree := if openB x then sortT x else zeroT
theorem nodeB_keys {k : Int} {t : Str} {ks : List Str} {xs : List Tree} (h : nodeB (.node k t ks xs) = true) : ks.length ≤ xs.length := by
  by_cases h6 : k = 6
  · subst h6; have := (node6 h).2; omega
  · have : ks = [] := by
      simp only [nodeB] at h
      by_cases h5 : k = 5
      · subst h5; simp at h; exact h.1
      · rw [if_neg h5, if_neg h6] at h
        cases ks with
        | nil => rfl
        | cons a l => simp at h
    subst this; simp
theorem keys_lt : ∀ x : Tree, allT nodeB x = true → keysT x + 1 ≤ sizeT x := fun x => Tree.ind (Q := fun x => allT nodeB x = true → keysT x + 1 ≤ sizeT x) (fun k t ks xs ih h => by
  obtain ⟨h1, h2⟩ := allT_node h
  have h3 := nodeB_keys h1
  have h7 : ∀ ys : List Tree, (∀ y ∈ ys, y ∈ xs) → ys.length + keysTs ys ≤ sizeTs ys := by
    intro ys
    induction ys with
    | nil => intro _; simp [keysTs, sizeTs]
    | cons y ys ihy =>
      intro hm
      have h5 := ihy (fun z hz => hm z (by simp [hz]))
      have h9 := ih y (hm y (by simp)) (h2 y (hm y (by simp)))
      simp only [keysTs, sizeTs, List.length_cons]; omega
  have := h7 xs (fun _ h => h)
  rw [keysT, sizeT]
  omega) x
theorem lookT_mem {key : Str} {y : Tree} : ∀ {ks : List Str} {xs : List Tree}, lookT ks xs key = some y → y ∈ xs
  | [], xs, h => by cases xs <;> cases h
  | k :: ks, [], h => by cases h
  | k :: ks, x :: xs, h => by
    rw [lookT] at h
    by_cases he : k = key
    · rw [if_pos he] at h; injection h with h; simp [h]
    · rw [if_neg he] at h; simp [lookT_mem h]
theorem okTs_of : ∀ {xs : List Tree}, (∀ x ∈ xs, okT x) → okTs xs
  | [], _ => by rw [okTs]; trivial
  | x :: xs, h => by rw [okTs]; exact ⟨h x (by simp), okTs_of (fun y hy => h y (by simp [hy]))⟩
theorem open_size {x : Tree} (h : openB x = true) : sizeT x ≤ 4096 := by
  unfold openB sizedB at h; simp only [Bool.and_eq_true, decide_eq_true_eq] at h; exact h.1.1
set_option maxHeartbeats 1000000 in
set_option maxRecDepth 10000 in
theorem sortedV_c (x : Tree) (hsz : sizeT x ≤ 1000000000) (S : Nat → Prop) (w0 : World) (cs : List Value) (hR : Rep S w0 (treeD x) cs) (hk : okT x) (hG : Gl w0) : NewC 28 #[.agg cs.toArray] (treeD (sortedV x)) w0 := by
 have hl : cs.length = 4 := hR.length.trans (size_treeD x)
 have ho := hR.one_
 refine calls_start Tryz.func28 rfl Tryz.ntmps28 (Nat.le_of_ble_eq_true rfl) (args_1 _) ?_
 have hF := FR.start w0 []
 refine c_seq (c_region ?_)
 refine o_box (v := .agg (List.toArray cs)) (cs := (List.toArray cs)) hF rfl rfl ?_
 clear hF; rintro b1 w hb1 hF -
 refine o_alloc (cs := #[.int .i64 (0), .string (bs ([])), .slice (none) (0) (0), .slice (none) (0) (0)]) hF Tryz.zeroValue25 rfl ?_
 clear hF; rintro b2 w hb2 hF -
 refine o_nil (e_seq (c_seq (c_seq (c_region (o_val (v := .agg (List.toArray cs)) (x_loadS (l := cs) Tryz.isAgg25 Tryz.sizeOf25 rfl hl (hF.cellsAll 1 rfl)) ?_)))))
 refine o_call (open_v x hsz S _ cs (hF.rep hR) hk (hG.ext hF.same)) (x_call1 en_50 rfl rfl) ?_
 rintro _ w ⟨rfl, hE⟩
 replace hF := hF.ext hE
 clear hE
 refine o_val (v := .bool (!(openB x))) (x_not rfl) (o_nil (e_seq ?_))
 refine c_split (d := 5) (b := !(openB x)) rfl (fun hc0 => ?_) (fun hc0 => ?_)
 refine c_ift rfl (c_seq (c_region ?_))
 refine o_val (w' := w) (v := .agg #[.int .i64 (0), .string (bs ([])), .slice (none) (0) (0), .slice (none) (0) (0)]) (by kernel_rfl) ?_
 refine o_store 0 (l := [.int .i64 (0), .string (bs ([])), .slice (none) (0) (0), .slice (none) (0) (0)]) (cs' := #[.int .i64 (0), .string (bs ([])), .slice (none) (0) (0), .slice (none) (0) (0)]) hF Tryz.sizeOf25 rfl (v := .agg #[.int .i64 (0), .string (bs ([])), .slice (none) (0) (0), .slice (none) (0) (0)]) rfl rfl (by simp [one]) rfl (Nat.le_of_ble_eq_true rfl) rfl ?_
 clear hF; rintro w hF -
 replace hF : FR w0 [] [(b2, .cells #[.int .i64 (0), .string (bs ([])), .slice (none) (0) (0), .slice (none) (0) (0)] 25), (b1, .cells (List.toArray cs) 25)] w := hF
 refine o_nil (e_seq ?_)
 refine c_ret (e_ret (post_ret (res_c rfl (l := [.int .i64 (0), .string (bs ([])), .slice (none) (0) (0), .slice (none) (0) (0)]) rfl Tryz.isAgg25 Tryz.sizeOf25 rfl (hF.cellsAll 0 rfl)) ?_))
 have ho_ : openB x = false := by simpa using hc0
 refine ⟨_, rfl, ?_, hF.same⟩
 rw [sortedV, ho_]
 exact zero_rep _ _
 refine c_iff rfl (c_skip (e_seq (c_seq (c_region (o_val (v := .agg (List.toArray cs)) (x_loadS (l := cs) Tryz.isAgg25 Tryz.sizeOf25 rfl hl (hF.cellsAll 1 rfl)) ?_)))))
 refine o_call (sorted_c x S _ cs (hF.rep hR) hk (open_all (by simpa using hc0)) hsz) (x_call1 en_51 rfl rfl) ?_
 rintro _ w ⟨ct, rfl, hRt, hE⟩
 have hlct : ct.length = 4 := hRt.length.trans (size_treeD _)
 have hoct := hRt.one_
 have hXX := RX.made (ids := [b2, b1]) hF.same.size (fun x hx => hF.lt_ids (by grind)) hRt
 replace hF := hF.ext hE
 clear hE hRt
 refine o_store 0 (l := ct) (cs' := (List.toArray ct)) hF (by rw [hlct]; exact Tryz.sizeOf25) rfl (v := .agg (List.toArray ct)) rfl rfl (hoct) rfl (by rw [hlct]; exact Nat.le_of_ble_eq_true rfl) (putA_all (by rw [hlct]; rfl)) ?_
 clear hF; intro w hF hE
 replace hXX := hXX.store hE (by grind)
 clear hE
 replace hF : FR w0 [] [(b2, .cells (List.toArray ct) 25), (b1, .cells (List.toArray cs) 25)] w := hF
 refine o_nil (e_seq ?_)
 refine c_ret (e_ret (post_ret (res_c rfl (l := ct) rfl Tryz.isAgg25 Tryz.sizeOf25 hlct (hF.cellsAll 0 rfl)) ?_))
 have ho_ : openB x = true := by simpa using hc0
 refine ⟨_, rfl, ?_, hF.same⟩
 rw [sortedV, ho_]
 · exact hXX.done
end Go.Scarf
