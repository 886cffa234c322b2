/- A part of the proof. -/
import Derived.Test.YtepbomjpbdbejaaGreatDoorZ8
import Derived.Test.YtepbomjpbdbejaaGreatDoorZ4
import Derived.Test.YtepbomjpbdbejaaGreatDoorW19
set_option linter.all false
set_option maxHeartbeats 8000000
set_option maxRecDepth 10000
namespace Go.Scarf
open Go.RowKit Go.Proofs Go.Proofs.Tryz
theorem AA (k : Int) (t : Str) (ks : List Str) (xs : List Tree) (ih : ∀ x ∈ xs, PG x) (A D : Option Addr) (c e : Nat) (w0 : World) (B pb : Nat) (ls : List Str) (fs : List Int) (hT : Tb w0 B pb ls fs) (hG : Gl w0) (hpN : 7 ≤ pb) (hlf : ls.length = fs.length) (hR : Rep (fun b => b ∉ Wk2 w0 B pb) w0 (Sc (.node k t ks xs)) [.int .i64 k, .string (bs t), .slice A ks.length c, .slice D xs.length e]) (hn : Vc nodeB (.node k t ks xs) = true) (hsz : Ac (.node k t ks xs) ≤ 1000000000) (hm : Ee (.node k t ks xs) ≤ 1073741824) (hlen : ls.length + (Nf (.node k t ks xs)).length ≤ 512) : Calls prog 54 #[.pointer (some ⟨pb, 0, none⟩), .agg #[.int .i64 k, .string (bs t), .slice A ks.length c, .slice D xs.length e]] w0 (Rd fun v w' => v = .tuple #[] ∧ Tb w' B pb (ls ++ Nf (.node k t ks xs)) (fs ++ Oh (.node k t ks xs) ls.length) ∧ Same (Wk2 w0 B pb) w0 w') := by
 obtain ⟨hn1, hns⟩ := Td hn
 have hsz1 : Xc xs + 1 ≤ 1000000000 := by rw [Ac] at hsz; omega
 have hm1 : Rj xs ≤ 1073741824 ∧ Hm ks ≤ 1073741824 := by rw [Ee] at hm; omega
 have hlp := Wn (.node k t ks xs)
 have hRw := hR
 refine Ma func54 rfl ntmps54 Jb (Vd _ _) ?_
 have hB := TW.start hT
 have hF := FR.start w0 (Wk2 w0 B pb)
 refine Ka ?_
 refine TP (.pointer _) hF rfl ?_
 clear hF; intro b1 w hb1 hF hE
 have hnb1 : b1 ≠ pb := by have := hB.lt; omega
 replace hB := hB.ext hE
 replace hRw := hRw.off2_ext hE
 clear hE
 refine Sj hF rfl ?_
 clear hF; intro b2 w hb2 hF hE
 have hnb2 : b2 ≠ pb := by have := hB.lt; omega
 replace hB := hB.ext hE
 replace hRw := hRw.off2_ext hE
 clear hE
 refine Ea (Ia ?_)
 have hRw2 := hRw
 obtain ⟨A_, c_, D_, e_, he_, -, -, hKw, hXw⟩ := hRw2.tree_inv
 simp only [List.cons.injEq, Value.slice.injEq, and_true] at he_
 obtain ⟨-, -, ⟨rfl, -, rfl⟩, ⟨rfl, -, rfl⟩⟩ := he_
 refine Da (Ca (Kc Hl rfl) (Qd (Zr isAgg3 rfl hF.F 0 rfl rfl) (Ea (Va (Ka (Ca (Fo rfl rfl) (Ca (Ec rfl) (Ea ?_))))))))
 refine Pc rfl rfl (fun hc0 => ?_) (fun hc0 => ?_)
 refine Da (Qd (VN isAgg102 rfl hF.F 1 rfl rfl) (Ja (v := .func (.func 76) #[] #[.pointer (some ⟨b2, 0, none⟩), .pointer (some ⟨b1, 0, none⟩)]) (Nm rfl rfl) ?_))
 have h5 : k = 5 := by assumption
 have hl5 : ls.length + (Oe xs).length + 1 ≤ 512 := by rw [Nf, if_pos h5, List.length_append, List.length_singleton] at hlen; omega
 replace hl5 : ls.length + (Oe xs).length ≤ 511 := by omega
 refine Db (DD w B pb 76 #[.pointer (some ⟨b2, 0, none⟩), .pointer (some ⟨b1, 0, none⟩)] AU ls _ fs _ [91] hB.tb (XK k t ks xs A D c e w B pb ls fs hB.tb (hG.wrote2 hF.same (by have := hT.lt; omega) hpN) hpN hlf ih hns by_Om by_Om b2 b1 (hF.heap (i := 0) rfl) (hF.heap (i := 1) rfl) (by assumption) hXw by_Om) (by rw [List.length_append]; omega) (by rw [List.length_append, Mt]; omega)) (Dc AE rfl rfl rfl rfl) ?_
 rintro _ w ⟨rfl, hT2, hE⟩
 replace hF := hF.wrote2 hB hE (by intro z hz; simp only [List.mem_cons, List.not_mem_nil, or_false] at hz; rcases hz with rfl | rfl <;> exact ⟨.inl rfl, by assumption⟩)
 replace hB := hB.wrote hT2 hE
 clear hE
 refine Ya (Mb ?_)
 refine Fe (Yc (Ef rfl) ?_)
 have h5 : k = 5 := by assumption
 rw [Nf, Oh, if_pos h5, if_pos h5, ← List.append_assoc, ← List.append_assoc]
 exact ⟨rfl, hB.tb, hF.same⟩
 refine Ka (Ca (Fo rfl rfl) (Ca (Ec rfl) (Ea ?_)))
 refine Pc rfl rfl (fun hc1 => ?_) (fun hc1 => ?_)
 refine Da (Qd (VN isAgg102 rfl hF.F 1 rfl rfl) (Ja (v := .func (.func 77) #[] #[.pointer (some ⟨b2, 0, none⟩), .pointer (some ⟨b1, 0, none⟩)]) (Nm rfl rfl) ?_))
 have h6 : k = 6 := by assumption
 have hl5 : ls.length + (Yd xs ks).length + 1 ≤ 512 := by rw [Nf, if_neg by_Om, if_pos h6, List.length_append, List.length_singleton] at hlen; omega
 refine Db (DD w B pb 77 #[.pointer (some ⟨b2, 0, none⟩), .pointer (some ⟨b1, 0, none⟩)] OS ls _ fs _ [123] hB.tb (BM k t ks xs A D c e w B pb ls fs hB.tb (hG.wrote2 hF.same (by have := hT.lt; omega) hpN) hpN hlf ih hns by_Om by_Om (Tl (h6 ▸ hn1)).2 (fun s hs => by have := Yk hs; omega) b2 b1 (hF.heap (i := 0) rfl) (hF.heap (i := 1) rfl) (by assumption) (by assumption) hXw hKw by_Om) (by rw [List.length_append]; omega) (by rw [List.length_append, Fp]; omega)) (Dc AE rfl rfl rfl rfl) ?_
 rintro _ w ⟨rfl, hT2, hE⟩
 replace hF := hF.wrote2 hB hE (by intro z hz; simp only [List.mem_cons, List.not_mem_nil, or_false] at hz; rcases hz with rfl | rfl <;> exact ⟨.inl rfl, by assumption⟩)
 replace hB := hB.wrote hT2 hE
 clear hE
 refine Ya (Mb ?_)
 refine Fe (Yc (Ef rfl) ?_)
 have h6 : k = 6 := by assumption
 rw [Nf, Oh, if_neg by_Om, if_pos h6, if_neg by_Om, if_pos h6, ← List.append_assoc, ← List.append_assoc]
 exact ⟨rfl, hB.tb, hF.same⟩
 refine Id [] (.free 0 (.free 1 (.act 2 (.act 3 .nil)))) hF ?_
 clear hF; intro w hF hE
 replace hB := hB.ext hE
 replace hRw := hRw.off2_ext hE
 clear hE
 refine ⟨fun wq => FR w0 (Wk2 w0 B pb) _ wq, hF, ?_⟩
 refine Zo rfl (VN isAgg102 rfl C0 1 rfl rfl) (Zo rfl (Bm isAgg27 sizeOf27 rfl C0 0 rfl rfl) ?_)
 refine Ke rfl (VD (.node k t ks xs) _ _ [.int .i64 k, .string (bs t), .slice A ks.length c, .slice D xs.length e] hRw (hG.wrote2 hF.same (by have := hT.lt; omega) hpN) by_Om by_Om) (Eb HO rfl rfl) ?_
 rintro _ w ⟨rfl, hE⟩
 replace hF := hF.ext hE
 replace hB := hB.ext hE
 replace hRw := hRw.off2_ext hE
 clear hE
 refine ⟨hF, ?_⟩
 refine Ke rfl (DD w B pb 81 #[] YT ls _ fs _ (Fm (.node k t ks xs)) hB.tb (GM w B pb ls fs hB.tb) by_Om by_Om) (Dc AE rfl rfl rfl rfl) ?_
 rintro _ w ⟨rfl, hT2, hE⟩
 replace hF := hF.wrote2 hB hE (by intro z hz; simp only [List.mem_cons, List.not_mem_nil, or_false] at hz; rcases hz with rfl | rfl <;> exact ⟨.inl rfl, by assumption⟩)
 replace hB := hB.wrote hT2 hE
 clear hE
 refine ⟨hF, ?_⟩
 refine Jc (Mb ?_)
 refine Fe (Yc (Ef rfl) ?_)
 rw [Nf, Oh, if_neg by_Om, if_neg by_Om, if_neg by_Om, if_neg by_Om]
 exact ⟨rfl, hB.tb, hF.same⟩
theorem LM (x : Tree) : PG x := Tree.ind (Q := PG) (fun k t ks xs ih => by
  intro w0 B pb ls fs cs hT hR hG hpN hlf hn hsz hm hlen
  have hR0 := hR
  obtain ⟨A, c, D, e, rfl, -⟩ := hR0.tree_inv
  exact AA k t ks xs ih A D c e w0 B pb ls fs hT hG hpN hlf hR hn hsz hm hlen) x
end Go.Scarf
namespace Go.Scarf
open Go.RowKit Go.Proofs Go.Proofs.Tryz
def Be (x : Tree) : List Str := Nf (Re x)
def Hf (x : Tree) : List Int := Oh (Re x) 0
theorem EF (x : Tree) : (Hf x).length = (Be x).length := Pi _ 0
theorem Ap {x : Tree} (h : Zb x = true) : Vc nodeB (Re x) = true := Gi (by rw [Fi (Ij h)]; exact V4 (Ij h))
theorem Jo {x : Tree} (h : Zb x = true) : (Be x).length ≤ 2 * Ac x := by
  have h1 := UR (Re x) (Ap h)
  have h2 := ON (Re x) (Ap h)
  have h3 : Ac (Re x) = Ac x := by rw [Fi (Ij h)]; exact (Tv x (Gi (Ij h))).1
  unfold Be
  omega
theorem Xk {x : Tree} (h : Zb x = true) (hs : Ac x ≤ 256) : Yf (Be x) (Hf x) := O9 _ (by have := Jo h; unfold Be at this; omega)
theorem I4 : ∀ (xs : List Tree), (∀ x ∈ xs, ∀ s ∈ Nf x, s.length ≤ 140737488355329) → ∀ s ∈ Oe xs, s.length ≤ 140737488355329
  | [], _, s, hs => by rw [Oe] at hs; cases hs
  | x :: xs, h, s, hs => by
    rw [Oe] at hs
    rcases List.mem_append.1 hs with h1 | h1
    · exact h x Ga s h1
    · exact I4 xs (fun y hy => h y (by simp [hy])) s h1
theorem K2 : ∀ (xs : List Tree) (ks : List Str), (∀ x ∈ xs, ∀ s ∈ Nf x, s.length ≤ 140737488355329) → (∀ k ∈ ks, k.length ≤ 1073741824) → ∀ s ∈ Yd xs ks, s.length ≤ 140737488355329
  | [], _, _, _, s, hs => by rw [Yd] at hs; cases hs
  | x :: xs, ks, h, hk, s, hs => by
    rw [Yd] at hs
    rcases List.mem_append.1 hs with h1 | h1
    · exact h x Ga s h1
    · rcases List.mem_cons.1 h1 with rfl | h2
      · have : Ee (.node 4 (ks.headD []) [] []) ≤ 1073741824 := by
          rw [Iv]
          cases ks with
          | nil => simp
          | cons k ks => exact hk k Ga
        have := Kv _ this
        unfold K6
        simp only [List.length_cons]; omega
      · exact K2 xs ks.tail (fun y hy => h y (by simp [hy])) (fun k hk2 => hk k (List.mem_of_mem_tail hk2)) s h2
theorem ZM (x : Tree) : Ee x ≤ 1073741824 → ∀ s ∈ Nf x, s.length ≤ 140737488355329 := Tree.ind (Q := fun x => Ee x ≤ 1073741824 → ∀ s ∈ Nf x, s.length ≤ 140737488355329) (fun k t ks xs ih hm s hs => by
  have hm0 := hm
  rw [Ee] at hm0
  have hx : ∀ x ∈ xs, ∀ s ∈ Nf x, s.length ≤ 140737488355329 := fun x hx => ih x hx (by have := Ni hx; omega)
  rw [Nf] at hs
  split at hs
  · rcases List.mem_append.1 hs with h | h
    · exact I4 xs hx s h
    · rw [List.mem_singleton.1 h]; simp
  · split at hs
    · rcases List.mem_append.1 hs with h | h
      · exact K2 xs ks hx (fun k hk => by have := Yk hk; omega) s h
      · rw [List.mem_singleton.1 h]; simp
    · rw [List.mem_singleton.1 hs]
      have := Kv _ hm
      omega) x
theorem Tb.rows {w0 w : World} {B : Nat} {A : Option Addr} {e c : Nat} {ds : List D} {xs : List Value} {sb : List (Nat × Obj)} (hS : SlB e 1 A ds.length c xs sb) (hq : ∀ q ∈ sb, w.heap[q.1]? = some q.2 ∧ B ≤ q.1) (hB : w0.heap.size ≤ B) (hr : RepL (Btw w0 w) w ds xs) : Rep (Btw w0 w) w (.slice ds) [.slice A ds.length c] := by
  refine hS.repOf (fun q h => ⟨(hq q h).1, ?_, Fa (hq q h).1, ?_⟩) hr rfl
  · have := (hq q h).2; omega
  · obtain ⟨cur, he⟩ := hS.typ.2 q h
    exact ⟨cur, e, by rw [(hq q h).1, he]⟩
theorem U2 {S : Nat → Prop} {wx : World} : ∀ {q : List Str}, (∀ s ∈ q, s.length ≤ 9223372036854775807) → RepL S wx (q.map Y1) (q.map fun s => Value.string (bs s))
  | [], _ => RepL.nil_mk
  | s :: q, h => RepL.cons_mk (Rep.lit_mk (v := .string (bs s)) (h s Ga)) (U2 fun x hx => h x (by simp [hx]))
theorem IE (x : Tree) (S : Nat → Prop) (w0 : World) (cs : List Value) (hR : Rep S w0 (Sc x) cs) (hG : Gl w0) (hsz : Ac x ≤ 256) (hm : Ee x ≤ 1073741824) (hx : Zb x = false) : Calls prog 35 #[.agg cs.toArray] w0 (Rd fun v w' => v = .tuple #[.agg #[.slice none 0 0, .slice none 0 0], .int .i64 1] ∧ Same [] w0 w') := by
 have hl : cs.length = 4 := hR.length.trans (Tc x)
 have ho := hR.one_
 refine Ma func35 rfl ntmps35 Jb (Ed _) ?_
 have hF := FR.start w0 []
 refine Ka ?_
 refine Jj (v := .agg (List.toArray cs)) (cs := (List.toArray cs)) hF rfl rfl ?_
 clear hF; rintro b1 w hb1 hF -
 refine Ig (cs := #[.slice none 0 0, .slice none 0 0]) hF zeroValue60 rfl ?_
 clear hF; rintro b2 w hb2 hF -
 refine Ca (Gc rfl) (Ea (Ia (Ka (Ja (v := .agg (List.toArray cs)) (Sb (l := cs) isAgg27 sizeOf27 rfl hl (hF.cellsAll 1 rfl)) ?_))))
 refine Pb hF (Kf (v' := .bool false) (Px x by_Om _ _ cs (hF.rep hR) (Wx x by_Om) (hG.ext hF.same)) (congrArg Value.bool hx)) (Eb NC rfl rfl) ?_
 clear hF; intro w hF
 refine Ca (Oo (b := false) rfl) (Ea (Ae rfl (Ka ?_)))
 refine Ja (w' := w) (v := .agg #[.slice none 0 0, .slice none 0 0]) Ib ?_
 refine An hF sizeOf60 rfl rfl Gn ?_
 clear hF; rintro w hF -
 refine Ca (Gc rfl) (Ea ?_)
 refine Fc (Bc (Za (Le rfl (l := [.slice none 0 0, .slice none 0 0]) rfl isAgg60 sizeOf60 rfl (hF.cellsAll 0 rfl) (v := .int .i64 1) rfl) ?_))
 exact ⟨rfl, hF.same⟩
theorem Cq (x : Tree) (S : Nat → Prop) (w0 : World) (cs : List Value) (hR : Rep S w0 (Sc x) cs) (hG : Gl w0) (hsz : Ac x ≤ 256) (hm : Ee x ≤ 1073741824) (hx : Zb x = true) : Calls prog 35 #[.agg cs.toArray] w0 (Rd fun v w' => ∃ A c B e, v = .tuple #[.agg #[.slice A (Be x).length c, .slice B (Hf x).length e], .int .i64 0] ∧ Rep (Btw w0 w') w' (Gf (Be x)) [.slice A (Be x).length c] ∧ Rep (Btw w0 w') w' (.slice ((Hf x).map Ze)) [.slice B (Hf x).length e] ∧ Same [] w0 w') := by
 have hl : cs.length = 4 := hR.length.trans (Tc x)
 have ho := hR.one_
 refine Ma func35 rfl ntmps35 Jb (Ed _) ?_
 have hF := FR.start w0 []
 refine Ka ?_
 refine Jj (v := .agg (List.toArray cs)) (cs := (List.toArray cs)) hF rfl rfl ?_
 clear hF; rintro b1 w hb1 hF -
 refine Ig (cs := #[.slice none 0 0, .slice none 0 0]) hF zeroValue60 rfl ?_
 clear hF; rintro b2 w hb2 hF -
 refine Ca (Gc rfl) (Ea (Ia (Ka (Ja (v := .agg (List.toArray cs)) (Sb (l := cs) isAgg27 sizeOf27 rfl hl (hF.cellsAll 1 rfl)) ?_))))
 refine Pb hF (Kf (v' := .bool true) (Px x by_Om _ _ cs (hF.rep hR) (Wx x by_Om) (hG.ext hF.same)) (congrArg Value.bool hx)) (Eb NC rfl rfl) ?_
 clear hF; intro w hF
 refine Ca (Oo (b := true) rfl) (Ea (Wq rfl (Ka ?_)))
 refine Ig (cs := #[.slice none 0 0, .slice none 0 0]) hF zeroValue84 rfl ?_
 clear hF; rintro b3 w hb3 hF -
 refine Cc (Ja (v := .agg (List.toArray cs)) (Sb (l := cs) isAgg27 sizeOf27 rfl hl (hF.cellsAll 2 rfl)) ?_)
 have lb3 := hF.lt (i := 0) rfl
 have lb2 := hF.lt (i := 1) rfl
 have lb1 := hF.lt (i := 2) rfl
 refine Db (HG x by_Om _ _ cs (hF.rep hR) (Wx x by_Om) (hG.ext hF.same)) (Eb FS rfl rfl) ?_
 rintro _ w ⟨ct, rfl, hRt, hE⟩
 have hlt : ct.length = 4 := hRt.length.trans (Tc _)
 have hot := hRt.one_
 have hgr := hE.size
 replace hF := hF.ext hE
 clear hE
 have hTb : Tb w w.heap.size b3 [] [] := ⟨by omega, Nat.le_refl _, none, 0, [], none, 0, [], hF.heap (i := 0) rfl, SlB.nil _ _, SlB.nil _ _, by simp⟩
 have hge3 := hF.ge (i := 0) rfl
 refine Db (LM (Re x) w w.heap.size b3 [] [] ct hTb (hRt.weaken fun b hb _ hw => by rcases Wh.1 hw with rfl | ⟨h1, h2, -⟩; (have := hb.1; omega); omega) (hG.ext hF.same) (by have := hF.ge (i := 0) rfl; have := hG.size; omega) rfl (Ap hx) (C_ x by_Om) (Nat.le_trans (Vw x) hm) (by have := Jo hx; unfold Be at this; simp only [List.length_nil]; omega)) (Qb AH rfl rfl rfl) ?_
 obtain ⟨B, hBw⟩ : ∃ B, B = w.heap.size := ⟨_, rfl⟩
 rw [← hBw]
 rintro _ w ⟨rfl, hT2, hE⟩
 have hBl : w0.heap.size ≤ B := by have := hF.same.size; omega
 have hb2B : b2 < B := by omega
 replace hF := (hF.drop 1).touch hE (fun b hb => by rcases Wh.1 hb with rfl | ⟨-, h2, -⟩; (refine ⟨fun h => absurd h by_Om, fun z hz e => ?_⟩; have hd := (List.pairwise_cons.1 hF.desc).1 z hz; exact hd e); (refine ⟨fun h => absurd h by_Om, fun z hz e => ?_⟩; have : z.1 < B := (by rw [hBw]; exact Fa (hF.memHeap (List.mem_cons_of_mem _ hz))); omega))
 simp only [List.nil_append, List.length_nil] at hT2
 obtain ⟨-, -, P1, q1, sl, P2, q2, sf, hh, hL, hN, hrow⟩ := hT2
 clear hE
 refine Ea (Ia (Ka (Ca (Kc Te rfl) (Ca (Kc Je rfl) (Ja (v := .slice (P1) ((Be x).length) (q1)) (Cb isAgg25 rfl (Ob hh 0)) (Ca (Qe underlying25 rfl) ?_))))))
 refine Ja (v := .bool false) (Sd (DE rfl rfl) (by have := Jo hx; omega)) ?_
 refine Ea (Wq rfl (Ka (Ca (Kc Te rfl) (Ja (Sb (l := [.slice (P1) ((Be x).length) (q1), .slice (P2) ((Hf x).length) (q2)]) isAgg60 sizeOf60 rfl rfl (Qy hh)) ?_))))
 refine An hF sizeOf60 rfl rfl Gn ?_
 clear hF; intro w hF hE
 replace hrow := fun q hq => And.intro ((hE.block q.1 (Fa (hrow q hq).1) (by have := (hrow q hq).2; simp only [List.mem_singleton]; omega)).trans (hrow q hq).1) (hrow q hq).2
 clear hE
 refine Ca (Gc rfl) (Ea ?_)
 refine Fc (Bc (Za (Le rfl (l := [.slice (P1) ((Be x).length) (q1), .slice (P2) ((Hf x).length) (q2)]) rfl isAgg60 sizeOf60 rfl (hF.cellsAll 0 rfl) (v := .int .i64 0) rfl) ?_))
 refine ⟨P1, q1, P2, q2, rfl, ?_, ?_, hF.same⟩
 have := Tb.rows (w0 := w0) (w := w) (ds := (Be x).map Y1) (by rw [List.length_map]; exact hL) (fun q hq => hrow q (by simp [hq])) hBl (U2 (fun s hs => by have := ZM (Re x) (Nat.le_trans (Vw x) hm) s hs; omega))
 rw [List.length_map] at this
 exact this
 have := Tb.rows (w0 := w0) (w := w) (ds := (Hf x).map Ze) (by rw [List.length_map]; exact hN) (fun q hq => hrow q (by simp [hq])) hBl (Ok (fun s hs => by obtain ⟨i, hi, rfl⟩ := List.getElem_of_mem hs; have h1 := (Xk hx hsz).2.2 i hi hi; have := EF x; have := Jo hx; omega))
 rw [List.length_map] at this
 exact this
end Go.Scarf
namespace Go.Scarf
open Go.RowKit Go.Proofs Go.Proofs.Tryz
def BF (x y : Tree) : Int := if (Zb x && Zb y) = true then ((Nl (Be x) (Hf x) (Be y) (Hf y) : Nat) : Int) else 0
def SE (x y : Tree) : Int := if (Zb x && Zb y) = true then 0 else 1
theorem C9 (x y : Tree) (S S' : Nat → Prop) (w0 : World) (cx cy : List Value) (hxR : Rep S w0 (Sc x) cx) (hyR : Rep S' w0 (Sc y) cy) (hG : Gl w0) (hszx : Ac x ≤ 256) (hszy : Ac y ≤ 256) (hmx : Ee x ≤ 1073741824) (hmy : Ee y ≤ 1073741824) (h1 : Zb x = false) : Calls prog 36 #[.agg cx.toArray, .agg cy.toArray] w0 (Rd fun v w' => v = .tuple #[.int .i64 0, .int .i64 1] ∧ Same [] w0 w') := by
 have hlcx : cx.length = 4 := hxR.length.trans (Tc x)
 have hocx := hxR.one_
 have hlcy : cy.length = 4 := hyR.length.trans (Tc y)
 have hocy := hyR.one_
 refine Ma func36 rfl ntmps36 Jb (Vd _ _) ?_
 have hF := FR.start w0 []
 refine Ka ?_
 refine Jj (v := .agg (List.toArray cx)) (cs := (List.toArray cx)) hF rfl rfl ?_
 clear hF; rintro b1 w hb1 hF -
 refine Jj (v := .agg (List.toArray cy)) (cs := (List.toArray cy)) hF rfl rfl ?_
 clear hF; rintro b2 w hb2 hF -
 refine Ca (Gc rfl) (Ca (Gc rfl) (Cc (Ja (v := .agg (List.toArray cx)) (Sb (l := cx) isAgg27 sizeOf27 rfl hlcx (hF.cellsAll 1 rfl)) ?_)))
 refine Pb hF (IE x _ _ cx (hF.rep hxR) (hG.ext hF.same) hszx hmx h1) (Eb Hz rfl rfl) ?_
 clear hF; intro w hF
 refine Ca (Xm rfl) (Ca (XA rfl rfl) (Ca (Zn rfl rfl) ?_))
 refine Bj hF zeroValue60 sizeOf60 rfl ?_
 clear hF; rintro b3 w hb3 hF -
 refine Ca (Gc rfl) (Ea (Ia (Ka (Ca (Hb rfl) (Ja (v := .bool true) (Ld (Bq rfl rfl) Ra) (Ea (Ae rfl (Ka (Ca (Hb rfl) ?_)))))))))
 refine Ca (Gc rfl) (Ca (Gc rfl) (Ea ?_))
 refine Fc (Bc (Za (Ye (v := .int .i64 0) (x := .int .i64 1) rfl rfl rfl) ?_))
 exact ⟨rfl, hF.same⟩
theorem J7 (x y : Tree) (S S' : Nat → Prop) (w0 : World) (cx cy : List Value) (hxR : Rep S w0 (Sc x) cx) (hyR : Rep S' w0 (Sc y) cy) (hG : Gl w0) (hszx : Ac x ≤ 256) (hszy : Ac y ≤ 256) (hmx : Ee x ≤ 1073741824) (hmy : Ee y ≤ 1073741824) (h1 : Zb x = true) (h2 : Zb y = false) : Calls prog 36 #[.agg cx.toArray, .agg cy.toArray] w0 (Rd fun v w' => v = .tuple #[.int .i64 0, .int .i64 1] ∧ Same [] w0 w') := by
 have hlcx : cx.length = 4 := hxR.length.trans (Tc x)
 have hocx := hxR.one_
 have hlcy : cy.length = 4 := hyR.length.trans (Tc y)
 have hocy := hyR.one_
 refine Ma func36 rfl ntmps36 Jb (Vd _ _) ?_
 have hF := FR.start w0 []
 refine Ka ?_
 refine Jj (v := .agg (List.toArray cx)) (cs := (List.toArray cx)) hF rfl rfl ?_
 clear hF; rintro b1 w hb1 hF -
 refine Jj (v := .agg (List.toArray cy)) (cs := (List.toArray cy)) hF rfl rfl ?_
 clear hF; rintro b2 w hb2 hF -
 refine Ca (Gc rfl) (Ca (Gc rfl) (Cc (Ja (v := .agg (List.toArray cx)) (Sb (l := cx) isAgg27 sizeOf27 rfl hlcx (hF.cellsAll 1 rfl)) ?_)))
 refine Db (Cq x _ _ cx (hF.rep hxR) (hG.ext hF.same) hszx hmx h1) (Eb Hz rfl rfl) ?_
 rintro _ w ⟨Au, cu, Bu, eu, rfl, hL_, hN_, hE⟩
 have hLu : Rep (fun _ => True) w (Gf (Be x)) [.slice Au (Be x).length cu] := hL_.weaken fun _ _ _ => trivial
 have hNu : Rep (fun _ => True) w (.slice ((Hf x).map Ze)) [.slice Bu (Hf x).length eu] := hN_.weaken fun _ _ _ => trivial
 replace hF := hF.ext hE
 clear hE hL_ hN_
 refine Ca (Xm rfl) (Ca (XA rfl rfl) (Ca (Zn rfl rfl) ?_))
 refine Bj hF zeroValue60 sizeOf60 rfl ?_
 clear hF; intro b3 w hb3 hF hE
 replace hLu := hLu.ext hE
 replace hNu := hNu.ext hE
 clear hE
 refine Ca (Gc rfl) (Ea (Ia (Ka (Ca (Hb rfl) (Ja (v := .bool false) (Sd (Bq rfl rfl) Ra) (Ea (Wq rfl (Ia ?_))))))))
 refine Da (Ja (v := .agg (List.toArray cy)) (Sb (l := cy) isAgg27 sizeOf27 rfl hlcy (hF.cellsAll 1 rfl)) ?_)
 refine Db (IE y _ _ cy (hF.rep hyR) (hG.ext hF.same) hszy hmy h2) (Eb Hz rfl rfl) ?_
 rintro _ w ⟨rfl, hE⟩
 replace hF := hF.ext hE
 replace hLu := hLu.ext hE
 replace hNu := hNu.ext hE
 clear hE
 refine Ca (Xm rfl) (Ca (XA rfl rfl) (Ca (Zn rfl rfl) ?_))
 refine Bj hF zeroValue60 sizeOf60 rfl ?_
 clear hF; intro b4 w hb4 hF hE
 replace hLu := hLu.ext hE
 replace hNu := hNu.ext hE
 clear hE
 refine Ca (Gc rfl) (Ea (Ia (Ka (Ca (Hb rfl) (Ja (v := .bool true) (Ld (Bq rfl rfl) Ra) (Ea (Ae rfl (Ka (Ca (Hb rfl) ?_)))))))))
 refine Ca (Gc rfl) (Ca (Gc rfl) (Ea ?_))
 refine Fc (Bc (Za (Ye (v := .int .i64 0) (x := .int .i64 1) rfl rfl rfl) ?_))
 exact ⟨rfl, hF.same⟩
theorem T7 (x y : Tree) (S S' : Nat → Prop) (w0 : World) (cx cy : List Value) (hxR : Rep S w0 (Sc x) cx) (hyR : Rep S' w0 (Sc y) cy) (hG : Gl w0) (hszx : Ac x ≤ 256) (hszy : Ac y ≤ 256) (hmx : Ee x ≤ 1073741824) (hmy : Ee y ≤ 1073741824) (h1 : Zb x = true) (h2 : Zb y = true) : Calls prog 36 #[.agg cx.toArray, .agg cy.toArray] w0 (Rd fun v w' => v = .tuple #[.int .i64 ((Nl (Be x) (Hf x) (Be y) (Hf y) : Nat) : Int), .int .i64 0] ∧ Same [] w0 w') := by
 have hlcx : cx.length = 4 := hxR.length.trans (Tc x)
 have hocx := hxR.one_
 have hlcy : cy.length = 4 := hyR.length.trans (Tc y)
 have hocy := hyR.one_
 refine Ma func36 rfl ntmps36 Jb (Vd _ _) ?_
 have hF := FR.start w0 []
 refine Ka ?_
 refine Jj (v := .agg (List.toArray cx)) (cs := (List.toArray cx)) hF rfl rfl ?_
 clear hF; rintro b1 w hb1 hF -
 refine Jj (v := .agg (List.toArray cy)) (cs := (List.toArray cy)) hF rfl rfl ?_
 clear hF; rintro b2 w hb2 hF -
 refine Ca (Gc rfl) (Ca (Gc rfl) (Cc (Ja (v := .agg (List.toArray cx)) (Sb (l := cx) isAgg27 sizeOf27 rfl hlcx (hF.cellsAll 1 rfl)) ?_)))
 refine Db (Cq x _ _ cx (hF.rep hxR) (hG.ext hF.same) hszx hmx h1) (Eb Hz rfl rfl) ?_
 rintro _ w ⟨Au, cu, Bu, eu, rfl, hL_, hN_, hE⟩
 have hLu : Rep (fun _ => True) w (Gf (Be x)) [.slice Au (Be x).length cu] := hL_.weaken fun _ _ _ => trivial
 have hNu : Rep (fun _ => True) w (.slice ((Hf x).map Ze)) [.slice Bu (Hf x).length eu] := hN_.weaken fun _ _ _ => trivial
 replace hF := hF.ext hE
 clear hE hL_ hN_
 refine Ca (Xm rfl) (Ca (XA rfl rfl) (Ca (Zn rfl rfl) ?_))
 refine Bj hF zeroValue60 sizeOf60 rfl ?_
 clear hF; intro b3 w hb3 hF hE
 replace hLu := hLu.ext hE
 replace hNu := hNu.ext hE
 clear hE
 refine Ca (Gc rfl) (Ea (Ia (Ka (Ca (Hb rfl) (Ja (v := .bool false) (Sd (Bq rfl rfl) Ra) (Ea (Wq rfl (Ia ?_))))))))
 refine Da (Ja (v := .agg (List.toArray cy)) (Sb (l := cy) isAgg27 sizeOf27 rfl hlcy (hF.cellsAll 1 rfl)) ?_)
 refine Db (Cq y _ _ cy (hF.rep hyR) (hG.ext hF.same) hszy hmy h2) (Eb Hz rfl rfl) ?_
 rintro _ w ⟨Av, cv, Bv, ev, rfl, hL_, hN_, hE⟩
 have hLv : Rep (fun _ => True) w (Gf (Be y)) [.slice Av (Be y).length cv] := hL_.weaken fun _ _ _ => trivial
 have hNv : Rep (fun _ => True) w (.slice ((Hf y).map Ze)) [.slice Bv (Hf y).length ev] := hN_.weaken fun _ _ _ => trivial
 replace hLu := hLu.ext hE
 replace hNu := hNu.ext hE
 replace hF := hF.ext hE
 clear hE hL_ hN_
 refine Ca (Xm rfl) (Ca (XA rfl rfl) (Ca (Zn rfl rfl) ?_))
 refine Bj hF zeroValue60 sizeOf60 rfl ?_
 clear hF; intro b4 w hb4 hF hE
 replace hLu := hLu.ext hE
 replace hNu := hNu.ext hE
 replace hLv := hLv.ext hE
 replace hNv := hNv.ext hE
 clear hE
 refine Ca (Gc rfl) (Ea (Ia (Ka (Ca (Hb rfl) (Ja (v := .bool false) (Sd (Bq rfl rfl) Ra) (Ea (Wq rfl (Ia ?_))))))))
 refine Da (Qd (Bm isAgg60 sizeOf60 rfl hF.F 1 rfl rfl) (Qd (Bm isAgg60 sizeOf60 rfl hF.F 0 rfl rfl) ?_))
 refine Db (I0 _ _ _ (Be x) (Hf x) Au Bu cu eu hLu hNu (Be y) (Hf y) Av Bv cv ev hLv hNv (Xk h1 hszx) (Xk h2 hszy)) (Qb EI rfl rfl rfl) ?_
 rintro _ w ⟨rfl, hE⟩
 replace hF := hF.ext hE
 replace hLu := hLu.ext hE
 replace hNu := hNu.ext hE
 replace hLv := hLv.ext hE
 replace hNv := hNv.ext hE
 clear hE
 refine Ca (Zn rfl rfl) (Ca (Zn rfl rfl) (Ca (Gc rfl) (Ca (Gc rfl) (Ea ?_))))
 refine Fc (Bc (Za (Ye (v := .int .i64 ((Nl (Be x) (Hf x) (Be y) (Hf y) : Nat))) (x := .int .i64 0) rfl rfl rfl) ?_))
 exact ⟨rfl, hF.same⟩
theorem AF (x y : Tree) (S S' : Nat → Prop) (w0 : World) (cx cy : List Value) (hxR : Rep S w0 (Sc x) cx) (hyR : Rep S' w0 (Sc y) cy) (hG : Gl w0) (hszx : Ac x ≤ 256) (hszy : Ac y ≤ 256) (hmx : Ee x ≤ 1073741824) (hmy : Ee y ≤ 1073741824) : Calls prog 36 #[.agg cx.toArray, .agg cy.toArray] w0 (Rd fun v w' => v = .tuple #[.int .i64 (BF x y), .int .i64 (SE x y)] ∧ Same [] w0 w') := by
  by_cases h1 : Zb x = true
  · by_cases h2 : Zb y = true
    · rw [BF, SE, h1, h2]; exact T7 x y S S' w0 cx cy hxR hyR hG hszx hszy hmx hmy h1 h2
    · rw [BF, SE, h1, Bool.eq_false_iff.2 h2]; exact J7 x y S S' w0 cx cy hxR hyR hG hszx hszy hmx hmy h1 (Bool.eq_false_iff.2 h2)
  · rw [BF, SE, Bool.eq_false_iff.2 h1]; exact C9 x y S S' w0 cx cy hxR hyR hG hszx hszy hmx hmy (Bool.eq_false_iff.2 h1)
end Go.Scarf
