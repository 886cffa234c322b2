/- A part of the proof. -/
import Derived.Test.YtepbomjpbdbejaaGreatDoorZ8
import Derived.Test.YtepbomjpbdbejaaGreatDoorZ4
import Derived.Test.YtepbomjpbdbejaaGreatDoorW19
set_option linter.all false
set_option maxHeartbeats 8000000
set_option maxRecDepth 10000
namespace Go.Scarf
open Go.RowKit Go.Proofs Go.Proofs.Tryz
theorem N6 (k : Int) (t : Str) (ks : List Str) (xs : List Tree) (ih : ∀ x ∈ xs, DA x) (A D : Option Addr) (c e : Nat) (w0 : World) (B pb : Nat) (ls : List Str) (fs : List Int) (hT : Tb w0 B pb ls fs) (hG : Gl w0) (hpN : 7 ≤ pb) (hlf : ls.length = fs.length) (hR : Rep (fun b => b ∉ Wk2 w0 B pb) w0 (Ed (.node k t ks xs)) [.int .i64 k, .string (bs t), .slice A ks.length c, .slice D xs.length e]) (hn : Xd nodeB (.node k t ks xs) = true) (hsz : Qc (.node k t ks xs) ≤ 1000000000) (hm : Rf (.node k t ks xs) ≤ 1073741824) (hlen : ls.length + (Bg (.node k t ks xs)).length ≤ 512) : Calls prog 54 #[.pointer (some ⟨pb, 0, none⟩), .agg #[.int .i64 k, .string (bs t), .slice A ks.length c, .slice D xs.length e]] w0 (Md fun v w' => v = .tuple #[] ∧ Tb w' B pb (ls ++ Bg (.node k t ks xs)) (fs ++ Gj (.node k t ks xs) ls.length) ∧ Same (Wk2 w0 B pb) w0 w') := by
 obtain ⟨hn1, hns⟩ := Ng hn
 have hsz1 : Vc xs + 1 ≤ 1000000000 := by rw [Qc] at hsz; omega
 have hm1 : Nk xs ≤ 1073741824 ∧ Nl ks ≤ 1073741824 := by rw [Rf] at hm; omega
 have hlp := UG (.node k t ks xs)
 have hRw := hR
 refine Ka func54 rfl ntmps54 Gb (Sd _ _) ?_
 have hB := TW.start hT
 have hF := FR.start w0 (Wk2 w0 B pb)
 refine Ma ?_
 refine QI (.pointer _) hF rfl ?_
 clear hF; intro b1 w hb1 hF hE
 have hnb1 : b1 ≠ pb := by have := hB.lt; omega
 replace hB := hB.ext hE
 replace hRw := hRw.off2_ext hE
 clear hE
 refine Kk hF rfl ?_
 clear hF; intro b2 w hb2 hF hE
 have hnb2 : b2 ≠ pb := by have := hB.lt; omega
 replace hB := hB.ext hE
 replace hRw := hRw.off2_ext hE
 clear hE
 refine Fa (Ja ?_)
 have hRw2 := hRw
 obtain ⟨A_, c_, D_, e_, he_, -, -, hKw, hXw⟩ := hRw2.tree_inv
 simp only [List.cons.injEq, Value.slice.injEq, and_true] at he_
 obtain ⟨-, -, ⟨rfl, -, rfl⟩, ⟨rfl, -, rfl⟩⟩ := he_
 refine Ea (Ca (Gc An rfl) (Vd (At isAgg3 rfl hF.F 0 rfl rfl) (Fa (Ya (Ma (Ca (Ho rfl rfl) (Ca (Hc rfl) (Fa ?_))))))))
 refine Kc rfl rfl (fun hc0 => ?_) (fun hc0 => ?_)
 refine Ea (Vd (TF isAgg102 rfl hF.F 1 rfl rfl) (Ia (v := .func (.func 76) #[] #[.pointer (some ⟨b2, 0, none⟩), .pointer (some ⟨b1, 0, none⟩)]) (Pk rfl rfl) ?_))
 have h5 : k = 5 := by assumption
 have hl5 : ls.length + (Ef xs).length + 1 ≤ 512 := by rw [Bg, if_pos h5, List.length_append, List.length_singleton] at hlen; omega
 replace hl5 : ls.length + (Ef xs).length ≤ 511 := by omega
 refine Eb (M9 w B pb 76 #[.pointer (some ⟨b2, 0, none⟩), .pointer (some ⟨b1, 0, none⟩)] TL ls _ fs _ [91] hB.tb (MC k t ks xs A D c e w B pb ls fs hB.tb (hG.wrote2 hF.same (by have := hT.lt; omega) hpN) hpN hlf ih hns by_Om by_Om b2 b1 (hF.heap (i := 0) rfl) (hF.heap (i := 1) rfl) (by assumption) hXw by_Om) (by rw [List.length_append]; omega) (by rw [List.length_append, Es]; omega)) (Bc O9 rfl rfl rfl rfl) ?_
 rintro _ w ⟨rfl, hT2, hE⟩
 replace hF := hF.wrote2 hB hE (by intro z hz; simp only [List.mem_cons, List.not_mem_nil, or_false] at hz; rcases hz with rfl | rfl <;> exact ⟨.inl rfl, by assumption⟩)
 replace hB := hB.wrote hT2 hE
 clear hE
 refine Fb (Kb ?_)
 refine Td (Nc (Ve rfl) ?_)
 have h5 : k = 5 := by assumption
 rw [Bg, Gj, if_pos h5, if_pos h5, ← List.append_assoc, ← List.append_assoc]
 exact ⟨rfl, hB.tb, hF.same⟩
 refine Ma (Ca (Ho rfl rfl) (Ca (Hc rfl) (Fa ?_)))
 refine Kc rfl rfl (fun hc1 => ?_) (fun hc1 => ?_)
 refine Ea (Vd (TF isAgg102 rfl hF.F 1 rfl rfl) (Ia (v := .func (.func 77) #[] #[.pointer (some ⟨b2, 0, none⟩), .pointer (some ⟨b1, 0, none⟩)]) (Pk rfl rfl) ?_))
 have h6 : k = 6 := by assumption
 have hl5 : ls.length + (Ae xs ks).length + 1 ≤ 512 := by rw [Bg, if_neg by_Om, if_pos h6, List.length_append, List.length_singleton] at hlen; omega
 refine Eb (M9 w B pb 77 #[.pointer (some ⟨b2, 0, none⟩), .pointer (some ⟨b1, 0, none⟩)] IM ls _ fs _ [123] hB.tb (EG k t ks xs A D c e w B pb ls fs hB.tb (hG.wrote2 hF.same (by have := hT.lt; omega) hpN) hpN hlf ih hns by_Om by_Om (Nq (h6 ▸ hn1)).2 (fun s hs => by have := Lj hs; omega) b2 b1 (hF.heap (i := 0) rfl) (hF.heap (i := 1) rfl) (by assumption) (by assumption) hXw hKw by_Om) (by rw [List.length_append]; omega) (by rw [List.length_append, Tn]; omega)) (Bc O9 rfl rfl rfl rfl) ?_
 rintro _ w ⟨rfl, hT2, hE⟩
 replace hF := hF.wrote2 hB hE (by intro z hz; simp only [List.mem_cons, List.not_mem_nil, or_false] at hz; rcases hz with rfl | rfl <;> exact ⟨.inl rfl, by assumption⟩)
 replace hB := hB.wrote hT2 hE
 clear hE
 refine Fb (Kb ?_)
 refine Td (Nc (Ve rfl) ?_)
 have h6 : k = 6 := by assumption
 rw [Bg, Gj, if_neg by_Om, if_pos h6, if_neg by_Om, if_pos h6, ← List.append_assoc, ← List.append_assoc]
 exact ⟨rfl, hB.tb, hF.same⟩
 refine Yc [] (.free 0 (.free 1 (.act 2 (.act 3 .nil)))) hF ?_
 clear hF; intro w hF hE
 replace hB := hB.ext hE
 replace hRw := hRw.off2_ext hE
 clear hE
 refine ⟨fun wq => FR w0 (Wk2 w0 B pb) _ wq, hF, ?_⟩
 refine Jo rfl (TF isAgg102 rfl C0 1 rfl rfl) (Jo rfl (El isAgg27 sizeOf27 rfl C0 0 rfl rfl) ?_)
 refine Ce rfl (E9 (.node k t ks xs) _ _ [.int .i64 k, .string (bs t), .slice A ks.length c, .slice D xs.length e] hRw (hG.wrote2 hF.same (by have := hT.lt; omega) hpN) by_Om by_Om) (Ob MH rfl rfl) ?_
 rintro _ w ⟨rfl, hE⟩
 replace hF := hF.ext hE
 replace hB := hB.ext hE
 replace hRw := hRw.off2_ext hE
 clear hE
 refine ⟨hF, ?_⟩
 refine Ce rfl (M9 w B pb 81 #[] MM ls _ fs _ (Pq (.node k t ks xs)) hB.tb (GG w B pb ls fs hB.tb) by_Om by_Om) (Bc O9 rfl rfl rfl rfl) ?_
 rintro _ w ⟨rfl, hT2, hE⟩
 replace hF := hF.wrote2 hB hE (by intro z hz; simp only [List.mem_cons, List.not_mem_nil, or_false] at hz; rcases hz with rfl | rfl <;> exact ⟨.inl rfl, by assumption⟩)
 replace hB := hB.wrote hT2 hE
 clear hE
 refine ⟨hF, ?_⟩
 refine Ac (Kb ?_)
 refine Td (Nc (Ve rfl) ?_)
 rw [Bg, Gj, if_neg by_Om, if_neg by_Om, if_neg by_Om, if_neg by_Om]
 exact ⟨rfl, hB.tb, hF.same⟩
theorem RF (x : Tree) : DA x := Tree.ind (Q := DA) (fun k t ks xs ih => by
  intro w0 B pb ls fs cs hT hR hG hpN hlf hn hsz hm hlen
  have hR0 := hR
  obtain ⟨A, c, D, e, rfl, -⟩ := hR0.tree_inv
  exact N6 k t ks xs ih A D c e w0 B pb ls fs hT hG hpN hlf hR hn hsz hm hlen) x
end Go.Scarf
namespace Go.Scarf
open Go.RowKit Go.Proofs Go.Proofs.Tryz
def Yg (x : Tree) : List Str := Bg (Yf x)
def Gk (x : Tree) : List Int := Gj (Yf x) 0
theorem S_ (x : Tree) : (Gk x).length = (Yg x).length := Hn _ 0
theorem Kn {x : Tree} (h : Wd x = true) : Xd nodeB (Yf x) = true := Ym (by rw [Xl (Ll h)]; exact OA (Ll h))
theorem Nm {x : Tree} (h : Wd x = true) : (Yg x).length ≤ 2 * Qc x := by
  have h1 := KJ (Yf x) (Kn h)
  have h2 := UF (Yf x) (Kn h)
  have h3 : Qc (Yf x) = Qc x := by rw [Xl (Ll h)]; exact (Ht x (Ym (Ll h))).1
  unfold Yg
  omega
theorem Nv {x : Tree} (h : Wd x = true) (hs : Qc x ≤ 256) : Ch (Yg x) (Gk x) := X4 _ (by have := Nm h; unfold Yg at this; omega)
theorem Pz : ∀ (xs : List Tree), (∀ x ∈ xs, ∀ s ∈ Bg x, s.length ≤ 140737488355329) → ∀ s ∈ Ef xs, s.length ≤ 140737488355329
  | [], _, s, hs => by rw [Ef] at hs; cases hs
  | x :: xs, h, s, hs => by
    rw [Ef] at hs
    rcases List.mem_append.1 hs with h1 | h1
    · exact h x Ga s h1
    · exact Pz xs (fun y hy => h y (by simp [hy])) s h1
theorem Bz : ∀ (xs : List Tree) (ks : List Str), (∀ x ∈ xs, ∀ s ∈ Bg x, s.length ≤ 140737488355329) → (∀ k ∈ ks, k.length ≤ 1073741824) → ∀ s ∈ Ae xs ks, s.length ≤ 140737488355329
  | [], _, _, _, s, hs => by rw [Ae] at hs; cases hs
  | x :: xs, ks, h, hk, s, hs => by
    rw [Ae] at hs
    rcases List.mem_append.1 hs with h1 | h1
    · exact h x Ga s h1
    · rcases List.mem_cons.1 h1 with rfl | h2
      · have : Rf (.node 4 (ks.headD []) [] []) ≤ 1073741824 := by
          rw [Au]
          cases ks with
          | nil => simp
          | cons k ks => exact hk k Ga
        have := Bu _ this
        unfold Y6
        simp only [List.length_cons]; omega
      · exact Bz xs ks.tail (fun y hy => h y (by simp [hy])) (fun k hk2 => hk k (List.mem_of_mem_tail hk2)) s h2
theorem AG (x : Tree) : Rf x ≤ 1073741824 → ∀ s ∈ Bg x, s.length ≤ 140737488355329 := Tree.ind (Q := fun x => Rf x ≤ 1073741824 → ∀ s ∈ Bg x, s.length ≤ 140737488355329) (fun k t ks xs ih hm s hs => by
  have hm0 := hm
  rw [Rf] at hm0
  have hx : ∀ x ∈ xs, ∀ s ∈ Bg x, s.length ≤ 140737488355329 := fun x hx => ih x hx (by have := Vh hx; omega)
  rw [Bg] at hs
  split at hs
  · rcases List.mem_append.1 hs with h | h
    · exact Pz xs hx s h
    · rw [List.mem_singleton.1 h]; simp
  · split at hs
    · rcases List.mem_append.1 hs with h | h
      · exact Bz xs ks hx (fun k hk => by have := Lj hk; omega) s h
      · rw [List.mem_singleton.1 h]; simp
    · rw [List.mem_singleton.1 hs]
      have := Bu _ hm
      omega) x
theorem Tb.rows {w0 w : World} {B : Nat} {A : Option Addr} {e c : Nat} {ds : List D} {xs : List Value} {sb : List (Nat × Obj)} (hS : SlB e 1 A ds.length c xs sb) (hq : ∀ q ∈ sb, w.heap[q.1]? = some q.2 ∧ B ≤ q.1) (hB : w0.heap.size ≤ B) (hr : RepL (Btw w0 w) w ds xs) : Rep (Btw w0 w) w (.slice ds) [.slice A ds.length c] := by
  refine hS.repOf (fun q h => ⟨(hq q h).1, ?_, Da (hq q h).1, ?_⟩) hr rfl
  · have := (hq q h).2; omega
  · obtain ⟨cur, he⟩ := hS.typ.2 q h
    exact ⟨cur, e, by rw [(hq q h).1, he]⟩
theorem Ez {S : Nat → Prop} {wx : World} : ∀ {q : List Str}, (∀ s ∈ q, s.length ≤ 9223372036854775807) → RepL S wx (q.map G4) (q.map fun s => Value.string (bs s))
  | [], _ => RepL.nil_mk
  | s :: q, h => RepL.cons_mk (Rep.lit_mk (v := .string (bs s)) (h s Ga)) (Ez fun x hx => h x (by simp [hx]))
theorem CD (x : Tree) (S : Nat → Prop) (w0 : World) (cs : List Value) (hR : Rep S w0 (Ed x) cs) (hG : Gl w0) (hsz : Qc x ≤ 256) (hm : Rf x ≤ 1073741824) (hx : Wd x = true) : Calls prog 35 #[.agg cs.toArray] w0 (Md fun v w' => ∃ A c B e, v = .tuple #[.agg #[.slice A (Yg x).length c, .slice B (Gk x).length e], .int .i64 0] ∧ Rep (Btw w0 w') w' (Qf (Yg x)) [.slice A (Yg x).length c] ∧ Rep (Btw w0 w') w' (.slice ((Gk x).map Me)) [.slice B (Gk x).length e] ∧ Same [] w0 w') := by
 have hl : cs.length = 4 := hR.length.trans (Yd x)
 have ho := hR.one_
 refine Ka func35 rfl ntmps35 Gb (Dd _) ?_
 have hF := FR.start w0 []
 refine Ma ?_
 refine Qq (v := .agg (List.toArray cs)) (cs := (List.toArray cs)) hF rfl rfl ?_
 clear hF; rintro b1 w hb1 hF -
 refine Lh (cs := #[.slice none 0 0, .slice none 0 0]) hF zeroValue60 rfl ?_
 clear hF; rintro b2 w hb2 hF -
 refine Ca (Pc rfl) (Fa (Ja (Ma (Ia (v := .agg (List.toArray cs)) (Ic (l := cs) isAgg27 sizeOf27 rfl hl (hF.cellsAll 1 rfl)) ?_))))
 refine Rb hF (Oe (v' := .bool true) (J2 x by_Om _ _ cs (hF.rep hR) (V0 x by_Om) (hG.ext hF.same)) (congrArg Value.bool hx)) (Ob NE rfl rfl) ?_
 clear hF; intro w hF
 refine Ca (On (b := true) rfl) (Fa (Jr rfl (Ma ?_)))
 refine Lh (cs := #[.slice none 0 0, .slice none 0 0]) hF zeroValue84 rfl ?_
 clear hF; rintro b3 w hb3 hF -
 refine Cc (Ia (v := .agg (List.toArray cs)) (Ic (l := cs) isAgg27 sizeOf27 rfl hl (hF.cellsAll 2 rfl)) ?_)
 have lb3 := hF.lt (i := 0) rfl
 have lb2 := hF.lt (i := 1) rfl
 have lb1 := hF.lt (i := 2) rfl
 refine Eb (RA x by_Om _ _ cs (hF.rep hR) (V0 x by_Om) (hG.ext hF.same)) (Ob WL rfl rfl) ?_
 rintro _ w ⟨ct, rfl, hRt, hE⟩
 have hlt : ct.length = 4 := hRt.length.trans (Yd _)
 have hot := hRt.one_
 have hgr := hE.size
 replace hF := hF.ext hE
 clear hE
 have hTb : Tb w w.heap.size b3 [] [] := ⟨by omega, Nat.le_refl _, none, 0, [], none, 0, [], hF.heap (i := 0) rfl, SlB.nil _ _, SlB.nil _ _, by simp⟩
 have hge3 := hF.ge (i := 0) rfl
 refine Eb (RF (Yf x) w w.heap.size b3 [] [] ct hTb (hRt.weaken fun b hb _ hw => by rcases Kh.1 hw with rfl | ⟨h1, h2, -⟩; (have := hb.1; omega); omega) (hG.ext hF.same) (by have := hF.ge (i := 0) rfl; have := hG.size; omega) rfl (Kn hx) (U3 x by_Om) (Nat.le_trans (Qu x) hm) (by have := Nm hx; unfold Yg at this; simp only [List.length_nil]; omega)) (Mb UB rfl rfl rfl) ?_
 obtain ⟨B, hBw⟩ : ∃ B, B = w.heap.size := ⟨_, rfl⟩
 rw [← hBw]
 rintro _ w ⟨rfl, hT2, hE⟩
 have hBl : w0.heap.size ≤ B := by have := hF.same.size; omega
 have hb2B : b2 < B := by omega
 replace hF := (hF.drop 1).touch hE (fun b hb => by rcases Kh.1 hb with rfl | ⟨-, h2, -⟩; (refine ⟨fun h => absurd h by_Om, fun z hz e => ?_⟩; have hd := (List.pairwise_cons.1 hF.desc).1 z hz; exact hd e); (refine ⟨fun h => absurd h by_Om, fun z hz e => ?_⟩; have : z.1 < B := (by rw [hBw]; exact Da (hF.memHeap (List.mem_cons_of_mem _ hz))); omega))
 simp only [List.nil_append, List.length_nil] at hT2
 obtain ⟨-, -, P1, q1, sl, P2, q2, sf, hh, hL, hN, hrow⟩ := hT2
 clear hE
 refine Fa (Ja (Ma (Ca (Gc Ge rfl) (Ca (Gc De rfl) (Ia (v := .slice (P1) ((Yg x).length) (q1)) (Wa isAgg25 rfl (Ib hh 0)) (Ca (Lf underlying25 rfl) ?_))))))
 refine Ia (v := .bool false) (Ld (Ox rfl rfl) (by have := Nm hx; omega)) ?_
 refine Fa (Jr rfl (Ma (Ca (Gc Ge rfl) (Ia (Ic (l := [.slice (P1) ((Yg x).length) (q1), .slice (P2) ((Gk x).length) (q2)]) isAgg60 sizeOf60 rfl rfl (Xv hh)) ?_))))
 refine Vl hF sizeOf60 rfl rfl Tl ?_
 clear hF; intro w hF hE
 replace hrow := fun q hq => And.intro ((hE.block q.1 (Da (hrow q hq).1) (by have := (hrow q hq).2; simp only [List.mem_singleton]; omega)).trans (hrow q hq).1) (hrow q hq).2
 clear hE
 refine Ca (Pc rfl) (Fa ?_)
 refine Xb (Wb (Va (Be rfl (l := [.slice (P1) ((Yg x).length) (q1), .slice (P2) ((Gk x).length) (q2)]) rfl isAgg60 sizeOf60 rfl (hF.cellsAll 0 rfl) (v := .int .i64 0) rfl) ?_))
 refine ⟨P1, q1, P2, q2, rfl, ?_, ?_, hF.same⟩
 have := Tb.rows (w0 := w0) (w := w) (ds := (Yg x).map G4) (by rw [List.length_map]; exact hL) (fun q hq => hrow q (by simp [hq])) hBl (Ez (fun s hs => by have := AG (Yf x) (Nat.le_trans (Qu x) hm) s hs; omega))
 rw [List.length_map] at this
 exact this
 have := Tb.rows (w0 := w0) (w := w) (ds := (Gk x).map Me) (by rw [List.length_map]; exact hN) (fun q hq => hrow q (by simp [hq])) hBl (Pj (fun s hs => by obtain ⟨i, hi, rfl⟩ := List.getElem_of_mem hs; have h1 := (Nv hx hsz).2.2 i hi hi; have := S_ x; have := Nm hx; omega))
 rw [List.length_map] at this
 exact this
end Go.Scarf
namespace Go.Scarf
open Go.RowKit Go.Proofs Go.Proofs.Tryz
end Go.Scarf
