/- A part of the proof. -/
import Derived.Test.YtepbomjpbdbejaaGreatDoorZ8
import Derived.Test.YtepbomjpbdbejaaGreatDoorZ4
import Derived.Test.YtepbomjpbdbejaaGreatDoorW19
set_option linter.all false
set_option maxHeartbeats 8000000
set_option maxRecDepth 10000
namespace Go.Scarf
open Go.RowKit Go.Proofs Go.Proofs.Tryz
theorem C6 (k : Int) (t : Str) (ks : List Str) (xs : List Tree) (ih : ∀ x ∈ xs, IA x) (A D : Option Addr) (c e : Nat) (w0 : World) (B pb : Nat) (ls : List Str) (fs : List Int) (hT : Tb w0 B pb ls fs) (hG : Gl w0) (hpN : 7 ≤ pb) (hlf : ls.length = fs.length) (hR : Rep (fun b => b ∉ Wk2 w0 B pb) w0 (Qc (.node k t ks xs)) [.int .i64 k, .string (bs t), .slice A ks.length c, .slice D xs.length e]) (hn : Ud nodeB (.node k t ks xs) = true) (hsz : Kc (.node k t ks xs) ≤ 1000000000) (hm : Ye (.node k t ks xs) ≤ 1073741824) (hlen : ls.length + (Rf (.node k t ks xs)).length ≤ 512) : Calls prog 54 #[.pointer (some ⟨pb, 0, none⟩), .agg #[.int .i64 k, .string (bs t), .slice A ks.length c, .slice D xs.length e]] w0 (Nd fun v w' => v = .tuple #[] ∧ Tb w' B pb (ls ++ Rf (.node k t ks xs)) (fs ++ Zi (.node k t ks xs) ls.length) ∧ Same (Wk2 w0 B pb) w0 w') := by
 obtain ⟨hn1, hns⟩ := Gg hn
 have hsz1 : Rc xs + 1 ≤ 1000000000 := by rw [Kc] at hsz; omega
 have hm1 : Ui xs ≤ 1073741824 ∧ Ik ks ≤ 1073741824 := by rw [Ye] at hm; omega
 have hlp := H8 (.node k t ks xs)
 have hRw := hR
 refine Ka func54 rfl ntmps54 Kb (Td _ _) ?_
 have hB := TW.start hT
 have hF := FR.start w0 (Wk2 w0 B pb)
 refine Ma ?_
 refine SK (.pointer _) hF rfl ?_
 clear hF; intro b1 w hb1 hF hE
 have hnb1 : b1 ≠ pb := by have := hB.lt; omega
 replace hB := hB.ext hE
 replace hRw := hRw.off2_ext hE
 clear hE
 refine Ij hF rfl ?_
 clear hF; intro b2 w hb2 hF hE
 have hnb2 : b2 ≠ pb := by have := hB.lt; omega
 replace hB := hB.ext hE
 replace hRw := hRw.off2_ext hE
 clear hE
 refine Ga (Ia ?_)
 have hRw2 := hRw
 obtain ⟨A_, c_, D_, e_, he_, -, -, hKw, hXw⟩ := hRw2.tree_inv
 simp only [List.cons.injEq, Value.slice.injEq, and_true] at he_
 obtain ⟨-, -, ⟨rfl, -, rfl⟩, ⟨rfl, -, rfl⟩⟩ := he_
 refine Ea (Ca (Ac Tn rfl) (Md (Rr isAgg3 rfl hF.F 0 rfl rfl) (Ga (Va (Ma (Ca (Do rfl rfl) (Ca (Gc rfl) (Ga ?_))))))))
 refine Jc rfl rfl (fun hc0 => ?_) (fun hc0 => ?_)
 refine Ea (Md (GG isAgg102 rfl hF.F 1 rfl rfl) (Ja (v := .func (.func 76) #[] #[.pointer (some ⟨b2, 0, none⟩), .pointer (some ⟨b1, 0, none⟩)]) (Mk rfl rfl) ?_))
 have h5 : k = 5 := by assumption
 have hl5 : ls.length + (Ff xs).length + 1 ≤ 512 := by rw [Rf, if_pos h5, List.length_append, List.length_singleton] at hlen; omega
 replace hl5 : ls.length + (Ff xs).length ≤ 511 := by omega
 refine Ya (S8 w B pb 76 #[.pointer (some ⟨b2, 0, none⟩), .pointer (some ⟨b1, 0, none⟩)] JM ls _ fs _ [91] hB.tb (JC k t ks xs A D c e w B pb ls fs hB.tb (hG.wrote2 hF.same (by have := hT.lt; omega) hpN) hpN hlf ih hns by_Om by_Om b2 b1 (hF.heap (i := 0) rfl) (hF.heap (i := 1) rfl) (by assumption) hXw by_Om) (by rw [List.length_append]; omega) (by rw [List.length_append, Ur]; omega)) (Fc K9 rfl rfl rfl rfl) ?_
 rintro _ w ⟨rfl, hT2, hE⟩
 replace hF := hF.wrote2 hB hE (by intro z hz; simp only [List.mem_cons, List.not_mem_nil, or_false] at hz; rcases hz with rfl | rfl <;> exact ⟨.inl rfl, by assumption⟩)
 replace hB := hB.wrote hT2 hE
 clear hE
 refine Za (Ob ?_)
 refine Rd (Pc (Pe rfl) ?_)
 have h5 : k = 5 := by assumption
 rw [Rf, Zi, if_pos h5, if_pos h5, ← List.append_assoc, ← List.append_assoc]
 exact ⟨rfl, hB.tb, hF.same⟩
 refine Ma (Ca (Do rfl rfl) (Ca (Gc rfl) (Ga ?_)))
 refine Jc rfl rfl (fun hc1 => ?_) (fun hc1 => ?_)
 refine Ea (Md (GG isAgg102 rfl hF.F 1 rfl rfl) (Ja (v := .func (.func 77) #[] #[.pointer (some ⟨b2, 0, none⟩), .pointer (some ⟨b1, 0, none⟩)]) (Mk rfl rfl) ?_))
 have h6 : k = 6 := by assumption
 have hl5 : ls.length + (Be xs ks).length + 1 ≤ 512 := by rw [Rf, if_neg by_Om, if_pos h6, List.length_append, List.length_singleton] at hlen; omega
 refine Ya (S8 w B pb 77 #[.pointer (some ⟨b2, 0, none⟩), .pointer (some ⟨b1, 0, none⟩)] AL ls _ fs _ [123] hB.tb (LG k t ks xs A D c e w B pb ls fs hB.tb (hG.wrote2 hF.same (by have := hT.lt; omega) hpN) hpN hlf ih hns by_Om by_Om (Dq (h6 ▸ hn1)).2 (fun s hs => by have := Gj hs; omega) b2 b1 (hF.heap (i := 0) rfl) (hF.heap (i := 1) rfl) (by assumption) (by assumption) hXw hKw by_Om) (by rw [List.length_append]; omega) (by rw [List.length_append, Un]; omega)) (Fc K9 rfl rfl rfl rfl) ?_
 rintro _ w ⟨rfl, hT2, hE⟩
 replace hF := hF.wrote2 hB hE (by intro z hz; simp only [List.mem_cons, List.not_mem_nil, or_false] at hz; rcases hz with rfl | rfl <;> exact ⟨.inl rfl, by assumption⟩)
 replace hB := hB.wrote hT2 hE
 clear hE
 refine Za (Ob ?_)
 refine Rd (Pc (Pe rfl) ?_)
 have h6 : k = 6 := by assumption
 rw [Rf, Zi, if_neg by_Om, if_pos h6, if_neg by_Om, if_pos h6, ← List.append_assoc, ← List.append_assoc]
 exact ⟨rfl, hB.tb, hF.same⟩
 refine Dd [] (.free 0 (.free 1 (.act 2 (.act 3 .nil)))) hF ?_
 clear hF; intro w hF hE
 replace hB := hB.ext hE
 replace hRw := hRw.off2_ext hE
 clear hE
 refine ⟨fun wq => FR w0 (Wk2 w0 B pb) _ wq, hF, ?_⟩
 refine Eo rfl (GG isAgg102 rfl C0 1 rfl rfl) (Eo rfl (Pk isAgg27 sizeOf27 rfl C0 0 rfl rfl) ?_)
 refine Ie rfl (M9 (.node k t ks xs) _ _ [.int .i64 k, .string (bs t), .slice A ks.length c, .slice D xs.length e] hRw (hG.wrote2 hF.same (by have := hT.lt; omega) hpN) by_Om by_Om) (Fb XH rfl rfl) ?_
 rintro _ w ⟨rfl, hE⟩
 replace hF := hF.ext hE
 replace hB := hB.ext hE
 replace hRw := hRw.off2_ext hE
 clear hE
 refine ⟨hF, ?_⟩
 refine Ie rfl (S8 w B pb 81 #[] ML ls _ fs _ (Vp (.node k t ks xs)) hB.tb (YF w B pb ls fs hB.tb) by_Om by_Om) (Fc K9 rfl rfl rfl rfl) ?_
 rintro _ w ⟨rfl, hT2, hE⟩
 replace hF := hF.wrote2 hB hE (by intro z hz; simp only [List.mem_cons, List.not_mem_nil, or_false] at hz; rcases hz with rfl | rfl <;> exact ⟨.inl rfl, by assumption⟩)
 replace hB := hB.wrote hT2 hE
 clear hE
 refine ⟨hF, ?_⟩
 refine Bc (Ob ?_)
 refine Rd (Pc (Pe rfl) ?_)
 rw [Rf, Zi, if_neg by_Om, if_neg by_Om, if_neg by_Om, if_neg by_Om]
 exact ⟨rfl, hB.tb, hF.same⟩
theorem CG (x : Tree) : IA x := Tree.ind (Q := IA) (fun k t ks xs ih => by
  intro w0 B pb ls fs cs hT hR hG hpN hlf hn hsz hm hlen
  have hR0 := hR
  obtain ⟨A, c, D, e, rfl, -⟩ := hR0.tree_inv
  exact C6 k t ks xs ih A D c e w0 B pb ls fs hT hG hpN hlf hR hn hsz hm hlen) x
end Go.Scarf
namespace Go.Scarf
open Go.RowKit Go.Proofs Go.Proofs.Tryz
def Ug (x : Tree) : List Str := Rf (Jf x)
def Zj (x : Tree) : List Int := Zi (Jf x) 0
theorem L_ (x : Tree) : (Zj x).length = (Ug x).length := En _ 0
theorem Bn {x : Tree} (h : Od x = true) : Ud nodeB (Jf x) = true := Xm (by rw [Am (Ml h)]; exact VA (Ml h))
theorem Im {x : Tree} (h : Od x = true) : (Ug x).length ≤ 2 * Kc x := by
  have h1 := HJ (Jf x) (Bn h)
  have h2 := NG (Jf x) (Bn h)
  have h3 : Kc (Jf x) = Kc x := by rw [Am (Ml h)]; exact (Ht x (Xm (Ml h))).1
  unfold Ug
  omega
theorem Tq {x : Tree} (h : Od x = true) (hs : Kc x ≤ 256) : Ig (Ug x) (Zj x) := E3 _ (by have := Im h; unfold Ug at this; omega)
theorem Ly : ∀ (xs : List Tree), (∀ x ∈ xs, ∀ s ∈ Rf x, s.length ≤ 140737488355329) → ∀ s ∈ Ff xs, s.length ≤ 140737488355329
  | [], _, s, hs => by rw [Ff] at hs; cases hs
  | x :: xs, h, s, hs => by
    rw [Ff] at hs
    rcases List.mem_append.1 hs with h1 | h1
    · exact h x Fa s h1
    · exact Ly xs (fun y hy => h y (by simp [hy])) s h1
theorem Jy : ∀ (xs : List Tree) (ks : List Str), (∀ x ∈ xs, ∀ s ∈ Rf x, s.length ≤ 140737488355329) → (∀ k ∈ ks, k.length ≤ 1073741824) → ∀ s ∈ Be xs ks, s.length ≤ 140737488355329
  | [], _, _, _, s, hs => by rw [Be] at hs; cases hs
  | x :: xs, ks, h, hk, s, hs => by
    rw [Be] at hs
    rcases List.mem_append.1 hs with h1 | h1
    · exact h x Fa s h1
    · rcases List.mem_cons.1 h1 with rfl | h2
      · have : Ye (.node 4 (ks.headD []) [] []) ≤ 1073741824 := by
          rw [Gt]
          cases ks with
          | nil => simp
          | cons k ks => exact hk k Fa
        have := Jt _ this
        unfold W6
        simp only [List.length_cons]; omega
      · exact Jy xs ks.tail (fun y hy => h y (by simp [hy])) (fun k hk2 => hk k (List.mem_of_mem_tail hk2)) s h2
theorem XF (x : Tree) : Ye x ≤ 1073741824 → ∀ s ∈ Rf x, s.length ≤ 140737488355329 := Tree.ind (Q := fun x => Ye x ≤ 1073741824 → ∀ s ∈ Rf x, s.length ≤ 140737488355329) (fun k t ks xs ih hm s hs => by
  have hm0 := hm
  rw [Ye] at hm0
  have hx : ∀ x ∈ xs, ∀ s ∈ Rf x, s.length ≤ 140737488355329 := fun x hx => ih x hx (by have := Mh hx; omega)
  rw [Rf] at hs
  split at hs
  · rcases List.mem_append.1 hs with h | h
    · exact Ly xs hx s h
    · rw [List.mem_singleton.1 h]; simp
  · split at hs
    · rcases List.mem_append.1 hs with h | h
      · exact Jy xs ks hx (fun k hk => by have := Gj hk; omega) s h
      · rw [List.mem_singleton.1 h]; simp
    · rw [List.mem_singleton.1 hs]
      have := Jt _ hm
      omega) x
theorem Tb.rows {w0 w : World} {B : Nat} {A : Option Addr} {e c : Nat} {ds : List D} {xs : List Value} {sb : List (Nat × Obj)} (hS : SlB e 1 A ds.length c xs sb) (hq : ∀ q ∈ sb, w.heap[q.1]? = some q.2 ∧ B ≤ q.1) (hB : w0.heap.size ≤ B) (hr : RepL (Btw w0 w) w ds xs) : Rep (Btw w0 w) w (.slice ds) [.slice A ds.length c] := by
  refine hS.repOf (fun q h => ⟨(hq q h).1, ?_, Da (hq q h).1, ?_⟩) hr rfl
  · have := (hq q h).2; omega
  · obtain ⟨cur, he⟩ := hS.typ.2 q h
    exact ⟨cur, e, by rw [(hq q h).1, he]⟩
theorem Fz {S : Nat → Prop} {wx : World} : ∀ {q : List Str}, (∀ s ∈ q, s.length ≤ 9223372036854775807) → RepL S wx (q.map Wx) (q.map fun s => Value.string (bs s))
  | [], _ => RepL.nil_mk
  | s :: q, h => RepL.cons_mk (Rep.lit_mk (v := .string (bs s)) (h s Fa)) (Fz fun x hx => h x (by simp [hx]))
theorem AF (x : Tree) (S : Nat → Prop) (w0 : World) (cs : List Value) (hR : Rep S w0 (Qc x) cs) (hG : Gl w0) (hsz : Kc x ≤ 256) (hm : Ye x ≤ 1073741824) (hx : Od x = true) : Calls prog 35 #[.agg cs.toArray] w0 (Nd fun v w' => ∃ A c B e, v = .tuple #[.agg #[.slice A (Ug x).length c, .slice B (Zj x).length e], .int .i64 0] ∧ Rep (Btw w0 w') w' (Lf (Ug x)) [.slice A (Ug x).length c] ∧ Rep (Btw w0 w') w' (.slice ((Zj x).map Kf)) [.slice B (Zj x).length e] ∧ Same [] w0 w') := by
 have hl : cs.length = 4 := hR.length.trans (Id x)
 have ho := hR.one_
 refine Ka func35 rfl ntmps35 Kb (Yc _) ?_
 have hF := FR.start w0 []
 refine Ma ?_
 refine Yn (v := .agg (List.toArray cs)) (cs := (List.toArray cs)) hF rfl rfl ?_
 clear hF; rintro b1 w hb1 hF -
 refine Ch (cs := #[.slice none 0 0, .slice none 0 0]) hF zeroValue60 rfl ?_
 clear hF; rintro b2 w hb2 hF -
 refine Ca (Ic rfl) (Ga (Ia (Ma (Ja (v := .agg (List.toArray cs)) (Wb (l := cs) isAgg27 sizeOf27 rfl hl (hF.cellsAll 1 rfl)) ?_))))
 refine Pb hF (Vf (v' := .bool true) (G1 x by_Om _ _ cs (hF.rep hR) (F1 x by_Om) (hG.ext hF.same)) (congrArg Value.bool hx)) (Fb FD rfl rfl) ?_
 clear hF; intro w hF
 refine Ca (Lp (b := true) rfl) (Ga (Uw rfl (Ma ?_)))
 refine Ch (cs := #[.slice none 0 0, .slice none 0 0]) hF zeroValue84 rfl ?_
 clear hF; rintro b3 w hb3 hF -
 refine Dc (Ja (v := .agg (List.toArray cs)) (Wb (l := cs) isAgg27 sizeOf27 rfl hl (hF.cellsAll 2 rfl)) ?_)
 have lb3 := hF.lt (i := 0) rfl
 have lb2 := hF.lt (i := 1) rfl
 have lb1 := hF.lt (i := 2) rfl
 refine Ya (CB x by_Om _ _ cs (hF.rep hR) (F1 x by_Om) (hG.ext hF.same)) (Fb WL rfl rfl) ?_
 rintro _ w ⟨ct, rfl, hRt, hE⟩
 have hlt : ct.length = 4 := hRt.length.trans (Id _)
 have hot := hRt.one_
 have hgr := hE.size
 replace hF := hF.ext hE
 clear hE
 have hTb : Tb w w.heap.size b3 [] [] := ⟨by omega, Nat.le_refl _, none, 0, [], none, 0, [], hF.heap (i := 0) rfl, SlB.nil _ _, SlB.nil _ _, by simp⟩
 have hge3 := hF.ge (i := 0) rfl
 refine Ya (CG (Jf x) w w.heap.size b3 [] [] ct hTb (hRt.weaken fun b hb _ hw => by rcases Ah.1 hw with rfl | ⟨h1, h2, -⟩; (have := hb.1; omega); omega) (hG.ext hF.same) (by have := hF.ge (i := 0) rfl; have := hG.size; omega) rfl (Bn hx) (D4 x by_Om) (Nat.le_trans (Tt x) hm) (by have := Im hx; unfold Ug at this; simp only [List.length_nil]; omega)) (Mb OB rfl rfl rfl) ?_
 obtain ⟨B, hBw⟩ : ∃ B, B = w.heap.size := ⟨_, rfl⟩
 rw [← hBw]
 rintro _ w ⟨rfl, hT2, hE⟩
 have hBl : w0.heap.size ≤ B := by have := hF.same.size; omega
 have hb2B : b2 < B := by omega
 replace hF := (hF.drop 1).touch hE (fun b hb => by rcases Ah.1 hb with rfl | ⟨-, h2, -⟩; (refine ⟨fun h => absurd h by_Om, fun z hz e => ?_⟩; have hd := (List.pairwise_cons.1 hF.desc).1 z hz; exact hd e); (refine ⟨fun h => absurd h by_Om, fun z hz e => ?_⟩; have : z.1 < B := (by rw [hBw]; exact Da (hF.memHeap (List.mem_cons_of_mem _ hz))); omega))
 simp only [List.nil_append, List.length_nil] at hT2
 obtain ⟨-, -, P1, q1, sl, P2, q2, sf, hh, hL, hN, hrow⟩ := hT2
 clear hE
 refine Ga (Ia (Ma (Ca (Ac Ee rfl) (Ca (Ac Zd rfl) (Ja (v := .slice (P1) ((Ug x).length) (q1)) (Db isAgg25 rfl (Hb hh 0)) (Ca (Mf underlying25 rfl) ?_))))))
 refine Ja (v := .bool false) (De (X8 rfl rfl) (by have := Im hx; omega)) ?_
 refine Ga (Uw rfl (Ma (Ca (Ac Ee rfl) (Ja (Wb (l := [.slice (P1) ((Ug x).length) (q1), .slice (P2) ((Zj x).length) (q2)]) isAgg60 sizeOf60 rfl rfl (Cx hh)) ?_))))
 refine Pl hF sizeOf60 rfl rfl Ol ?_
 clear hF; intro w hF hE
 replace hrow := fun q hq => And.intro ((hE.block q.1 (Da (hrow q hq).1) (by have := (hrow q hq).2; simp only [List.mem_singleton]; omega)).trans (hrow q hq).1) (hrow q hq).2
 clear hE
 refine Ca (Ic rfl) (Ga ?_)
 refine Zb (Xb (Ua (Yd rfl (l := [.slice (P1) ((Ug x).length) (q1), .slice (P2) ((Zj x).length) (q2)]) rfl isAgg60 sizeOf60 rfl (hF.cellsAll 0 rfl) (v := .int .i64 0) rfl) ?_))
 refine ⟨P1, q1, P2, q2, rfl, ?_, ?_, hF.same⟩
 have := Tb.rows (w0 := w0) (w := w) (ds := (Ug x).map Wx) (by rw [List.length_map]; exact hL) (fun q hq => hrow q (by simp [hq])) hBl (Fz (fun s hs => by have := XF (Jf x) (Nat.le_trans (Tt x) hm) s hs; omega))
 rw [List.length_map] at this
 exact this
 have := Tb.rows (w0 := w0) (w := w) (ds := (Zj x).map Kf) (by rw [List.length_map]; exact hN) (fun q hq => hrow q (by simp [hq])) hBl (Vk (fun s hs => by obtain ⟨i, hi, rfl⟩ := List.getElem_of_mem hs; have h1 := (Tq hx hsz).2.2 i hi hi; have := L_ x; have := Im hx; omega))
 rw [List.length_map] at this
 exact this
end Go.Scarf
namespace Go.Scarf
open Go.RowKit Go.Proofs Go.Proofs.Tryz
end Go.Scarf
