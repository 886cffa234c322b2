/- A part of the proof. -/
import Derived.Test.YtehigfneiofjnaaGreatDoorZ8
import Derived.Test.YtehigfneiofjnaaGreatDoorZ4
import Derived.Test.YtehigfneiofjnaaGreatDoorW19
set_option linter.all false
set_option maxHeartbeats 8000000
set_option maxRecDepth 10000
namespace Go.Scarf
open Go.RowKit Go.Proofs Go.Proofs.Tryz
theorem O9 (k : Int) (t : Str) (ks : List Str) (xs : List Tree) (ih : ∀ x ∈ xs, JD x) (A D : Option Addr) (c e : Nat) (w0 : World) (B pb : Nat) (ls : List Str) (fs : List Int) (hT : Tb w0 B pb ls fs) (hG : Gl w0) (hpN : 7 ≤ pb) (hlf : ls.length = fs.length) (hR : Rep (fun b => b ∉ Wk2 w0 B pb) w0 (Gc (.node k t ks xs)) [.int .i64 k, .string (bs t), .slice A ks.length c, .slice D xs.length e]) (hn : Yd nodeB (.node k t ks xs) = true) (hsz : Ec (.node k t ks xs) ≤ 1000000000) (hm : Ae (.node k t ks xs) ≤ 1073741824) (hlen : ls.length + (Ge (.node k t ks xs)).length ≤ 512) : Calls prog 15 #[.pointer (some ⟨pb, 0, none⟩), .agg #[.int .i64 k, .string (bs t), .slice A ks.length c, .slice D xs.length e]] w0 (Ce fun v w' => v = .tuple #[] ∧ Tb w' B pb (ls ++ Ge (.node k t ks xs)) (fs ++ Jf (.node k t ks xs) ls.length) ∧ Same (Wk2 w0 B pb) w0 w') := by
 obtain ⟨hn1, hns⟩ := Uf hn
 have hsz1 : Zc xs + 1 ≤ 1000000000 := by rw [Ec] at hsz; omega
 have hm1 : Oj xs ≤ 1073741824 ∧ Ok ks ≤ 1073741824 := by rw [Ae] at hm; omega
 have hlp := Ey (.node k t ks xs)
 have hRw := hR
 refine Ma func15 rfl ntmps15 Qb (Wd _ _) ?_
 have hB := TW.start hT
 have hF := FR.start w0 (Wk2 w0 B pb)
 refine Ha ?_
 refine VP (.pointer _) hF rfl ?_
 clear hF; intro b1 w hb1 hF hE
 have hnb1 : b1 ≠ pb := by have := hB.lt; omega
 replace hB := hB.ext hE
 replace hRw := hRw.off2_ext hE
 clear hE
 refine Bh hF rfl ?_
 clear hF; intro b2 w hb2 hF hE
 have hnb2 : b2 ≠ pb := by have := hB.lt; omega
 replace hB := hB.ext hE
 replace hRw := hRw.off2_ext hE
 clear hE
 refine Da (Ia ?_)
 have hRw2 := hRw
 obtain ⟨A_, c_, D_, e_, he_, -, -, hKw, hXw⟩ := hRw2.tree_inv
 simp only [List.cons.injEq, Value.slice.injEq, and_true] at he_
 obtain ⟨-, -, ⟨rfl, -, rfl⟩, ⟨rfl, -, rfl⟩⟩ := he_
 refine Ga (Ca (Fc Ke rfl) (Uc (Nm isAgg3 rfl hF.F 0 rfl rfl) (Da (Db (Ha (Ca (Li rfl rfl) (Ca (Cc rfl) (Da ?_))))))))
 refine Bc rfl rfl (fun hc0 => ?_) (fun hc0 => ?_)
 refine Ga (Uc (TK isAgg52 rfl hF.F 1 rfl rfl) (Fa (v := .func (.func 27) #[] #[.pointer (some ⟨b2, 0, none⟩), .pointer (some ⟨b1, 0, none⟩)]) (Cq rfl rfl) ?_))
 have h5 : k = 5 := by assumption
 have hl5 : ls.length + (Gg xs).length + 1 ≤ 512 := by rw [Ge, if_pos h5, List.length_append, List.length_singleton] at hlen; omega
 replace hl5 : ls.length + (Gg xs).length ≤ 511 := by omega
 refine Zb (NB w B pb 27 #[.pointer (some ⟨b2, 0, none⟩), .pointer (some ⟨b1, 0, none⟩)] IS ls _ fs _ [91] hB.tb (VH k t ks xs A D c e w B pb ls fs hB.tb (hG.wrote2 hF.same (by have := hT.lt; omega) hpN) hpN hlf ih hns by_Om by_Om b2 b1 (hF.heap (i := 0) rfl) (hF.heap (i := 1) rfl) (by assumption) hXw by_Om) (by rw [List.length_append]; omega) (by rw [List.length_append, Dv]; omega)) (Ff XC rfl rfl rfl rfl) ?_
 rintro _ w ⟨rfl, hT2, hE⟩
 replace hF := hF.wrote2 hB hE (by intro z hz; simp only [List.mem_cons, List.not_mem_nil, or_false] at hz; rcases hz with rfl | rfl <;> exact ⟨.inl rfl, by assumption⟩)
 replace hB := hB.wrote hT2 hE
 clear hE
 refine Cb (Wb ?_)
 refine Ef (Rd (Ah rfl) ?_)
 have h5 : k = 5 := by assumption
 rw [Ge, Jf, if_pos h5, if_pos h5, ← List.append_assoc, ← List.append_assoc]
 exact ⟨rfl, hB.tb, hF.same⟩
 refine Ha (Ca (Li rfl rfl) (Ca (Cc rfl) (Da ?_)))
 refine Bc rfl rfl (fun hc1 => ?_) (fun hc1 => ?_)
 refine Ga (Uc (TK isAgg52 rfl hF.F 1 rfl rfl) (Fa (v := .func (.func 28) #[] #[.pointer (some ⟨b2, 0, none⟩), .pointer (some ⟨b1, 0, none⟩)]) (Cq rfl rfl) ?_))
 have h6 : k = 6 := by assumption
 have hl5 : ls.length + (Df xs ks).length + 1 ≤ 512 := by rw [Ge, if_neg by_Om, if_pos h6, List.length_append, List.length_singleton] at hlen; omega
 refine Zb (NB w B pb 28 #[.pointer (some ⟨b2, 0, none⟩), .pointer (some ⟨b1, 0, none⟩)] PS ls _ fs _ [123] hB.tb (IL k t ks xs A D c e w B pb ls fs hB.tb (hG.wrote2 hF.same (by have := hT.lt; omega) hpN) hpN hlf ih hns by_Om by_Om (Kq (h6 ▸ hn1)).2 (fun s hs => by have := Ch hs; omega) b2 b1 (hF.heap (i := 0) rfl) (hF.heap (i := 1) rfl) (by assumption) (by assumption) hXw hKw by_Om) (by rw [List.length_append]; omega) (by rw [List.length_append, Fq]; omega)) (Ff XC rfl rfl rfl rfl) ?_
 rintro _ w ⟨rfl, hT2, hE⟩
 replace hF := hF.wrote2 hB hE (by intro z hz; simp only [List.mem_cons, List.not_mem_nil, or_false] at hz; rcases hz with rfl | rfl <;> exact ⟨.inl rfl, by assumption⟩)
 replace hB := hB.wrote hT2 hE
 clear hE
 refine Cb (Wb ?_)
 refine Ef (Rd (Ah rfl) ?_)
 have h6 : k = 6 := by assumption
 rw [Ge, Jf, if_neg by_Om, if_pos h6, if_neg by_Om, if_pos h6, ← List.append_assoc, ← List.append_assoc]
 exact ⟨rfl, hB.tb, hF.same⟩
 refine De [] (.free 0 (.free 1 (.act 2 (.act 3 .nil)))) hF ?_
 clear hF; intro w hF hE
 replace hB := hB.ext hE
 replace hRw := hRw.off2_ext hE
 clear hE
 refine ⟨fun wq => FR w0 (Wk2 w0 B pb) _ wq, hF, ?_⟩
 refine Bk rfl (TK isAgg52 rfl C0 1 rfl rfl) (Bk rfl (Bi isAgg25 sizeOf25 rfl C0 0 rfl rfl) ?_)
 refine Xf rfl (VC (.node k t ks xs) _ _ [.int .i64 k, .string (bs t), .slice A ks.length c, .slice D xs.length e] hRw (hG.wrote2 hF.same (by have := hT.lt; omega) hpN) by_Om by_Om) (Ua TM rfl rfl) ?_
 rintro _ w ⟨rfl, hE⟩
 replace hF := hF.ext hE
 replace hB := hB.ext hE
 replace hRw := hRw.off2_ext hE
 clear hE
 refine ⟨hF, ?_⟩
 refine Xf rfl (NB w B pb 32 #[] DR ls _ fs _ (Fg (.node k t ks xs)) hB.tb (YL w B pb ls fs hB.tb) by_Om by_Om) (Ff XC rfl rfl rfl rfl) ?_
 rintro _ w ⟨rfl, hT2, hE⟩
 replace hF := hF.wrote2 hB hE (by intro z hz; simp only [List.mem_cons, List.not_mem_nil, or_false] at hz; rcases hz with rfl | rfl <;> exact ⟨.inl rfl, by assumption⟩)
 replace hB := hB.wrote hT2 hE
 clear hE
 refine ⟨hF, ?_⟩
 refine Ic (Wb ?_)
 refine Ef (Rd (Ah rfl) ?_)
 rw [Ge, Jf, if_neg by_Om, if_neg by_Om, if_neg by_Om, if_neg by_Om]
 exact ⟨rfl, hB.tb, hF.same⟩
theorem UK (x : Tree) : JD x := Tree.ind (Q := JD) (fun k t ks xs ih => by
  intro w0 B pb ls fs cs hT hR hG hpN hlf hn hsz hm hlen
  have hR0 := hR
  obtain ⟨A, c, D, e, rfl, -⟩ := hR0.tree_inv
  exact O9 k t ks xs ih A D c e w0 B pb ls fs hT hG hpN hlf hR hn hsz hm hlen) x
end Go.Scarf
namespace Go.Scarf
open Go.RowKit Go.Proofs Go.Proofs.Tryz
def Xd (x : Tree) : List Str := Ge (Cf x)
def Ye (x : Tree) : List Int := Jf (Cf x) 0
theorem N2 (x : Tree) : (Ye x).length = (Xd x).length := Gf _ 0
theorem Rm {x : Tree} (h : Yc x = true) : Yd nodeB (Cf x) = true := Tn (by rw [Yn (Ol h)]; exact YE (Ol h))
theorem Un {x : Tree} (h : Yc x = true) : (Xd x).length ≤ 2 * Ec x := by
  have h1 := FQ (Cf x) (Rm h)
  have h2 := AD (Cf x) (Rm h)
  have h3 : Ec (Cf x) = Ec x := by rw [Yn (Ol h)]; exact (Sw x (Tn (Ol h))).1
  unfold Xd
  omega
theorem Ll {x : Tree} (h : Yc x = true) (hs : Ec x ≤ 256) : Lk (Xd x) (Ye x) := S7 _ (by have := Un h; unfold Xd at this; omega)
theorem I1 : ∀ (xs : List Tree), (∀ x ∈ xs, ∀ s ∈ Ge x, s.length ≤ 140737488355329) → ∀ s ∈ Gg xs, s.length ≤ 140737488355329
  | [], _, s, hs => by rw [Gg] at hs; cases hs
  | x :: xs, h, s, hs => by
    rw [Gg] at hs
    rcases List.mem_append.1 hs with h1 | h1
    · exact h x Sa s h1
    · exact I1 xs (fun y hy => h y (by simp [hy])) s h1
theorem X1 : ∀ (xs : List Tree) (ks : List Str), (∀ x ∈ xs, ∀ s ∈ Ge x, s.length ≤ 140737488355329) → (∀ k ∈ ks, k.length ≤ 1073741824) → ∀ s ∈ Df xs ks, s.length ≤ 140737488355329
  | [], _, _, _, s, hs => by rw [Df] at hs; cases hs
  | x :: xs, ks, h, hk, s, hs => by
    rw [Df] at hs
    rcases List.mem_append.1 hs with h1 | h1
    · exact h x Sa s h1
    · rcases List.mem_cons.1 h1 with rfl | h2
      · have : Ae (.node 4 (ks.headD []) [] []) ≤ 1073741824 := by
          rw [Bp]
          cases ks with
          | nil => simp
          | cons k ks => exact hk k Sa
        have := Pr _ this
        unfold Km
        simp only [List.length_cons]; omega
      · exact X1 xs ks.tail (fun y hy => h y (by simp [hy])) (fun k hk2 => hk k (List.mem_of_mem_tail hk2)) s h2
theorem MC (x : Tree) : Ae x ≤ 1073741824 → ∀ s ∈ Ge x, s.length ≤ 140737488355329 := Tree.ind (Q := fun x => Ae x ≤ 1073741824 → ∀ s ∈ Ge x, s.length ≤ 140737488355329) (fun k t ks xs ih hm s hs => by
  have hm0 := hm
  rw [Ae] at hm0
  have hx : ∀ x ∈ xs, ∀ s ∈ Ge x, s.length ≤ 140737488355329 := fun x hx => ih x hx (by have := Pg hx; omega)
  rw [Ge] at hs
  split at hs
  · rcases List.mem_append.1 hs with h | h
    · exact I1 xs hx s h
    · rw [List.mem_singleton.1 h]; simp
  · split at hs
    · rcases List.mem_append.1 hs with h | h
      · exact X1 xs ks hx (fun k hk => by have := Ch hk; omega) s h
      · rw [List.mem_singleton.1 h]; simp
    · rw [List.mem_singleton.1 hs]
      have := Pr _ hm
      omega) x
theorem Tb.rows {w0 w : World} {B : Nat} {A : Option Addr} {e c : Nat} {ds : List D} {xs : List Value} {sb : List (Nat × Obj)} (hS : SlB e 1 A ds.length c xs sb) (hq : ∀ q ∈ sb, w.heap[q.1]? = some q.2 ∧ B ≤ q.1) (hB : w0.heap.size ≤ B) (hr : RepL (Btw w0 w) w ds xs) : Rep (Btw w0 w) w (.slice ds) [.slice A ds.length c] := by
  refine hS.repOf (fun q h => ⟨(hq q h).1, ?_, Jb (hq q h).1, ?_⟩) hr rfl
  · have := (hq q h).2; omega
  · obtain ⟨cur, he⟩ := hS.typ.2 q h
    exact ⟨cur, e, by rw [(hq q h).1, he]⟩
theorem Tv {S : Nat → Prop} {wx : World} : ∀ {q : List Str}, (∀ s ∈ q, s.length ≤ 9223372036854775807) → RepL S wx (q.map Wn) (q.map fun s => Value.string (bs s))
  | [], _ => RepL.nil_mk
  | s :: q, h => RepL.cons_mk (Rep.lit_mk (v := .string (bs s)) (h s Sa)) (Tv fun x hx => h x (by simp [hx]))
theorem Yr (x : Tree) (S : Nat → Prop) (w0 : World) (cs : List Value) (hR : Rep S w0 (Gc x) cs) (hG : Gl w0) (hsz : Ec x ≤ 256) (hm : Ae x ≤ 1073741824) (hx : Yc x = false) : Calls prog 6 #[.agg cs.toArray] w0 (Ce fun v w' => v = .tuple #[.agg #[.slice none 0 0, .slice none 0 0], .int .i64 1] ∧ Same [] w0 w') := by
 have hl : cs.length = 4 := hR.length.trans (Ac x)
 have ho := hR.one_
 refine Ma func6 rfl ntmps6 Qb (Rc _) ?_
 have hF := FR.start w0 []
 refine Ha ?_
 refine Vf (v := .agg (List.toArray cs)) (cs := (List.toArray cs)) hF rfl rfl ?_
 clear hF; rintro b1 w hb1 hF -
 refine Af (cs := #[.slice none 0 0, .slice none 0 0]) hF zeroValue30 rfl ?_
 clear hF; rintro b2 w hb2 hF -
 refine Ca (Kb rfl) (Da (Ia (Ha (Fa (v := .agg (List.toArray cs)) (Rb (l := cs) isAgg25 sizeOf25 rfl hl (hF.cellsAll 1 rfl)) ?_))))
 refine Va hF (Hr (v' := .bool false) (G4 x by_Om _ _ cs (hF.rep hR) (Fy x by_Om) (hG.ext hF.same)) (congrArg Value.bool hx)) (Ua BH rfl rfl) ?_
 clear hF; intro w hF
 refine Ca (Dm (b := false) rfl) (Da (Qd rfl (Ha ?_)))
 refine Fa (w' := w) (v := .agg #[.slice none 0 0, .slice none 0 0]) Fb ?_
 refine Ij hF sizeOf30 rfl rfl Dl ?_
 clear hF; rintro w hF -
 refine Ca (Kb rfl) (Da ?_)
 refine Pb (Ob (Qa (Ie rfl (l := [.slice none 0 0, .slice none 0 0]) rfl isAgg30 sizeOf30 rfl (hF.cellsAll 0 rfl) (v := .int .i64 1) rfl) ?_))
 exact ⟨rfl, hF.same⟩
theorem Vn (x : Tree) (S : Nat → Prop) (w0 : World) (cs : List Value) (hR : Rep S w0 (Gc x) cs) (hG : Gl w0) (hsz : Ec x ≤ 256) (hm : Ae x ≤ 1073741824) (hx : Yc x = true) : Calls prog 6 #[.agg cs.toArray] w0 (Ce fun v w' => ∃ A c B e, v = .tuple #[.agg #[.slice A (Xd x).length c, .slice B (Ye x).length e], .int .i64 0] ∧ Rep (Btw w0 w') w' (We (Xd x)) [.slice A (Xd x).length c] ∧ Rep (Btw w0 w') w' (.slice ((Ye x).map Th)) [.slice B (Ye x).length e] ∧ Same [] w0 w') := by
 have hl : cs.length = 4 := hR.length.trans (Ac x)
 have ho := hR.one_
 refine Ma func6 rfl ntmps6 Qb (Rc _) ?_
 have hF := FR.start w0 []
 refine Ha ?_
 refine Vf (v := .agg (List.toArray cs)) (cs := (List.toArray cs)) hF rfl rfl ?_
 clear hF; rintro b1 w hb1 hF -
 refine Af (cs := #[.slice none 0 0, .slice none 0 0]) hF zeroValue30 rfl ?_
 clear hF; rintro b2 w hb2 hF -
 refine Ca (Kb rfl) (Da (Ia (Ha (Fa (v := .agg (List.toArray cs)) (Rb (l := cs) isAgg25 sizeOf25 rfl hl (hF.cellsAll 1 rfl)) ?_))))
 refine Va hF (Hr (v' := .bool true) (G4 x by_Om _ _ cs (hF.rep hR) (Fy x by_Om) (hG.ext hF.same)) (congrArg Value.bool hx)) (Ua BH rfl rfl) ?_
 clear hF; intro w hF
 refine Ca (Dm (b := true) rfl) (Da (Ni rfl (Ha ?_)))
 refine Af (cs := #[.slice none 0 0, .slice none 0 0]) hF zeroValue43 rfl ?_
 clear hF; rintro b3 w hb3 hF -
 refine Yb (Fa (v := .agg (List.toArray cs)) (Rb (l := cs) isAgg25 sizeOf25 rfl hl (hF.cellsAll 2 rfl)) ?_)
 have lb3 := hF.lt (i := 0) rfl
 have lb2 := hF.lt (i := 1) rfl
 have lb1 := hF.lt (i := 2) rfl
 refine Zb (OD x by_Om _ _ cs (hF.rep hR) (Fy x by_Om) (hG.ext hF.same)) (Ua OR rfl rfl) ?_
 rintro _ w ⟨ct, rfl, hRt, hE⟩
 have hlt : ct.length = 4 := hRt.length.trans (Ac _)
 have hot := hRt.one_
 have hgr := hE.size
 replace hF := hF.ext hE
 clear hE
 have hTb : Tb w w.heap.size b3 [] [] := ⟨by omega, Nat.le_refl _, none, 0, [], none, 0, [], hF.heap (i := 0) rfl, SlB.nil _ _, SlB.nil _ _, by simp⟩
 have hge3 := hF.ge (i := 0) rfl
 refine Zb (UK (Cf x) w w.heap.size b3 [] [] ct hTb (hRt.weaken fun b hb _ hw => by rcases Ej.1 hw with rfl | ⟨h1, h2, -⟩; (have := hb.1; omega); omega) (hG.ext hF.same) (by have := hF.ge (i := 0) rfl; have := hG.size; omega) rfl (Rm hx) (Ix x by_Om) (Nat.le_trans (Io x) hm) (by have := Un hx; unfold Xd at this; simp only [List.length_nil]; omega)) (Pa VF rfl rfl rfl) ?_
 obtain ⟨B, hBw⟩ : ∃ B, B = w.heap.size := ⟨_, rfl⟩
 rw [← hBw]
 rintro _ w ⟨rfl, hT2, hE⟩
 have hBl : w0.heap.size ≤ B := by have := hF.same.size; omega
 have hb2B : b2 < B := by omega
 replace hF := (hF.drop 1).touch hE (fun b hb => by rcases Ej.1 hb with rfl | ⟨-, h2, -⟩; (refine ⟨fun h => absurd h by_Om, fun z hz e => ?_⟩; have hd := (List.pairwise_cons.1 hF.desc).1 z hz; exact hd e); (refine ⟨fun h => absurd h by_Om, fun z hz e => ?_⟩; have : z.1 < B := (by rw [hBw]; exact Jb (hF.memHeap (List.mem_cons_of_mem _ hz))); omega))
 simp only [List.nil_append, List.length_nil] at hT2
 obtain ⟨-, -, P1, q1, sl, P2, q2, sf, hh, hL, hN, hrow⟩ := hT2
 clear hE
 refine Da (Ia (Ha (Ca (Fc Yf rfl) (Ca (Fc Ed rfl) (Fa (v := .slice (P1) ((Xd x).length) (q1)) (Vb isAgg22 rfl (Hc hh 0)) (Ca (Ji underlying22 rfl) ?_))))))
 refine Fa (v := .bool false) (Dd (Cz rfl rfl) (by have := Un hx; omega)) ?_
 refine Da (Ni rfl (Ha (Ca (Fc Yf rfl) (Fa (Rb (l := [.slice (P1) ((Xd x).length) (q1), .slice (P2) ((Ye x).length) (q2)]) isAgg30 sizeOf30 rfl rfl (Mz hh)) ?_))))
 refine Ij hF sizeOf30 rfl rfl Dl ?_
 clear hF; intro w hF hE
 replace hrow := fun q hq => And.intro ((hE.block q.1 (Jb (hrow q hq).1) (by have := (hrow q hq).2; simp only [List.mem_singleton]; omega)).trans (hrow q hq).1) (hrow q hq).2
 clear hE
 refine Ca (Kb rfl) (Da ?_)
 refine Pb (Ob (Qa (Ie rfl (l := [.slice (P1) ((Xd x).length) (q1), .slice (P2) ((Ye x).length) (q2)]) rfl isAgg30 sizeOf30 rfl (hF.cellsAll 0 rfl) (v := .int .i64 0) rfl) ?_))
 refine ⟨P1, q1, P2, q2, rfl, ?_, ?_, hF.same⟩
 have := Tb.rows (w0 := w0) (w := w) (ds := (Xd x).map Wn) (by rw [List.length_map]; exact hL) (fun q hq => hrow q (by simp [hq])) hBl (Tv (fun s hs => by have := MC (Cf x) (Nat.le_trans (Io x) hm) s hs; omega))
 rw [List.length_map] at this
 exact this
 have := Tb.rows (w0 := w0) (w := w) (ds := (Ye x).map Th) (by rw [List.length_map]; exact hN) (fun q hq => hrow q (by simp [hq])) hBl (Cs (fun s hs => by obtain ⟨i, hi, rfl⟩ := List.getElem_of_mem hs; have h1 := (Ll hx hsz).2.2 i hi hi; have := N2 x; have := Un hx; omega))
 rw [List.length_map] at this
 exact this
end Go.Scarf
namespace Go.Scarf
open Go.RowKit Go.Proofs Go.Proofs.Tryz
def Mq (x y : Tree) : Int := if (Yc x && Yc y) = true then ((Hq (Xd x) (Ye x) (Xd y) (Ye y) : Nat) : Int) else 0
def Nq (x y : Tree) : Int := if (Yc x && Yc y) = true then 0 else 1
theorem L6 (x y : Tree) (S S' : Nat → Prop) (w0 : World) (cx cy : List Value) (hxR : Rep S w0 (Gc x) cx) (hyR : Rep S' w0 (Gc y) cy) (hG : Gl w0) (hszx : Ec x ≤ 256) (hszy : Ec y ≤ 256) (hmx : Ae x ≤ 1073741824) (hmy : Ae y ≤ 1073741824) (h1 : Yc x = false) : Calls prog 7 #[.agg cx.toArray, .agg cy.toArray] w0 (Ce fun v w' => v = .tuple #[.int .i64 0, .int .i64 1] ∧ Same [] w0 w') := by
 have hlcx : cx.length = 4 := hxR.length.trans (Ac x)
 have hocx := hxR.one_
 have hlcy : cy.length = 4 := hyR.length.trans (Ac y)
 have hocy := hyR.one_
 refine Ma func7 rfl ntmps7 Qb (Wd _ _) ?_
 have hF := FR.start w0 []
 refine Ha ?_
 refine Vf (v := .agg (List.toArray cx)) (cs := (List.toArray cx)) hF rfl rfl ?_
 clear hF; rintro b1 w hb1 hF -
 refine Vf (v := .agg (List.toArray cy)) (cs := (List.toArray cy)) hF rfl rfl ?_
 clear hF; rintro b2 w hb2 hF -
 refine Ca (Kb rfl) (Ca (Kb rfl) (Yb (Fa (v := .agg (List.toArray cx)) (Rb (l := cx) isAgg25 sizeOf25 rfl hlcx (hF.cellsAll 1 rfl)) ?_)))
 refine Va hF (Yr x _ _ cx (hF.rep hxR) (hG.ext hF.same) hszx hmx h1) (Ua Aw rfl rfl) ?_
 clear hF; intro w hF
 refine Ca (Qg rfl) (Ca (Yw rfl rfl) (Ca (Re rfl rfl) ?_))
 refine Hh hF zeroValue30 sizeOf30 rfl ?_
 clear hF; rintro b3 w hb3 hF -
 refine Ca (Kb rfl) (Da (Ia (Ha (Ca (Za rfl) (Fa (v := .bool true) (Sc (Ri rfl rfl) Oa) (Da (Qd rfl (Ha (Ca (Za rfl) ?_)))))))))
 refine Ca (Kb rfl) (Ca (Kb rfl) (Da ?_))
 refine Pb (Ob (Qa (Nd (v := .int .i64 0) (x := .int .i64 1) rfl rfl rfl) ?_))
 exact ⟨rfl, hF.same⟩
theorem I5 (x y : Tree) (S S' : Nat → Prop) (w0 : World) (cx cy : List Value) (hxR : Rep S w0 (Gc x) cx) (hyR : Rep S' w0 (Gc y) cy) (hG : Gl w0) (hszx : Ec x ≤ 256) (hszy : Ec y ≤ 256) (hmx : Ae x ≤ 1073741824) (hmy : Ae y ≤ 1073741824) (h1 : Yc x = true) (h2 : Yc y = false) : Calls prog 7 #[.agg cx.toArray, .agg cy.toArray] w0 (Ce fun v w' => v = .tuple #[.int .i64 0, .int .i64 1] ∧ Same [] w0 w') := by
 have hlcx : cx.length = 4 := hxR.length.trans (Ac x)
 have hocx := hxR.one_
 have hlcy : cy.length = 4 := hyR.length.trans (Ac y)
 have hocy := hyR.one_
 refine Ma func7 rfl ntmps7 Qb (Wd _ _) ?_
 have hF := FR.start w0 []
 refine Ha ?_
 refine Vf (v := .agg (List.toArray cx)) (cs := (List.toArray cx)) hF rfl rfl ?_
 clear hF; rintro b1 w hb1 hF -
 refine Vf (v := .agg (List.toArray cy)) (cs := (List.toArray cy)) hF rfl rfl ?_
 clear hF; rintro b2 w hb2 hF -
 refine Ca (Kb rfl) (Ca (Kb rfl) (Yb (Fa (v := .agg (List.toArray cx)) (Rb (l := cx) isAgg25 sizeOf25 rfl hlcx (hF.cellsAll 1 rfl)) ?_)))
 refine Zb (Vn x _ _ cx (hF.rep hxR) (hG.ext hF.same) hszx hmx h1) (Ua Aw rfl rfl) ?_
 rintro _ w ⟨Au, cu, Bu, eu, rfl, hL_, hN_, hE⟩
 have hLu : Rep (fun _ => True) w (We (Xd x)) [.slice Au (Xd x).length cu] := hL_.weaken fun _ _ _ => trivial
 have hNu : Rep (fun _ => True) w (.slice ((Ye x).map Th)) [.slice Bu (Ye x).length eu] := hN_.weaken fun _ _ _ => trivial
 replace hF := hF.ext hE
 clear hE hL_ hN_
 refine Ca (Qg rfl) (Ca (Yw rfl rfl) (Ca (Re rfl rfl) ?_))
 refine Hh hF zeroValue30 sizeOf30 rfl ?_
 clear hF; intro b3 w hb3 hF hE
 replace hLu := hLu.ext hE
 replace hNu := hNu.ext hE
 clear hE
 refine Ca (Kb rfl) (Da (Ia (Ha (Ca (Za rfl) (Fa (v := .bool false) (Dd (Ri rfl rfl) Oa) (Da (Ni rfl (Ia ?_))))))))
 refine Ga (Fa (v := .agg (List.toArray cy)) (Rb (l := cy) isAgg25 sizeOf25 rfl hlcy (hF.cellsAll 1 rfl)) ?_)
 refine Zb (Yr y _ _ cy (hF.rep hyR) (hG.ext hF.same) hszy hmy h2) (Ua Aw rfl rfl) ?_
 rintro _ w ⟨rfl, hE⟩
 replace hF := hF.ext hE
 replace hLu := hLu.ext hE
 replace hNu := hNu.ext hE
 clear hE
 refine Ca (Qg rfl) (Ca (Yw rfl rfl) (Ca (Re rfl rfl) ?_))
 refine Hh hF zeroValue30 sizeOf30 rfl ?_
 clear hF; intro b4 w hb4 hF hE
 replace hLu := hLu.ext hE
 replace hNu := hNu.ext hE
 clear hE
 refine Ca (Kb rfl) (Da (Ia (Ha (Ca (Za rfl) (Fa (v := .bool true) (Sc (Ri rfl rfl) Oa) (Da (Qd rfl (Ha (Ca (Za rfl) ?_)))))))))
 refine Ca (Kb rfl) (Ca (Kb rfl) (Da ?_))
 refine Pb (Ob (Qa (Nd (v := .int .i64 0) (x := .int .i64 1) rfl rfl rfl) ?_))
 exact ⟨rfl, hF.same⟩
theorem X5 (x y : Tree) (S S' : Nat → Prop) (w0 : World) (cx cy : List Value) (hxR : Rep S w0 (Gc x) cx) (hyR : Rep S' w0 (Gc y) cy) (hG : Gl w0) (hszx : Ec x ≤ 256) (hszy : Ec y ≤ 256) (hmx : Ae x ≤ 1073741824) (hmy : Ae y ≤ 1073741824) (h1 : Yc x = true) (h2 : Yc y = true) : Calls prog 7 #[.agg cx.toArray, .agg cy.toArray] w0 (Ce fun v w' => v = .tuple #[.int .i64 ((Hq (Xd x) (Ye x) (Xd y) (Ye y) : Nat) : Int), .int .i64 0] ∧ Same [] w0 w') := by
 have hlcx : cx.length = 4 := hxR.length.trans (Ac x)
 have hocx := hxR.one_
 have hlcy : cy.length = 4 := hyR.length.trans (Ac y)
 have hocy := hyR.one_
 refine Ma func7 rfl ntmps7 Qb (Wd _ _) ?_
 have hF := FR.start w0 []
 refine Ha ?_
 refine Vf (v := .agg (List.toArray cx)) (cs := (List.toArray cx)) hF rfl rfl ?_
 clear hF; rintro b1 w hb1 hF -
 refine Vf (v := .agg (List.toArray cy)) (cs := (List.toArray cy)) hF rfl rfl ?_
 clear hF; rintro b2 w hb2 hF -
 refine Ca (Kb rfl) (Ca (Kb rfl) (Yb (Fa (v := .agg (List.toArray cx)) (Rb (l := cx) isAgg25 sizeOf25 rfl hlcx (hF.cellsAll 1 rfl)) ?_)))
 refine Zb (Vn x _ _ cx (hF.rep hxR) (hG.ext hF.same) hszx hmx h1) (Ua Aw rfl rfl) ?_
 rintro _ w ⟨Au, cu, Bu, eu, rfl, hL_, hN_, hE⟩
 have hLu : Rep (fun _ => True) w (We (Xd x)) [.slice Au (Xd x).length cu] := hL_.weaken fun _ _ _ => trivial
 have hNu : Rep (fun _ => True) w (.slice ((Ye x).map Th)) [.slice Bu (Ye x).length eu] := hN_.weaken fun _ _ _ => trivial
 replace hF := hF.ext hE
 clear hE hL_ hN_
 refine Ca (Qg rfl) (Ca (Yw rfl rfl) (Ca (Re rfl rfl) ?_))
 refine Hh hF zeroValue30 sizeOf30 rfl ?_
 clear hF; intro b3 w hb3 hF hE
 replace hLu := hLu.ext hE
 replace hNu := hNu.ext hE
 clear hE
 refine Ca (Kb rfl) (Da (Ia (Ha (Ca (Za rfl) (Fa (v := .bool false) (Dd (Ri rfl rfl) Oa) (Da (Ni rfl (Ia ?_))))))))
 refine Ga (Fa (v := .agg (List.toArray cy)) (Rb (l := cy) isAgg25 sizeOf25 rfl hlcy (hF.cellsAll 1 rfl)) ?_)
 refine Zb (Vn y _ _ cy (hF.rep hyR) (hG.ext hF.same) hszy hmy h2) (Ua Aw rfl rfl) ?_
 rintro _ w ⟨Av, cv, Bv, ev, rfl, hL_, hN_, hE⟩
 have hLv : Rep (fun _ => True) w (We (Xd y)) [.slice Av (Xd y).length cv] := hL_.weaken fun _ _ _ => trivial
 have hNv : Rep (fun _ => True) w (.slice ((Ye y).map Th)) [.slice Bv (Ye y).length ev] := hN_.weaken fun _ _ _ => trivial
 replace hLu := hLu.ext hE
 replace hNu := hNu.ext hE
 replace hF := hF.ext hE
 clear hE hL_ hN_
 refine Ca (Qg rfl) (Ca (Yw rfl rfl) (Ca (Re rfl rfl) ?_))
 refine Hh hF zeroValue30 sizeOf30 rfl ?_
 clear hF; intro b4 w hb4 hF hE
 replace hLu := hLu.ext hE
 replace hNu := hNu.ext hE
 replace hLv := hLv.ext hE
 replace hNv := hNv.ext hE
 clear hE
 refine Ca (Kb rfl) (Da (Ia (Ha (Ca (Za rfl) (Fa (v := .bool false) (Dd (Ri rfl rfl) Oa) (Da (Ni rfl (Ia ?_))))))))
 refine Ga (Uc (Bi isAgg30 sizeOf30 rfl hF.F 1 rfl rfl) (Uc (Bi isAgg30 sizeOf30 rfl hF.F 0 rfl rfl) ?_))
 refine Zb (MG _ _ _ (Xd x) (Ye x) Au Bu cu eu hLu hNu (Xd y) (Ye y) Av Bv cv ev hLv hNv (Ll h1 hszx) (Ll h2 hszy)) (Pa RR rfl rfl rfl) ?_
 rintro _ w ⟨rfl, hE⟩
 replace hF := hF.ext hE
 replace hLu := hLu.ext hE
 replace hNu := hNu.ext hE
 replace hLv := hLv.ext hE
 replace hNv := hNv.ext hE
 clear hE
 refine Ca (Re rfl rfl) (Ca (Re rfl rfl) (Ca (Kb rfl) (Ca (Kb rfl) (Da ?_))))
 refine Pb (Ob (Qa (Nd (v := .int .i64 ((Hq (Xd x) (Ye x) (Xd y) (Ye y) : Nat))) (x := .int .i64 0) rfl rfl rfl) ?_))
 exact ⟨rfl, hF.same⟩
theorem Lj (x y : Tree) (S S' : Nat → Prop) (w0 : World) (cx cy : List Value) (hxR : Rep S w0 (Gc x) cx) (hyR : Rep S' w0 (Gc y) cy) (hG : Gl w0) (hszx : Ec x ≤ 256) (hszy : Ec y ≤ 256) (hmx : Ae x ≤ 1073741824) (hmy : Ae y ≤ 1073741824) : Calls prog 7 #[.agg cx.toArray, .agg cy.toArray] w0 (Ce fun v w' => v = .tuple #[.int .i64 (Mq x y), .int .i64 (Nq x y)] ∧ Same [] w0 w') := by
  by_cases h1 : Yc x = true
  · by_cases h2 : Yc y = true
    · rw [Mq, Nq, h1, h2]; exact X5 x y S S' w0 cx cy hxR hyR hG hszx hszy hmx hmy h1 h2
    · rw [Mq, Nq, h1, Bool.eq_false_iff.2 h2]; exact I5 x y S S' w0 cx cy hxR hyR hG hszx hszy hmx hmy h1 (Bool.eq_false_iff.2 h2)
  · rw [Mq, Nq, Bool.eq_false_iff.2 h1]; exact L6 x y S S' w0 cx cy hxR hyR hG hszx hszy hmx hmy (Bool.eq_false_iff.2 h1)
end Go.Scarf
