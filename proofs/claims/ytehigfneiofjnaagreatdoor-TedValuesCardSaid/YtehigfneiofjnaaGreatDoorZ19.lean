/- A part of the proof. -/
import Derived.Test.YtehigfneiofjnaaGreatDoorZ15
import Derived.Test.YtehigfneiofjnaaGreatDoorZ11
import Derived.Test.YtehigfneiofjnaaGreatDoorE14
import Derived.Test.YtehigfneiofjnaaGreatDoorE12
import Derived.Test.YtehigfneiofjnaaGreatDoorE9
import Derived.Test.YtehigfneiofjnaaGreatDoorE7
set_option linter.all false
set_option maxHeartbeats 8000000
set_option maxRecDepth 10000
namespace Go.Scarf
open Go.RowKit Go.Proofs Go.Proofs.Tryz
def Two (w : World) (A : Option Addr) (c : Nat) (sl : List (Nat × Obj)) (ls : List Str) (A' : Option Addr) (c' : Nat) (sf : List (Nat × Obj)) (fs : List Int) : Prop :=
  SlB 9 1 A ls.length c (Gs ls) sl ∧ SlB 3 1 A' fs.length c' (Is fs) sf ∧ ∀ q ∈ sl ++ sf, w.heap[q.1]? = some q.2
section
variable {w w' w0 : World} {Ds : List Nat} {bs_ sl sf sl1 sf1 : List (Nat × Obj)} {A A' A1 A1' : Option Addr} {c c' c1 c1' : Nat} {ls ls1 : List Str} {fs fs1 : List Int}
theorem Two.pw (h : Two w A c sl ls A' c' sf fs) : (sl ++ sf).Pairwise (fun p q => q.1 ≠ p.1) := by
  obtain ⟨h4, h5, h6⟩ := h
  rw [List.pairwise_append]
  refine ⟨h4.pw, h5.pw, fun q hq r hr e => ?_⟩
  obtain ⟨cu, e1⟩ := h4.typ.2 q hq
  obtain ⟨cv, e2⟩ := h5.typ.2 r hr
  have h7 := h6 q (by simp [hq])
  have h8 := h6 r (by simp [hr])
  rw [← e, h8, e1, e2] at h7
  have := Option.some.inj h7
  simp at this
theorem Two.start (h : Two w A c sl ls A' c' sf fs) : FR w ((sl ++ sf).map (·.1)) ([] ++ (sl ++ (sf ++ []))) w := by
  rw [List.nil_append, List.append_nil]
  exact ⟨.refl _ _, fun q hq => ⟨h.2.2 q hq, .inr (List.mem_map_of_mem hq)⟩, h.pw⟩
theorem FR.two (hF : FR w0 Ds (bs_ ++ (sl ++ (sf ++ []))) w) (hL : SlB 9 1 A ls.length c (Gs ls) sl) (hN : SlB 3 1 A' fs.length c' (Is fs) sf) : Two w A c sl ls A' c' sf fs :=
  ⟨hL, hN, fun q hq => (hF.own q (by rw [List.append_nil]; exact List.mem_append.2 (.inr hq))).1⟩
theorem FR.two_new (hF : FR w0 Ds (bs_ ++ (sl ++ (sf ++ []))) w) : ∀ q ∈ sl ++ sf, w0.heap.size ≤ q.1 ∨ q.1 ∈ Ds := fun q hq => (hF.own q (by rw [List.append_nil]; exact List.mem_append.2 (.inr hq))).2
theorem FR.swap (hF : FR w0 Ds (bs_ ++ (sl ++ (sf ++ []))) w) (hE : Same ((sl ++ sf).map (·.1)) w w') (hT : Two w' A1 c1 sl1 ls1 A1' c1' sf1 fs1) (hn : ∀ q ∈ sl1 ++ sf1, w.heap.size ≤ q.1 ∨ q.1 ∈ (sl ++ sf).map (·.1)) : FR w0 Ds (bs_ ++ (sl1 ++ (sf1 ++ []))) w' := by
  have hD := hF.two_new
  have hd := hF.desc
  rw [List.append_nil, List.pairwise_append] at hd
  have hB : FR w0 Ds bs_ w := hF.sub (List.sublist_append_left _ _)
  have hB' : FR w0 Ds bs_ w' := hB.touch hE (fun b hb => by
    obtain ⟨r, hr, rfl⟩ := List.mem_map.1 hb
    refine ⟨fun h => (hD r hr).resolve_left by_Om, fun z hz e => hd.2.2 z hz r hr e.symm⟩)
  refine ⟨hB'.same, fun q hq => ?_, ?_⟩
  · rw [List.append_nil] at hq
    rcases List.mem_append.1 hq with h | h
    · exact hB'.own q h
    · refine ⟨hT.2.2 q h, ?_⟩
      rcases hn q h with h1 | h1
      · exact .inl (Nat.le_trans hF.same.size h1)
      · obtain ⟨r, hr, e⟩ := List.mem_map.1 h1
        rw [← e]; exact hD r hr
  · rw [List.append_nil, List.pairwise_append]
    refine ⟨hd.1, hT.pw, fun z hz r hr e => ?_⟩
    rcases hn r hr with h1 | h1
    · have := Jb (hB.memHeap hz); omega
    · obtain ⟨r', hr', e'⟩ := List.mem_map.1 h1
      exact hd.2.2 z hz r' hr' (e'.trans e)
theorem FR.repS {S : Nat → Prop} {d : D} {cs : List Value} (hF : FR w0 Ds bs_ w) (hR : Rep S w0 d cs) (hS : ∀ b, S b → b < w0.heap.size ∧ b ∉ Ds) : Rep S w d cs := hR.same hF.same (fun b hb hs => (hS b hs).2 hb)
theorem Es (a : Addr) (n : Nat) : (a.add n).block = a.block := by unfold Addr.add; split <;> rfl
theorem Q2 {E : List Nat} (hE : Same E w w') {a : Addr} {v : Value} (hb : a.block ∉ E) (h : w.cell? a = some v) : w'.cell? a = some v := by
  rw [← h]; exact World.cell?_of_block (w := w) (hE.block _ (World.block_lt_of_cell? _ _ h) hb)
theorem Rep.tree_block {S : Nat → Prop} {xs : List Tree} {ad : Addr} {len c : Nat} (h : Rep S w (.slice (Je xs)) [.slice (some ad) len c]) (hi : 0 < xs.length) : S ad.block := by
  obtain ⟨A', c', hA, _, _, hr⟩ := Rep.slice_inv h
  simp only [List.cons.injEq, Value.slice.injEq, and_true] at hA
  have hne : Je xs ≠ [] := fun e => by have := congrArg List.length e; rw [Hg, List.length_nil] at this; omega
  obtain ⟨ad', e, es, hc, hl⟩ := hr hne
  have e2 : some ad = some ad' := hA.1.trans e
  cases e2
  have hg := (hl.get (sz := 4) (fun d hd => by rw [Cj] at hd; obtain ⟨k, _, rfl⟩ := List.mem_map.1 hd; exact Ac k) 0 (by rw [Hg]; omega)).2
  exact (hc 0 by_Om).2
end
def CJ (x : Tree) : Prop := ∀ (S : Nat → Prop) (w0 : World) (cs : List Value) (ls : List Str) (fs : List Int) (A1 : Option Addr) (c1 : Nat) (sl : List (Nat × Obj)) (A2 : Option Addr) (c2 : Nat) (sf : List (Nat × Obj)), Two w0 A1 c1 sl ls A2 c2 sf fs → Rep S w0 (Gc x) cs → (∀ q ∈ sl ++ sf, ¬ S q.1) → Yd nodeB x = true → Ec x ≤ 1000000000 → Ae x ≤ 16777216 → ls.length = fs.length → ls.length + (Ge x).length ≤ 512 →
  Calls prog 39 #[.agg #[.slice A1 ls.length c1, .slice A2 fs.length c2], .agg cs.toArray] w0 (Ce fun v w' => ∃ (A1' : Option Addr) (c1' : Nat) (sl' : List (Nat × Obj)) (A2' : Option Addr) (c2' : Nat) (sf' : List (Nat × Obj)), v = .agg #[.slice A1' (ls ++ Ge x).length c1', .slice A2' (fs ++ Jf x ls.length).length c2'] ∧ Two w' A1' c1' sl' (ls ++ Ge x) A2' c2' sf' (fs ++ Jf x ls.length) ∧ (∀ q ∈ sl' ++ sf', w0.heap.size ≤ q.1 ∨ q.1 ∈ ((sl ++ sf).map (·.1))) ∧ Same ((sl ++ sf).map (·.1)) w0 w')
theorem CP (k : Int) (t : Str) (ks : List Str) (xs : List Tree) (ih : ∀ x ∈ xs, CJ x) (A D : Option Addr) (c e : Nat) (S : Nat → Prop) (w0 : World) (ls : List Str) (fs : List Int) (A1 : Option Addr) (c1 : Nat) (sl : List (Nat × Obj)) (A2 : Option Addr) (c2 : Nat) (sf : List (Nat × Obj)) (hT : Two w0 A1 c1 sl ls A2 c2 sf fs) (hR : Rep S w0 (Gc (.node k t ks xs)) [.int .i64 k, .string (bs t), .slice A ks.length c, .slice D xs.length e]) (hS : ∀ b, S b → b < w0.heap.size ∧ b ∉ ((sl ++ sf).map (·.1))) (hn : Yd nodeB (.node k t ks xs) = true) (hsz : Ec (.node k t ks xs) ≤ 1000000000) (hm : Ae (.node k t ks xs) ≤ 16777216) (hlf : ls.length = fs.length) (hlen : ls.length + (Ge (.node k t ks xs)).length ≤ 512) (hk : k = 5) : Calls prog 39 #[.agg #[.slice A1 ls.length c1, .slice A2 fs.length c2], .agg #[.int .i64 k, .string (bs t), .slice A ks.length c, .slice D xs.length e]] w0 (Ce fun v w' => ∃ (A1' : Option Addr) (c1' : Nat) (sl' : List (Nat × Obj)) (A2' : Option Addr) (c2' : Nat) (sf' : List (Nat × Obj)), v = .agg #[.slice A1' (ls ++ Ge (.node k t ks xs)).length c1', .slice A2' (fs ++ Jf (.node k t ks xs) ls.length).length c2'] ∧ Two w' A1' c1' sl' (ls ++ Ge (.node k t ks xs)) A2' c2' sf' (fs ++ Jf (.node k t ks xs) ls.length) ∧ (∀ q ∈ sl' ++ sf', w0.heap.size ≤ q.1 ∨ q.1 ∈ ((sl ++ sf).map (·.1))) ∧ Same ((sl ++ sf).map (·.1)) w0 w') := by
 obtain ⟨hn1, hns⟩ := Uf hn
 have hsz1 : Zc xs + 1 ≤ 1000000000 := by rw [Ec] at hsz; omega
 have hm1 : t.length ≤ 16777216 ∧ Oj xs ≤ 16777216 ∧ Ok ks ≤ 16777216 := by rw [Ae] at hm; omega
 obtain ⟨A_, c_, D_, e_, hcs, -, -, hK, hX⟩ := hR.tree_inv
 obtain ⟨rfl, rfl, rfl, rfl⟩ : A = A_ ∧ c = c_ ∧ D = D_ ∧ e = e_ := by simp only [List.cons.injEq, Value.slice.injEq, and_true, true_and] at hcs; exact ⟨hcs.1.1, hcs.1.2, hcs.2.1, hcs.2.2⟩
 have hXl := hX.slice_len
 have hKl := hK.slice_len
 clear hcs
 have hlp := Ey (.node k t ks xs)
 obtain ⟨hL, hN, hh⟩ := hT
 have FT : ls.length + (Gg xs).length + 1 ≤ 512 := by rw [Ge, if_pos hk, List.length_append, List.length_singleton] at hlen; omega
 refine Ma func39 rfl ntmps39 Qb (Wd _ _) ?_
 have hF := Two.start ⟨hL, hN, hh⟩
 refine Ha ?_
 refine Bh hF rfl ?_
 clear hF; rintro b1 w hb1 hF -
 refine Bh hF rfl ?_
 clear hF; rintro b2 w hb2 hF -
 refine Af (cs := #[.slice none 0 0, .slice none 0 0]) hF zeroValue30 rfl ?_
 clear hF; rintro b3 w hb3 hF -
 refine Yb (Ca (Fc Ed rfl) (Uc (Mf isAgg22 rfl hF.F 2 rfl rfl) (Ca (Ji underlying22 rfl) (Ca (Kb rfl) (Yb (Ca (Ld rfl) (Cb ?_)))))))
 refine Ja (Ia (Ha (Ca (Fc Ke rfl) (Uc (Nm isAgg3 rfl hF.F 1 rfl rfl) (Fa (v := .bool false) (Dd (Bg rfl rfl) by_Om) (Da (Ni rfl (Ia (Ia ?_)))))))))
 refine Ga (Ca (Fc Ke rfl) (Uc (Nm isAgg3 rfl hF.F 1 rfl rfl) (Fa (v := .bool false) (Dd (Ri rfl rfl) by_Om) (Ca (Jc rfl) (Ea (Ea (Ea (Ca (Dc rfl rfl) (Da (Ni rfl ?_))))))))))
 refine Ia (Ha (Ca (Kb rfl) (Da (Db ?_))))
 refine Xc (fun μ σ w => ∃ (j : Nat), ∃ (l1 : List Str), ∃ (f1 : List Int), ∃ (P1 : Option Addr), ∃ (q1 : Nat), ∃ (sl1 : List (Nat × Obj)), ∃ (P2 : Option Addr), ∃ (q2 : Nat), ∃ (sf1 : List (Nat × Obj)), μ = xs.length - j ∧ (j ≤ xs.length) ∧ (l1 = ls ++ Gg (xs.take j)) ∧ (f1 = fs ++ Gj (xs.take j) ls.length) ∧ (l1.length = f1.length) ∧ (SlB 9 1 P1 l1.length q1 (Gs l1) sl1) ∧ (SlB 3 1 P2 f1.length q2 (Is f1) sf1) ∧ AllEq σ [(2, .pointer (some ⟨b1, 0, none⟩)), (3, .pointer (some ⟨b2, 0, none⟩)), (4, .pointer (some ⟨b3, 0, none⟩)), (5, .int .i64 ((ls.length : Nat))), (6, .string (bs [91])), (7, .int .i64 ((j : Int)))] ∧ FR w0 ((sl ++ sf).map (·.1)) ([(b3, .cells #[.slice none 0 0, .slice none 0 0] 30), (b2, .cells #[.int .i64 k, .string (bs t), .slice A ks.length c, .slice D xs.length e] 25), (b1, .cells #[.slice P1 l1.length q1, .slice P2 f1.length q2] 30)] ++ (sl1 ++ (sf1 ++ []))) w) _ ⟨0, ls, fs, A1, c1, sl, A2, c2, sf, rfl, (Nat.zero_le _), (by simp [Gg, Df]), (by simp [Gj, Si]), (hlf), (hL), (hN), Xt, hF⟩ ?_
 clear hF; rintro μ σ w ⟨j, l1, f1, P1, q1, sl1, P2, q2, sf1, rfl, hj, hl1, hf1, hlf1, hL1, hN1, hs, hF⟩
 refine Cg.slots hs ?_
 clear hs; intro σ
 have hl1n := congrArg List.length hl1
 have hle := Oo xs j
 simp only [List.length_append] at hl1n
 refine Ia (Ha (Ca (Za rfl) (Ca (Fc Vc rfl) (Uc (Mf isAgg23 rfl hF.F 1 rfl rfl) (Ca (Ji underlying23 rfl) (Ca (Fj rfl rfl) (Da ?_)))))))
 refine Bc rfl rfl (fun hc2 => ?_) (fun hc2 => ?_)
 refine Ra (Ja (Ia (Db (Ha (Ca (Fc Ed rfl) (Uc (Mf isAgg22 rfl hF.F 2 rfl rfl) (Ca (Ji underlying22 rfl) (Ca (Kb rfl) (Da (Ia ?_))))))))))
 have hXw := hF.repS hX hS
 obtain ⟨adx, cx, hAx, hlx, hkx, hrx⟩ := hXw.tree_elem (i := j) by_Om
 have hox := hrx.one_
 have hblk : S adx.block := (show Rep S w0 (.slice (Je xs)) [.slice (some adx) xs.length e] by rw [← hAx]; exact hX).tree_block by_Om
 have hst := congrArg List.length (Kn xs j by_Om)
 have hl1n := congrArg List.length hl1
 have hle := Oo xs (j + 1)
 simp only [List.length_append, List.length_cons, List.length_nil] at hst hl1n
 clear hXw
 refine De [7] (.free 0 (.free 1 (.free 2 (.free 3 (.free 4 (.free 5 (.act 6 (.act 7 .nil)))))))) hF ?_
 clear hF; intro w hF hE
 replace hkx := fun q h => hE.cell (hkx q h)
 replace hrx := hrx.ext hE
 clear hE
 refine ⟨fun wq => FR w0 ((sl ++ sf).map (·.1)) [(b3, .cells #[.slice none 0 0, .slice none 0 0] 30), (b2, .cells #[.int .i64 k, .string (bs t), .slice A ks.length c, .slice D xs.length e] 25), (b1, .cells #[.slice P1 l1.length q1, .slice P2 f1.length q2] 30)] wq ∧ ∀ q (h : q < cx.length), wq.cell? ((adx.add (j * 4)).add q) = some cx[q], ⟨hF.sub (.cons_cons _ (.cons_cons _ (.cons_cons _ (List.nil_sublist _)))), hkx⟩, ?_⟩
 refine Bk rfl (Bi isAgg30 sizeOf30 rfl C1 2 rfl rfl) (Eb rfl (Fc Vc rfl) (Bk rfl (Mf isAgg23 rfl C1 1 rfl rfl) (Eb rfl (Za rfl) (Ib rfl (v := .pointer (some (adx.add (j * 4)))) (fun w hC => Ya (i := ((j : Nat) : Int)) Sj rfl hAx rfl by_Om by_Om) (Ib rfl (v := .agg (List.toArray cx)) (fun w hC => Rb (l := cx) isAgg25 sizeOf25 rfl hlx hC.2) ?_)))))
 refine Xf rfl (ih xs[j] (List.getElem_mem by_Om) S _ cx l1 f1 P1 q1 sl1 P2 q2 sf1 (hF.two hL1 hN1) hrx (fun q hq h => by have h1 := hS q.1 h; rcases hF.two_new q hq with h2 | h2; (omega); (exact h1.2 h2)) (hns _ (List.getElem_mem by_Om)) (by have := If (List.getElem_mem (l := xs) (n := j) by_Om); omega) (by have := Pg (List.getElem_mem (l := xs) (n := j) by_Om); omega) hlf1 by_Om) (Pa TI rfl rfl rfl) ?_
 rintro _ w ⟨A3, c3, sl3, A4, c4, sf3, rfl, hT3, hn3, hE⟩
 have hoff : adx.block ∉ (sl1 ++ sf1).map (·.1) := fun hm => by obtain ⟨q, hq, e⟩ := List.mem_map.1 hm; have h1 := hS adx.block hblk; rcases hF.two_new q hq with h2 | h2; (omega); (exact h1.2 (e ▸ h2))
 replace hkx := fun q h => Q2 hE (by rw [Es, Es]; exact hoff) (hkx q h)
 replace hF := hF.swap hE hT3 hn3
 obtain ⟨hL3, hN3, -⟩ := hT3
 clear hE hn3 hrx
 refine ⟨⟨hF.sub (.cons_cons _ (.cons_cons _ (.cons_cons _ (List.nil_sublist _)))), hkx⟩, ?_⟩
 refine Fh rfl 2 (l := [.slice (A3) ((l1 ++ Ge xs[j]).length) (c3), .slice (A4) ((f1 ++ Jf xs[j] l1.length).length) (c4)]) (cs' := #[.slice (A3) ((l1 ++ Ge xs[j]).length) (c3), .slice (A4) ((f1 ++ Jf xs[j] l1.length).length) (c4)]) hF sizeOf30 rfl (v := .agg #[.slice (A3) ((l1 ++ Ge xs[j]).length) (c3), .slice (A4) ((f1 ++ Jf xs[j] l1.length).length) (c4)]) rfl rfl Se rfl Qb rfl ?_
 clear hF; rintro w hF -
 replace hF : FR w0 ((sl ++ sf).map (·.1)) ([(b3, .cells #[.slice none 0 0, .slice none 0 0] 30), (b2, .cells #[.int .i64 k, .string (bs t), .slice A ks.length c, .slice D xs.length e] 25), (b1, .cells #[.slice (A3) ((l1 ++ Ge xs[j]).length) (c3), .slice (A4) ((f1 ++ Jf xs[j] l1.length).length) (c4)] 30)] ++ (sl3 ++ (sf3 ++ []))) w := hF
 refine Ic (Ja (Ha (Ca (Fc Ke rfl) (Uc (Nm isAgg3 rfl hF.F 1 rfl rfl) (Fa (v := .bool false) (Dd (Bg rfl rfl) by_Om) (Da (Xe rfl (Ra (Wb (Ja (Ga ?_)))))))))))
 refine Ca (Za rfl) (Ca (Di (((j + 1 : Nat) : Int)) rfl rfl) (Ca (Kb rfl) (Cb ?_)))
 refine Gb ⟨_, ?_, j + 1, l1 ++ Ge xs[j], f1 ++ Jf xs[j] l1.length, A3, c3, sl3, A4, c4, sf3, rfl, by_Om, (by rw [hl1, Kn xs j by_Om]; simp only [List.append_assoc]), (by rw [hf1, Tt xs j by_Om, show ls.length + (Gg (xs.take j)).length = l1.length by rw [hl1, List.length_append]]; simp only [List.append_assoc]), (by simp only [List.length_append, Gf, List.length_cons, List.length_nil]; omega), (hL3), (hN3), Xt, hF⟩
 omega
 refine Oc (Nc rfl ?_)
 refine Ja (Ha (Ca (Fc Ed rfl) (Uc (Mf isAgg22 rfl hF.F 2 rfl rfl) (Ca (Pc rfl) ?_))))
 refine Yh 1 hF (Ka (cs := #[.string (bs [91])]) underlying22 sizeOf9 zeroValue9 Oa Oa Fb) ?_
 clear hF; rintro b4 w hb4 hF -
 refine Rg [(b4, .cells #[.string (bs [91])] 9), (b3, .cells #[.slice none 0 0, .slice none 0 0] 30), (b2, .cells #[.int .i64 k, .string (bs t), .slice A ks.length c, .slice D xs.length e] 25), (b1, .cells #[.slice P1 l1.length q1, .slice P2 f1.length q2] 30)] (sf1 ++ []) (news := [.string (bs [91])]) (len' := (l1 ++ [[91]]).length) (ys := Gs (l1 ++ [[91]])) Dn hF hL1 rfl rfl (rfl) (fun _ => ⟨_, rfl, Qc (hF.cellsAll 0 rfl)⟩) (by simp [Value.oneCell']) (by simp only [maxLen, List.length_append, Gf]; omega) (by simp only [List.length_append, List.length_cons, List.length_nil] <;> omega) (by simp [Gs]) (by (try simp only [List.length_append, Gf]); omega) ?_
 clear hF; intro A0 c0 L_0 w hS0_L hF hE hnew
 clear hE hnew
 refine Ca (Fc Ed rfl) ?_
 refine Pe 3 (l := [.slice (A0) ((l1 ++ [[91]]).length) (c0)]) (cs' := #[.slice (A0) ((l1 ++ [[91]]).length) (c0), .slice P2 f1.length q2]) hF sizeOf22 rfl (v := .slice (A0) ((l1 ++ [[91]]).length) (c0)) rfl rfl Se rfl Qb rfl ?_
 clear hF; rintro w hF -
 replace hF : FR w0 ((sl ++ sf).map (·.1)) ([(b4, .cells #[.string (bs [91])] 9), (b3, .cells #[.slice none 0 0, .slice none 0 0] 30), (b2, .cells #[.int .i64 k, .string (bs t), .slice A ks.length c, .slice D xs.length e] 25), (b1, .cells #[.slice (A0) ((l1 ++ [[91]]).length) (c0), .slice P2 f1.length q2] 30)] ++ (L_0 ++ (sf1 ++ []))) w := hF
 refine Yb (Ca (Fc Kd rfl) (Uc (Mf isAgg28 rfl hF.F 3 rfl rfl) (Ca (Za rfl) ?_)))
 refine Yh 1 hF (Ka (cs := #[.int .i64 ((ls.length : Nat))]) underlying28 sizeOf3 zeroValue3 Oa Oa Fb) ?_
 clear hF; rintro b5 w hb5 hF -
 refine Rg ([(b5, .cells #[.int .i64 ((ls.length : Nat))] 3), (b4, .cells #[.string (bs [91])] 9), (b3, .cells #[.slice none 0 0, .slice none 0 0] 30), (b2, .cells #[.int .i64 k, .string (bs t), .slice A ks.length c, .slice D xs.length e] 25), (b1, .cells #[.slice (A0) ((l1 ++ [[91]]).length) (c0), .slice P2 f1.length q2] 30)] ++ L_0) [] (news := [.int .i64 ((ls.length : Nat))]) (len' := (f1 ++ [(ls.length : Int)]).length) (ys := Is (f1 ++ [(ls.length : Int)])) Ck hF hN1 rfl rfl (rfl) (fun _ => ⟨_, rfl, Qc (hF.cellsAll 0 rfl)⟩) (by simp [Value.oneCell']) (by simp only [maxLen, List.length_append, Gf]; omega) (by simp only [List.length_append, List.length_cons, List.length_nil] <;> omega) (by simp [Is]) (by (try simp only [List.length_append, Gf]); omega) ?_
 clear hF; intro A1 c1 N_1 w hS1_N hF hE hnew
 clear hE hnew
 refine Ca (Fc Kd rfl) ?_
 refine Pe 4 (l := [.slice (A1) ((f1 ++ [(ls.length : Int)]).length) (c1)]) (cs' := #[.slice (A0) ((l1 ++ [[91]]).length) (c0), .slice (A1) ((f1 ++ [(ls.length : Int)]).length) (c1)]) hF sizeOf28 rfl (v := .slice (A1) ((f1 ++ [(ls.length : Int)]).length) (c1)) rfl rfl Se rfl Qb rfl ?_
 clear hF; rintro w hF -
 replace hF : FR w0 ((sl ++ sf).map (·.1)) ([(b5, .cells #[.int .i64 ((ls.length : Nat))] 3), (b4, .cells #[.string (bs [91])] 9), (b3, .cells #[.slice none 0 0, .slice none 0 0] 30), (b2, .cells #[.int .i64 k, .string (bs t), .slice A ks.length c, .slice D xs.length e] 25), (b1, .cells #[.slice (A0) ((l1 ++ [[91]]).length) (c0), .slice (A1) ((f1 ++ [(ls.length : Int)]).length) (c1)] 30)] ++ (L_0 ++ (N_1 ++ []))) w := hF
 refine Yb (Uc (Bi isAgg30 sizeOf30 rfl hF.F 4 rfl rfl) ?_)
 refine Pe 2 (l := [.slice (A0) ((l1 ++ [[91]]).length) (c0), .slice (A1) ((f1 ++ [(ls.length : Int)]).length) (c1)]) (cs' := #[.slice (A0) ((l1 ++ [[91]]).length) (c0), .slice (A1) ((f1 ++ [(ls.length : Int)]).length) (c1)]) hF sizeOf30 rfl (v := .agg #[.slice (A0) ((l1 ++ [[91]]).length) (c0), .slice (A1) ((f1 ++ [(ls.length : Int)]).length) (c1)]) rfl rfl Se rfl Qb rfl ?_
 clear hF; rintro w hF -
 replace hF : FR w0 ((sl ++ sf).map (·.1)) ([(b5, .cells #[.int .i64 ((ls.length : Nat))] 3), (b4, .cells #[.string (bs [91])] 9), (b3, .cells #[.slice (A0) ((l1 ++ [[91]]).length) (c0), .slice (A1) ((f1 ++ [(ls.length : Int)]).length) (c1)] 30), (b2, .cells #[.int .i64 k, .string (bs t), .slice A ks.length c, .slice D xs.length e] 25), (b1, .cells #[.slice (A0) ((l1 ++ [[91]]).length) (c0), .slice (A1) ((f1 ++ [(ls.length : Int)]).length) (c1)] 30)] ++ (L_0 ++ (N_1 ++ []))) w := hF
 refine Da ?_
 refine Pb (Ob (Qa (Qk rfl (l := [.slice (A0) ((l1 ++ [[91]]).length) (c0), .slice (A1) ((f1 ++ [(ls.length : Int)]).length) (c1)]) rfl isAgg30 sizeOf30 rfl (hF.cellsAll 2 rfl)) ?_))
 have e1 : ls ++ Ge (.node k t ks xs) = l1 ++ [[91]] := by rw [hl1, List.take_of_length_le by_Om, Ge, if_pos hk]; simp only [List.append_assoc]
 have e2 : fs ++ Jf (.node k t ks xs) ls.length = f1 ++ [(ls.length : Int)] := by rw [hf1, List.take_of_length_le by_Om, Jf, if_pos hk]; simp only [List.append_assoc]
 rw [e1, e2]
 exact ⟨A0, c0, L_0, A1, c1, N_1, rfl, hF.two hS0_L hS1_N, hF.two_new, hF.same⟩
theorem OO (k : Int) (t : Str) (ks : List Str) (xs : List Tree) (ih : ∀ x ∈ xs, CJ x) (A D : Option Addr) (c e : Nat) (S : Nat → Prop) (w0 : World) (ls : List Str) (fs : List Int) (A1 : Option Addr) (c1 : Nat) (sl : List (Nat × Obj)) (A2 : Option Addr) (c2 : Nat) (sf : List (Nat × Obj)) (hT : Two w0 A1 c1 sl ls A2 c2 sf fs) (hR : Rep S w0 (Gc (.node k t ks xs)) [.int .i64 k, .string (bs t), .slice A ks.length c, .slice D xs.length e]) (hS : ∀ b, S b → b < w0.heap.size ∧ b ∉ ((sl ++ sf).map (·.1))) (hn : Yd nodeB (.node k t ks xs) = true) (hsz : Ec (.node k t ks xs) ≤ 1000000000) (hm : Ae (.node k t ks xs) ≤ 16777216) (hlf : ls.length = fs.length) (hlen : ls.length + (Ge (.node k t ks xs)).length ≤ 512) (hk : k = 6) : Calls prog 39 #[.agg #[.slice A1 ls.length c1, .slice A2 fs.length c2], .agg #[.int .i64 k, .string (bs t), .slice A ks.length c, .slice D xs.length e]] w0 (Ce fun v w' => ∃ (A1' : Option Addr) (c1' : Nat) (sl' : List (Nat × Obj)) (A2' : Option Addr) (c2' : Nat) (sf' : List (Nat × Obj)), v = .agg #[.slice A1' (ls ++ Ge (.node k t ks xs)).length c1', .slice A2' (fs ++ Jf (.node k t ks xs) ls.length).length c2'] ∧ Two w' A1' c1' sl' (ls ++ Ge (.node k t ks xs)) A2' c2' sf' (fs ++ Jf (.node k t ks xs) ls.length) ∧ (∀ q ∈ sl' ++ sf', w0.heap.size ≤ q.1 ∨ q.1 ∈ ((sl ++ sf).map (·.1))) ∧ Same ((sl ++ sf).map (·.1)) w0 w') := by
 obtain ⟨hn1, hns⟩ := Uf hn
 have hsz1 : Zc xs + 1 ≤ 1000000000 := by rw [Ec] at hsz; omega
 have hm1 : t.length ≤ 16777216 ∧ Oj xs ≤ 16777216 ∧ Ok ks ≤ 16777216 := by rw [Ae] at hm; omega
 obtain ⟨A_, c_, D_, e_, hcs, -, -, hK, hX⟩ := hR.tree_inv
 obtain ⟨rfl, rfl, rfl, rfl⟩ : A = A_ ∧ c = c_ ∧ D = D_ ∧ e = e_ := by simp only [List.cons.injEq, Value.slice.injEq, and_true, true_and] at hcs; exact ⟨hcs.1.1, hcs.1.2, hcs.2.1, hcs.2.2⟩
 have hXl := hX.slice_len
 have hKl := hK.slice_len
 clear hcs
 have hlp := Ey (.node k t ks xs)
 obtain ⟨hL, hN, hh⟩ := hT
 have FT : ls.length + (Df xs ks).length + 1 ≤ 512 := by rw [Ge, if_neg by_Om, if_pos hk, List.length_append, List.length_singleton] at hlen; omega
 have hkx6 : ks.length = xs.length := (Kq (hk ▸ hn1)).2
 refine Ma func39 rfl ntmps39 Qb (Wd _ _) ?_
 have hF := Two.start ⟨hL, hN, hh⟩
 refine Ha ?_
 refine Bh hF rfl ?_
 clear hF; rintro b1 w hb1 hF -
 refine Bh hF rfl ?_
 clear hF; rintro b2 w hb2 hF -
 refine Af (cs := #[.slice none 0 0, .slice none 0 0]) hF zeroValue30 rfl ?_
 clear hF; rintro b3 w hb3 hF -
 refine Yb (Ca (Fc Ed rfl) (Uc (Mf isAgg22 rfl hF.F 2 rfl rfl) (Ca (Ji underlying22 rfl) (Ca (Kb rfl) (Yb (Ca (Ld rfl) (Cb ?_)))))))
 refine Ja (Ia (Ha (Ca (Fc Ke rfl) (Uc (Nm isAgg3 rfl hF.F 1 rfl rfl) (Fa (v := .bool true) (Sc (Bg rfl rfl) by_Om) (Da (Qd rfl (Ga (Ca (Ld rfl) (Da ?_))))))))))
 refine Ia (Ha (Ca (Fc Ke rfl) (Uc (Nm isAgg3 rfl hF.F 1 rfl rfl) (Fa (v := .bool true) (Sc (Ri rfl rfl) by_Om) (Ca (Jc rfl) (Ca (Fc Ke rfl) (Uc (Nm isAgg3 rfl hF.F 1 rfl rfl) (Fa (v := .bool false) (Dd (Ri rfl rfl) by_Om) (Ca (Lc rfl rfl) (Da (Xe rfl ?_)))))))))))
 refine Ra (Ja (Ia (Ha (Ca (Kb rfl) (Da (Db ?_))))))
 refine Xc (fun μ σ w => ∃ (j : Nat), ∃ (l1 : List Str), ∃ (f1 : List Int), ∃ (P1 : Option Addr), ∃ (q1 : Nat), ∃ (sl1 : List (Nat × Obj)), ∃ (P2 : Option Addr), ∃ (q2 : Nat), ∃ (sf1 : List (Nat × Obj)), μ = xs.length - j ∧ (j ≤ xs.length) ∧ (l1 = ls ++ Df (xs.take j) ks) ∧ (f1 = fs ++ Si (xs.take j) ks ls.length) ∧ (l1.length = f1.length) ∧ (SlB 9 1 P1 l1.length q1 (Gs l1) sl1) ∧ (SlB 3 1 P2 f1.length q2 (Is f1) sf1) ∧ AllEq σ [(2, .pointer (some ⟨b1, 0, none⟩)), (3, .pointer (some ⟨b2, 0, none⟩)), (4, .pointer (some ⟨b3, 0, none⟩)), (5, .int .i64 ((ls.length : Nat))), (6, .string (bs [123])), (7, .int .i64 ((j : Int)))] ∧ FR w0 ((sl ++ sf).map (·.1)) ([(b3, .cells #[.slice none 0 0, .slice none 0 0] 30), (b2, .cells #[.int .i64 k, .string (bs t), .slice A ks.length c, .slice D xs.length e] 25), (b1, .cells #[.slice P1 l1.length q1, .slice P2 f1.length q2] 30)] ++ (sl1 ++ (sf1 ++ []))) w) _ ⟨0, ls, fs, A1, c1, sl, A2, c2, sf, rfl, (Nat.zero_le _), (by simp [Gg, Df]), (by simp [Gj, Si]), (hlf), (hL), (hN), Xt, hF⟩ ?_
 clear hF; rintro μ σ w ⟨j, l1, f1, P1, q1, sl1, P2, q2, sf1, rfl, hj, hl1, hf1, hlf1, hL1, hN1, hs, hF⟩
 refine Cg.slots hs ?_
 clear hs; intro σ
 have hl1n := congrArg List.length hl1
 have hle := Mo xs ks j
 simp only [List.length_append] at hl1n
 refine Ia (Ha (Ca (Za rfl) (Ca (Fc Vc rfl) (Uc (Mf isAgg23 rfl hF.F 1 rfl rfl) (Ca (Ji underlying23 rfl) (Ca (Fj rfl rfl) (Da ?_)))))))
 refine Bc rfl rfl (fun hc2 => ?_) (fun hc2 => ?_)
 refine Ra (Ja (Ia (Db (Ha (Ca (Fc Ed rfl) (Uc (Mf isAgg22 rfl hF.F 2 rfl rfl) (Ca (Ji underlying22 rfl) (Ca (Kb rfl) (Da (Ia ?_))))))))))
 have hXw := hF.repS hX hS
 obtain ⟨adx, cx, hAx, hlx, hkx, hrx⟩ := hXw.tree_elem (i := j) by_Om
 have hox := hrx.one_
 have hblk : S adx.block := (show Rep S w0 (.slice (Je xs)) [.slice (some adx) xs.length e] by rw [← hAx]; exact hX).tree_block by_Om
 have hst := congrArg List.length (In xs ks j by_Om by_Om)
 have hl1n := congrArg List.length hl1
 have hle := Mo xs ks (j + 1)
 simp only [List.length_append, List.length_cons, List.length_nil] at hst hl1n
 clear hXw
 refine De [7] (.free 0 (.free 1 (.free 2 (.free 3 (.free 4 (.free 5 (.act 6 (.act 7 .nil)))))))) hF ?_
 clear hF; intro w hF hE
 replace hkx := fun q h => hE.cell (hkx q h)
 replace hrx := hrx.ext hE
 clear hE
 refine ⟨fun wq => FR w0 ((sl ++ sf).map (·.1)) [(b3, .cells #[.slice none 0 0, .slice none 0 0] 30), (b2, .cells #[.int .i64 k, .string (bs t), .slice A ks.length c, .slice D xs.length e] 25), (b1, .cells #[.slice P1 l1.length q1, .slice P2 f1.length q2] 30)] wq ∧ ∀ q (h : q < cx.length), wq.cell? ((adx.add (j * 4)).add q) = some cx[q], ⟨hF.sub (.cons_cons _ (.cons_cons _ (.cons_cons _ (List.nil_sublist _)))), hkx⟩, ?_⟩
 refine Bk rfl (Bi isAgg30 sizeOf30 rfl C1 2 rfl rfl) (Eb rfl (Fc Vc rfl) (Bk rfl (Mf isAgg23 rfl C1 1 rfl rfl) (Eb rfl (Za rfl) (Ib rfl (v := .pointer (some (adx.add (j * 4)))) (fun w hC => Ya (i := ((j : Nat) : Int)) Sj rfl hAx rfl by_Om by_Om) (Ib rfl (v := .agg (List.toArray cx)) (fun w hC => Rb (l := cx) isAgg25 sizeOf25 rfl hlx hC.2) ?_)))))
 refine Xf rfl (ih xs[j] (List.getElem_mem by_Om) S _ cx l1 f1 P1 q1 sl1 P2 q2 sf1 (hF.two hL1 hN1) hrx (fun q hq h => by have h1 := hS q.1 h; rcases hF.two_new q hq with h2 | h2; (omega); (exact h1.2 h2)) (hns _ (List.getElem_mem by_Om)) (by have := If (List.getElem_mem (l := xs) (n := j) by_Om); omega) (by have := Pg (List.getElem_mem (l := xs) (n := j) by_Om); omega) hlf1 by_Om) (Pa TI rfl rfl rfl) ?_
 rintro _ w ⟨A3, c3, sl3, A4, c4, sf3, rfl, hT3, hn3, hE⟩
 have hoff : adx.block ∉ (sl1 ++ sf1).map (·.1) := fun hm => by obtain ⟨q, hq, e⟩ := List.mem_map.1 hm; have h1 := hS adx.block hblk; rcases hF.two_new q hq with h2 | h2; (omega); (exact h1.2 (e ▸ h2))
 replace hkx := fun q h => Q2 hE (by rw [Es, Es]; exact hoff) (hkx q h)
 replace hF := hF.swap hE hT3 hn3
 obtain ⟨hL3, hN3, -⟩ := hT3
 clear hE hn3 hrx
 refine ⟨⟨hF.sub (.cons_cons _ (.cons_cons _ (.cons_cons _ (List.nil_sublist _)))), hkx⟩, ?_⟩
 refine Fh rfl 2 (l := [.slice (A3) ((l1 ++ Ge xs[j]).length) (c3), .slice (A4) ((f1 ++ Jf xs[j] l1.length).length) (c4)]) (cs' := #[.slice (A3) ((l1 ++ Ge xs[j]).length) (c3), .slice (A4) ((f1 ++ Jf xs[j] l1.length).length) (c4)]) hF sizeOf30 rfl (v := .agg #[.slice (A3) ((l1 ++ Ge xs[j]).length) (c3), .slice (A4) ((f1 ++ Jf xs[j] l1.length).length) (c4)]) rfl rfl Se rfl Qb rfl ?_
 clear hF; rintro w hF -
 replace hF : FR w0 ((sl ++ sf).map (·.1)) ([(b3, .cells #[.slice none 0 0, .slice none 0 0] 30), (b2, .cells #[.int .i64 k, .string (bs t), .slice A ks.length c, .slice D xs.length e] 25), (b1, .cells #[.slice (A3) ((l1 ++ Ge xs[j]).length) (c3), .slice (A4) ((f1 ++ Jf xs[j] l1.length).length) (c4)] 30)] ++ (sl3 ++ (sf3 ++ []))) w := hF
 refine Ic (Ja (Ha (Ca (Fc Ke rfl) (Uc (Nm isAgg3 rfl hF.F 1 rfl rfl) (Fa (v := .bool true) (Sc (Bg rfl rfl) by_Om) (Da (Qd rfl (Ha (Ca (Fc Nf rfl) (Uc (Mf isAgg22 rfl hF.F 1 rfl rfl) ?_))))))))))
 refine Ca (Za rfl) ?_
 have hKw := hF.repS hK hS
 obtain ⟨ad0, hA0, hk0, hx0⟩ := hKw.str_elem (i := j) by_Om
 refine Fa (v := .pointer (some (ad0.add (j * 1)))) (Ya (i := (j : Int)) Pj rfl hA0 rfl by_Om by_Om) (Fa (v := .string (bs (ks[j]))) (Vb isAgg9 rfl hk0) ?_)
 refine Va hF (LP ks[j] _) (Ua ZR rfl rfl) ?_
 clear hF; intro w hF
 refine Va hF (ZA (.node 4 ks[j] [] []) (by simp [Ec, Zc]) (by rw [Bp]; exact (by have := Ch (List.getElem_mem (l := ks) (n := j) by_Om); omega)) (fun _ => True) _ [.int .i64 4, .string (bs ks[j]), .slice none 0 0, .slice none 0 0] (JM (by have := Ch (List.getElem_mem (l := ks) (n := j) by_Om); omega))) (Ua MN rfl rfl) ?_
 clear hF; intro w hF
 refine Ca (Qg rfl) (Ca (M1 rfl rfl) (Ca (Re rfl rfl) (Ca (Ld rfl) (Ca (Kb rfl) (Yb (Ca (Fc Ed rfl) (Uc (Mf isAgg22 rfl hF.F 2 rfl rfl) (Ca (Pc rfl) ?_))))))))
 refine Fa (v := .string (bs (Km ks[j]))) (by rw [← S8 _]; exact Tg rfl rfl (by have := Pr (.node 4 ks[j] [] []) (by rw [Bp]; exact (by have := Ch (List.getElem_mem (l := ks) (n := j) by_Om); omega)); simp only [List.length_cons, List.length_nil]; omega)) ?_
 refine Yh 1 hF (Ka (cs := #[.string (bs (Km ks[j]))]) underlying22 sizeOf9 zeroValue9 Oa Oa Fb) ?_
 clear hF; rintro b4 w hb4 hF -
 refine Rg [(b4, .cells #[.string (bs (Km ks[j]))] 9), (b3, .cells #[.slice none 0 0, .slice none 0 0] 30), (b2, .cells #[.int .i64 k, .string (bs t), .slice A ks.length c, .slice D xs.length e] 25), (b1, .cells #[.slice (A3) ((l1 ++ Ge xs[j]).length) (c3), .slice (A4) ((f1 ++ Jf xs[j] l1.length).length) (c4)] 30)] (sf3 ++ []) (news := [.string (bs (Km ks[j]))]) (len' := (l1 ++ Ge xs[j] ++ [Km ks[j]]).length) (ys := Gs (l1 ++ Ge xs[j] ++ [Km ks[j]])) Dn hF hL3 rfl rfl (rfl) (fun _ => ⟨_, rfl, Qc (hF.cellsAll 0 rfl)⟩) (by simp [Value.oneCell']) (by simp only [maxLen, List.length_append, Gf]; omega) (by simp only [List.length_append, List.length_cons, List.length_nil] <;> omega) (by simp [Gs]) (by (try simp only [List.length_append, Gf]); omega) ?_
 clear hF; intro A1 c1 L_1 w hS1_L hF hE hnew
 clear hE hnew
 refine Ca (Fc Ed rfl) ?_
 refine Pe 3 (l := [.slice (A1) ((l1 ++ Ge xs[j] ++ [Km ks[j]]).length) (c1)]) (cs' := #[.slice (A1) ((l1 ++ Ge xs[j] ++ [Km ks[j]]).length) (c1), .slice (A4) ((f1 ++ Jf xs[j] l1.length).length) (c4)]) hF sizeOf22 rfl (v := .slice (A1) ((l1 ++ Ge xs[j] ++ [Km ks[j]]).length) (c1)) rfl rfl Se rfl Qb rfl ?_
 clear hF; rintro w hF -
 replace hF : FR w0 ((sl ++ sf).map (·.1)) ([(b4, .cells #[.string (bs (Km ks[j]))] 9), (b3, .cells #[.slice none 0 0, .slice none 0 0] 30), (b2, .cells #[.int .i64 k, .string (bs t), .slice A ks.length c, .slice D xs.length e] 25), (b1, .cells #[.slice (A1) ((l1 ++ Ge xs[j] ++ [Km ks[j]]).length) (c1), .slice (A4) ((f1 ++ Jf xs[j] l1.length).length) (c4)] 30)] ++ (L_1 ++ (sf3 ++ []))) w := hF
 refine Da (Ga (Ca (Fc Kd rfl) (Uc (Mf isAgg28 rfl hF.F 3 rfl rfl) (Ca (Za rfl) ?_))))
 refine Yh 1 hF (Ka (cs := #[.int .i64 ((l1.length : Nat))]) underlying28 sizeOf3 zeroValue3 Oa Oa Fb) ?_
 clear hF; rintro b5 w hb5 hF -
 refine Rg ([(b5, .cells #[.int .i64 ((l1.length : Nat))] 3), (b4, .cells #[.string (bs (Km ks[j]))] 9), (b3, .cells #[.slice none 0 0, .slice none 0 0] 30), (b2, .cells #[.int .i64 k, .string (bs t), .slice A ks.length c, .slice D xs.length e] 25), (b1, .cells #[.slice (A1) ((l1 ++ Ge xs[j] ++ [Km ks[j]]).length) (c1), .slice (A4) ((f1 ++ Jf xs[j] l1.length).length) (c4)] 30)] ++ L_1) [] (news := [.int .i64 ((l1.length : Nat))]) (len' := (f1 ++ Jf xs[j] l1.length ++ [(l1.length : Int)]).length) (ys := Is (f1 ++ Jf xs[j] l1.length ++ [(l1.length : Int)])) Ck hF hN3 rfl rfl (rfl) (fun _ => ⟨_, rfl, Qc (hF.cellsAll 0 rfl)⟩) (by simp [Value.oneCell']) (by simp only [maxLen, List.length_append, Gf]; omega) (by simp only [List.length_append, List.length_cons, List.length_nil] <;> omega) (by simp [Is]) (by (try simp only [List.length_append, Gf]); omega) ?_
 clear hF; intro A2 c2 N_2 w hS2_N hF hE hnew
 clear hE hnew
 refine Ca (Fc Kd rfl) ?_
 refine Pe 4 (l := [.slice (A2) ((f1 ++ Jf xs[j] l1.length ++ [(l1.length : Int)]).length) (c2)]) (cs' := #[.slice (A1) ((l1 ++ Ge xs[j] ++ [Km ks[j]]).length) (c1), .slice (A2) ((f1 ++ Jf xs[j] l1.length ++ [(l1.length : Int)]).length) (c2)]) hF sizeOf28 rfl (v := .slice (A2) ((f1 ++ Jf xs[j] l1.length ++ [(l1.length : Int)]).length) (c2)) rfl rfl Se rfl Qb rfl ?_
 clear hF; rintro w hF -
 replace hF : FR w0 ((sl ++ sf).map (·.1)) ([(b5, .cells #[.int .i64 ((l1.length : Nat))] 3), (b4, .cells #[.string (bs (Km ks[j]))] 9), (b3, .cells #[.slice none 0 0, .slice none 0 0] 30), (b2, .cells #[.int .i64 k, .string (bs t), .slice A ks.length c, .slice D xs.length e] 25), (b1, .cells #[.slice (A1) ((l1 ++ Ge xs[j] ++ [Km ks[j]]).length) (c1), .slice (A2) ((f1 ++ Jf xs[j] l1.length ++ [(l1.length : Int)]).length) (c2)] 30)] ++ (L_1 ++ (N_2 ++ []))) w := hF
 refine Cb (Wb (Ja (Ga (Ca (Za rfl) (Ca (Di (((j + 1 : Nat) : Int)) rfl rfl) (Ca (Kb rfl) (Cb ?_)))))))
 refine Gb ⟨_, ?_, j + 1, l1 ++ Ge xs[j] ++ [Km ks[j]], f1 ++ Jf xs[j] l1.length ++ [(l1.length : Int)], A1, c1, L_1, A2, c2, N_2, rfl, by_Om, (by rw [hl1, In xs ks j by_Om by_Om]; simp only [List.append_assoc]), (by rw [hf1, Mt xs ks j by_Om by_Om, show ls.length + (Df (xs.take j) ks).length = l1.length by rw [hl1, List.length_append]]; simp only [List.append_assoc]), (by simp only [List.length_append, Gf, List.length_cons, List.length_nil]; omega), (hS1_L), (hS2_N), Xt, hF.drop 2⟩
 omega
 refine Oc (Nc rfl ?_)
 refine Ja (Ha (Ca (Fc Ed rfl) (Uc (Mf isAgg22 rfl hF.F 2 rfl rfl) (Ca (Pc rfl) ?_))))
 refine Yh 1 hF (Ka (cs := #[.string (bs [123])]) underlying22 sizeOf9 zeroValue9 Oa Oa Fb) ?_
 clear hF; rintro b6 w hb6 hF -
 refine Rg [(b6, .cells #[.string (bs [123])] 9), (b3, .cells #[.slice none 0 0, .slice none 0 0] 30), (b2, .cells #[.int .i64 k, .string (bs t), .slice A ks.length c, .slice D xs.length e] 25), (b1, .cells #[.slice P1 l1.length q1, .slice P2 f1.length q2] 30)] (sf1 ++ []) (news := [.string (bs [123])]) (len' := (l1 ++ [[123]]).length) (ys := Gs (l1 ++ [[123]])) Dn hF hL1 rfl rfl (rfl) (fun _ => ⟨_, rfl, Qc (hF.cellsAll 0 rfl)⟩) (by simp [Value.oneCell']) (by simp only [maxLen, List.length_append, Gf]; omega) (by simp only [List.length_append, List.length_cons, List.length_nil] <;> omega) (by simp [Gs]) (by (try simp only [List.length_append, Gf]); omega) ?_
 clear hF; intro A3 c3 L_3 w hS3_L hF hE hnew
 clear hE hnew
 refine Ca (Fc Ed rfl) ?_
 refine Pe 3 (l := [.slice (A3) ((l1 ++ [[123]]).length) (c3)]) (cs' := #[.slice (A3) ((l1 ++ [[123]]).length) (c3), .slice P2 f1.length q2]) hF sizeOf22 rfl (v := .slice (A3) ((l1 ++ [[123]]).length) (c3)) rfl rfl Se rfl Qb rfl ?_
 clear hF; rintro w hF -
 replace hF : FR w0 ((sl ++ sf).map (·.1)) ([(b6, .cells #[.string (bs [123])] 9), (b3, .cells #[.slice none 0 0, .slice none 0 0] 30), (b2, .cells #[.int .i64 k, .string (bs t), .slice A ks.length c, .slice D xs.length e] 25), (b1, .cells #[.slice (A3) ((l1 ++ [[123]]).length) (c3), .slice P2 f1.length q2] 30)] ++ (L_3 ++ (sf1 ++ []))) w := hF
 refine Yb (Ca (Fc Kd rfl) (Uc (Mf isAgg28 rfl hF.F 3 rfl rfl) (Ca (Za rfl) ?_)))
 refine Yh 1 hF (Ka (cs := #[.int .i64 ((ls.length : Nat))]) underlying28 sizeOf3 zeroValue3 Oa Oa Fb) ?_
 clear hF; rintro b7 w hb7 hF -
 refine Rg ([(b7, .cells #[.int .i64 ((ls.length : Nat))] 3), (b6, .cells #[.string (bs [123])] 9), (b3, .cells #[.slice none 0 0, .slice none 0 0] 30), (b2, .cells #[.int .i64 k, .string (bs t), .slice A ks.length c, .slice D xs.length e] 25), (b1, .cells #[.slice (A3) ((l1 ++ [[123]]).length) (c3), .slice P2 f1.length q2] 30)] ++ L_3) [] (news := [.int .i64 ((ls.length : Nat))]) (len' := (f1 ++ [(ls.length : Int)]).length) (ys := Is (f1 ++ [(ls.length : Int)])) Ck hF hN1 rfl rfl (rfl) (fun _ => ⟨_, rfl, Qc (hF.cellsAll 0 rfl)⟩) (by simp [Value.oneCell']) (by simp only [maxLen, List.length_append, Gf]; omega) (by simp only [List.length_append, List.length_cons, List.length_nil] <;> omega) (by simp [Is]) (by (try simp only [List.length_append, Gf]); omega) ?_
 clear hF; intro A4 c4 N_4 w hS4_N hF hE hnew
 clear hE hnew
 refine Ca (Fc Kd rfl) ?_
 refine Pe 4 (l := [.slice (A4) ((f1 ++ [(ls.length : Int)]).length) (c4)]) (cs' := #[.slice (A3) ((l1 ++ [[123]]).length) (c3), .slice (A4) ((f1 ++ [(ls.length : Int)]).length) (c4)]) hF sizeOf28 rfl (v := .slice (A4) ((f1 ++ [(ls.length : Int)]).length) (c4)) rfl rfl Se rfl Qb rfl ?_
 clear hF; rintro w hF -
 replace hF : FR w0 ((sl ++ sf).map (·.1)) ([(b7, .cells #[.int .i64 ((ls.length : Nat))] 3), (b6, .cells #[.string (bs [123])] 9), (b3, .cells #[.slice none 0 0, .slice none 0 0] 30), (b2, .cells #[.int .i64 k, .string (bs t), .slice A ks.length c, .slice D xs.length e] 25), (b1, .cells #[.slice (A3) ((l1 ++ [[123]]).length) (c3), .slice (A4) ((f1 ++ [(ls.length : Int)]).length) (c4)] 30)] ++ (L_3 ++ (N_4 ++ []))) w := hF
 refine Yb (Uc (Bi isAgg30 sizeOf30 rfl hF.F 4 rfl rfl) ?_)
 refine Pe 2 (l := [.slice (A3) ((l1 ++ [[123]]).length) (c3), .slice (A4) ((f1 ++ [(ls.length : Int)]).length) (c4)]) (cs' := #[.slice (A3) ((l1 ++ [[123]]).length) (c3), .slice (A4) ((f1 ++ [(ls.length : Int)]).length) (c4)]) hF sizeOf30 rfl (v := .agg #[.slice (A3) ((l1 ++ [[123]]).length) (c3), .slice (A4) ((f1 ++ [(ls.length : Int)]).length) (c4)]) rfl rfl Se rfl Qb rfl ?_
 clear hF; rintro w hF -
 replace hF : FR w0 ((sl ++ sf).map (·.1)) ([(b7, .cells #[.int .i64 ((ls.length : Nat))] 3), (b6, .cells #[.string (bs [123])] 9), (b3, .cells #[.slice (A3) ((l1 ++ [[123]]).length) (c3), .slice (A4) ((f1 ++ [(ls.length : Int)]).length) (c4)] 30), (b2, .cells #[.int .i64 k, .string (bs t), .slice A ks.length c, .slice D xs.length e] 25), (b1, .cells #[.slice (A3) ((l1 ++ [[123]]).length) (c3), .slice (A4) ((f1 ++ [(ls.length : Int)]).length) (c4)] 30)] ++ (L_3 ++ (N_4 ++ []))) w := hF
 refine Da ?_
 refine Pb (Ob (Qa (Qk rfl (l := [.slice (A3) ((l1 ++ [[123]]).length) (c3), .slice (A4) ((f1 ++ [(ls.length : Int)]).length) (c4)]) rfl isAgg30 sizeOf30 rfl (hF.cellsAll 2 rfl)) ?_))
 have e1 : ls ++ Ge (.node k t ks xs) = l1 ++ [[123]] := by rw [hl1, List.take_of_length_le by_Om, Ge, if_neg by_Om, if_pos hk]; simp only [List.append_assoc]
 have e2 : fs ++ Jf (.node k t ks xs) ls.length = f1 ++ [(ls.length : Int)] := by rw [hf1, List.take_of_length_le by_Om, Jf, if_neg by_Om, if_pos hk]; simp only [List.append_assoc]
 rw [e1, e2]
 exact ⟨A3, c3, L_3, A4, c4, N_4, rfl, hF.two hS3_L hS4_N, hF.two_new, hF.same⟩
theorem GQ (k : Int) (t : Str) (ks : List Str) (xs : List Tree) (ih : ∀ x ∈ xs, CJ x) (A D : Option Addr) (c e : Nat) (S : Nat → Prop) (w0 : World) (ls : List Str) (fs : List Int) (A1 : Option Addr) (c1 : Nat) (sl : List (Nat × Obj)) (A2 : Option Addr) (c2 : Nat) (sf : List (Nat × Obj)) (hT : Two w0 A1 c1 sl ls A2 c2 sf fs) (hR : Rep S w0 (Gc (.node k t ks xs)) [.int .i64 k, .string (bs t), .slice A ks.length c, .slice D xs.length e]) (hS : ∀ b, S b → b < w0.heap.size ∧ b ∉ ((sl ++ sf).map (·.1))) (hn : Yd nodeB (.node k t ks xs) = true) (hsz : Ec (.node k t ks xs) ≤ 1000000000) (hm : Ae (.node k t ks xs) ≤ 16777216) (hlf : ls.length = fs.length) (hlen : ls.length + (Ge (.node k t ks xs)).length ≤ 512) (hk : k ≠ 5) (hk6 : k ≠ 6) : Calls prog 39 #[.agg #[.slice A1 ls.length c1, .slice A2 fs.length c2], .agg #[.int .i64 k, .string (bs t), .slice A ks.length c, .slice D xs.length e]] w0 (Ce fun v w' => ∃ (A1' : Option Addr) (c1' : Nat) (sl' : List (Nat × Obj)) (A2' : Option Addr) (c2' : Nat) (sf' : List (Nat × Obj)), v = .agg #[.slice A1' (ls ++ Ge (.node k t ks xs)).length c1', .slice A2' (fs ++ Jf (.node k t ks xs) ls.length).length c2'] ∧ Two w' A1' c1' sl' (ls ++ Ge (.node k t ks xs)) A2' c2' sf' (fs ++ Jf (.node k t ks xs) ls.length) ∧ (∀ q ∈ sl' ++ sf', w0.heap.size ≤ q.1 ∨ q.1 ∈ ((sl ++ sf).map (·.1))) ∧ Same ((sl ++ sf).map (·.1)) w0 w') := by
 obtain ⟨hn1, hns⟩ := Uf hn
 have hsz1 : Zc xs + 1 ≤ 1000000000 := by rw [Ec] at hsz; omega
 have hm1 : t.length ≤ 16777216 ∧ Oj xs ≤ 16777216 ∧ Ok ks ≤ 16777216 := by rw [Ae] at hm; omega
 obtain ⟨A_, c_, D_, e_, hcs, -, -, hK, hX⟩ := hR.tree_inv
 obtain ⟨rfl, rfl, rfl, rfl⟩ : A = A_ ∧ c = c_ ∧ D = D_ ∧ e = e_ := by simp only [List.cons.injEq, Value.slice.injEq, and_true, true_and] at hcs; exact ⟨hcs.1.1, hcs.1.2, hcs.2.1, hcs.2.2⟩
 have hXl := hX.slice_len
 have hKl := hK.slice_len
 clear hcs
 have hlp := Ey (.node k t ks xs)
 obtain ⟨hL, hN, hh⟩ := hT
 have hx0 : xs = [] := by rw [nodeB, if_neg hk, if_neg hk6] at hn1; by_cases h : ks ≠ [] ∨ xs ≠ []; (rw [if_pos h] at hn1; cases hn1); (exact Classical.not_not.1 fun h2 => h (.inr h2))
 have hx00 : xs.length = 0 := by rw [hx0]; rfl
 have FT : ls.length + 1 ≤ 512 := by omega
 refine Ma func39 rfl ntmps39 Qb (Wd _ _) ?_
 have hF := Two.start ⟨hL, hN, hh⟩
 refine Ha ?_
 refine Bh hF rfl ?_
 clear hF; rintro b1 w hb1 hF -
 refine Bh hF rfl ?_
 clear hF; rintro b2 w hb2 hF -
 refine Af (cs := #[.slice none 0 0, .slice none 0 0]) hF zeroValue30 rfl ?_
 clear hF; rintro b3 w hb3 hF -
 refine Yb (Ca (Fc Ed rfl) (Uc (Mf isAgg22 rfl hF.F 2 rfl rfl) (Ca (Ji underlying22 rfl) (Ca (Kb rfl) (Yb (Ca (Ld rfl) (Cb ?_)))))))
 refine Ja (Ia (Ha (Ca (Fc Ke rfl) (Uc (Nm isAgg3 rfl hF.F 1 rfl rfl) (Fa (v := .bool false) (Dd (Bg rfl rfl) by_Om) (Da (Ni rfl (Ia (Ia ?_)))))))))
 refine Ga (Ca (Fc Ke rfl) (Uc (Nm isAgg3 rfl hF.F 1 rfl rfl) (Fa (v := .bool true) (Sc (Ri rfl rfl) by_Om) (Ca (Jc rfl) (Ca (Fc Ke rfl) (Uc (Nm isAgg3 rfl hF.F 1 rfl rfl) (Fa (v := .bool true) (Sc (Ri rfl rfl) by_Om) (Ca (Lc rfl rfl) (Da (Qd rfl (Ga (Uc (Bi isAgg25 sizeOf25 rfl hF.F 1 rfl rfl) ?_))))))))))))
 refine Va hF (ZA (.node k t ks xs) by_Om by_Om S _ [.int .i64 k, .string (bs t), .slice A ks.length c, .slice D xs.length e] (hF.repS hR hS)) (Ua MN rfl rfl) ?_
 clear hF; intro w hF
 refine Ca (Qg rfl) (Ca (M1 rfl rfl) (Ca (Re rfl rfl) (Ca (Ld rfl) (Da (Ia (Ha (Ca (Kb rfl) (Da (Db ?_)))))))))
 refine Xc (fun μ σ w => μ = 0 ∧ AllEq σ [(2, .pointer (some ⟨b1, 0, none⟩)), (3, .pointer (some ⟨b2, 0, none⟩)), (4, .pointer (some ⟨b3, 0, none⟩)), (5, .int .i64 ((ls.length : Nat))), (6, .string (bs (Fg (.node k t ks xs)))), (7, .int .i64 0)] ∧ FR w0 ((sl ++ sf).map (·.1)) ([(b3, .cells #[.slice none 0 0, .slice none 0 0] 30), (b2, .cells #[.int .i64 k, .string (bs t), .slice A ks.length c, .slice D xs.length e] 25), (b1, .cells #[.slice A1 ls.length c1, .slice A2 fs.length c2] 30)] ++ (sl ++ (sf ++ []))) w) _ ⟨rfl, Xt, hF⟩ ?_
 clear hF; rintro μ σ w ⟨rfl, hs, hF⟩
 refine Cg.slots hs ?_
 clear hs; intro σ
 refine Ia (Ha (Ca (Za rfl) (Ca (Fc Vc rfl) (Uc (Mf isAgg23 rfl hF.F 1 rfl rfl) (Ca (Ji underlying23 rfl) (Fa (v := .bool false) (Dd (Z7 rfl rfl) by_Om) (Da (Xe rfl ?_))))))))
 refine Oc (Nc rfl ?_)
 refine Ja (Ha (Ca (Fc Ed rfl) (Uc (Mf isAgg22 rfl hF.F 2 rfl rfl) (Ca (Pc rfl) ?_))))
 refine Yh 1 hF (Ka (cs := #[.string (bs (Fg (.node k t ks xs)))]) underlying22 sizeOf9 zeroValue9 Oa Oa Fb) ?_
 clear hF; rintro b4 w hb4 hF -
 refine Rg [(b4, .cells #[.string (bs (Fg (.node k t ks xs)))] 9), (b3, .cells #[.slice none 0 0, .slice none 0 0] 30), (b2, .cells #[.int .i64 k, .string (bs t), .slice A ks.length c, .slice D xs.length e] 25), (b1, .cells #[.slice A1 ls.length c1, .slice A2 fs.length c2] 30)] (sf ++ []) (news := [.string (bs (Fg (.node k t ks xs)))]) (len' := (ls ++ [Fg (.node k t ks xs)]).length) (ys := Gs (ls ++ [Fg (.node k t ks xs)])) Dn hF hL rfl rfl (rfl) (fun _ => ⟨_, rfl, Qc (hF.cellsAll 0 rfl)⟩) (by simp [Value.oneCell']) (by simp only [maxLen, List.length_append, Gf]; omega) (by simp only [List.length_append, List.length_cons, List.length_nil] <;> omega) (by simp [Gs]) (by (try simp only [List.length_append, Gf]); omega) ?_
 clear hF; intro A0 c0 L_0 w hS0_L hF hE hnew
 clear hE hnew
 refine Ca (Fc Ed rfl) ?_
 refine Pe 3 (l := [.slice (A0) ((ls ++ [Fg (.node k t ks xs)]).length) (c0)]) (cs' := #[.slice (A0) ((ls ++ [Fg (.node k t ks xs)]).length) (c0), .slice A2 fs.length c2]) hF sizeOf22 rfl (v := .slice (A0) ((ls ++ [Fg (.node k t ks xs)]).length) (c0)) rfl rfl Se rfl Qb rfl ?_
 clear hF; rintro w hF -
 replace hF : FR w0 ((sl ++ sf).map (·.1)) ([(b4, .cells #[.string (bs (Fg (.node k t ks xs)))] 9), (b3, .cells #[.slice none 0 0, .slice none 0 0] 30), (b2, .cells #[.int .i64 k, .string (bs t), .slice A ks.length c, .slice D xs.length e] 25), (b1, .cells #[.slice (A0) ((ls ++ [Fg (.node k t ks xs)]).length) (c0), .slice A2 fs.length c2] 30)] ++ (L_0 ++ (sf ++ []))) w := hF
 refine Yb (Ca (Fc Kd rfl) (Uc (Mf isAgg28 rfl hF.F 3 rfl rfl) (Ca (Za rfl) ?_)))
 refine Yh 1 hF (Ka (cs := #[.int .i64 ((ls.length : Nat))]) underlying28 sizeOf3 zeroValue3 Oa Oa Fb) ?_
 clear hF; rintro b5 w hb5 hF -
 refine Rg ([(b5, .cells #[.int .i64 ((ls.length : Nat))] 3), (b4, .cells #[.string (bs (Fg (.node k t ks xs)))] 9), (b3, .cells #[.slice none 0 0, .slice none 0 0] 30), (b2, .cells #[.int .i64 k, .string (bs t), .slice A ks.length c, .slice D xs.length e] 25), (b1, .cells #[.slice (A0) ((ls ++ [Fg (.node k t ks xs)]).length) (c0), .slice A2 fs.length c2] 30)] ++ L_0) [] (news := [.int .i64 ((ls.length : Nat))]) (len' := (fs ++ [(ls.length : Int)]).length) (ys := Is (fs ++ [(ls.length : Int)])) Ck hF hN rfl rfl (rfl) (fun _ => ⟨_, rfl, Qc (hF.cellsAll 0 rfl)⟩) (by simp [Value.oneCell']) (by simp only [maxLen, List.length_append, Gf]; omega) (by simp only [List.length_append, List.length_cons, List.length_nil] <;> omega) (by simp [Is]) (by (try simp only [List.length_append, Gf]); omega) ?_
 clear hF; intro A1 c1 N_1 w hS1_N hF hE hnew
 clear hE hnew
 refine Ca (Fc Kd rfl) ?_
 refine Pe 4 (l := [.slice (A1) ((fs ++ [(ls.length : Int)]).length) (c1)]) (cs' := #[.slice (A0) ((ls ++ [Fg (.node k t ks xs)]).length) (c0), .slice (A1) ((fs ++ [(ls.length : Int)]).length) (c1)]) hF sizeOf28 rfl (v := .slice (A1) ((fs ++ [(ls.length : Int)]).length) (c1)) rfl rfl Se rfl Qb rfl ?_
 clear hF; rintro w hF -
 replace hF : FR w0 ((sl ++ sf).map (·.1)) ([(b5, .cells #[.int .i64 ((ls.length : Nat))] 3), (b4, .cells #[.string (bs (Fg (.node k t ks xs)))] 9), (b3, .cells #[.slice none 0 0, .slice none 0 0] 30), (b2, .cells #[.int .i64 k, .string (bs t), .slice A ks.length c, .slice D xs.length e] 25), (b1, .cells #[.slice (A0) ((ls ++ [Fg (.node k t ks xs)]).length) (c0), .slice (A1) ((fs ++ [(ls.length : Int)]).length) (c1)] 30)] ++ (L_0 ++ (N_1 ++ []))) w := hF
 refine Yb (Uc (Bi isAgg30 sizeOf30 rfl hF.F 4 rfl rfl) ?_)
 refine Pe 2 (l := [.slice (A0) ((ls ++ [Fg (.node k t ks xs)]).length) (c0), .slice (A1) ((fs ++ [(ls.length : Int)]).length) (c1)]) (cs' := #[.slice (A0) ((ls ++ [Fg (.node k t ks xs)]).length) (c0), .slice (A1) ((fs ++ [(ls.length : Int)]).length) (c1)]) hF sizeOf30 rfl (v := .agg #[.slice (A0) ((ls ++ [Fg (.node k t ks xs)]).length) (c0), .slice (A1) ((fs ++ [(ls.length : Int)]).length) (c1)]) rfl rfl Se rfl Qb rfl ?_
 clear hF; rintro w hF -
 replace hF : FR w0 ((sl ++ sf).map (·.1)) ([(b5, .cells #[.int .i64 ((ls.length : Nat))] 3), (b4, .cells #[.string (bs (Fg (.node k t ks xs)))] 9), (b3, .cells #[.slice (A0) ((ls ++ [Fg (.node k t ks xs)]).length) (c0), .slice (A1) ((fs ++ [(ls.length : Int)]).length) (c1)] 30), (b2, .cells #[.int .i64 k, .string (bs t), .slice A ks.length c, .slice D xs.length e] 25), (b1, .cells #[.slice (A0) ((ls ++ [Fg (.node k t ks xs)]).length) (c0), .slice (A1) ((fs ++ [(ls.length : Int)]).length) (c1)] 30)] ++ (L_0 ++ (N_1 ++ []))) w := hF
 refine Da ?_
 refine Pb (Ob (Qa (Qk rfl (l := [.slice (A0) ((ls ++ [Fg (.node k t ks xs)]).length) (c0), .slice (A1) ((fs ++ [(ls.length : Int)]).length) (c1)]) rfl isAgg30 sizeOf30 rfl (hF.cellsAll 2 rfl)) ?_))
 have e1 : ls ++ Ge (.node k t ks xs) = ls ++ [Fg (.node k t ks xs)] := by rw [Ge, if_neg by_Om, if_neg by_Om]
 have e2 : fs ++ Jf (.node k t ks xs) ls.length = fs ++ [(ls.length : Int)] := by rw [Jf, if_neg by_Om, if_neg by_Om]
 rw [e1, e2]
 exact ⟨A0, c0, L_0, A1, c1, N_1, rfl, hF.two hS0_L hS1_N, hF.two_new, hF.same⟩
theorem FP (x : Tree) : CJ x := Tree.ind (Q := CJ) (fun k t ks xs ih => by
  intro S w0 cs ls fs A1 c1 sl A2 c2 sf hT hR hS hn hsz hm hlf hlen
  have hR0 := hR.old
  obtain ⟨A, c, D, e, rfl, -⟩ := hR0.tree_inv
  have hS' : ∀ b, TL S w0 b → b < w0.heap.size ∧ b ∉ ((sl ++ sf).map (·.1)) := fun b hb => ⟨hb.2, fun hm => by obtain ⟨q, hq, rfl⟩ := List.mem_map.1 hm; exact hS q hq hb.1⟩
  by_cases h5 : k = 5
  · exact CP k t ks xs ih A D c e (TL S w0) w0 ls fs A1 c1 sl A2 c2 sf hT hR0 hS' hn hsz hm hlf hlen h5
  · by_cases h6 : k = 6
    · exact OO k t ks xs ih A D c e (TL S w0) w0 ls fs A1 c1 sl A2 c2 sf hT hR0 hS' hn hsz hm hlf hlen h6
    · exact GQ k t ks xs ih A D c e (TL S w0) w0 ls fs A1 c1 sl A2 c2 sf hT hR0 hS' hn hsz hm hlf hlen h5 h6) x
end Go.Scarf
namespace Go.Scarf
open Go.RowKit Go.Proofs Go.Proofs.Tryz
theorem E6 (x : Tree) (S : Nat → Prop) (w0 : World) (cs : List Value) (hR : Rep S w0 (Gc x) cs) (hG : Gl w0) (hsz : Ec x ≤ 256) (hm : Ae x ≤ 16777216) (hx : Yc x = false) : Calls prog 18 #[.agg cs.toArray] w0 (Ce fun v w' => v = .tuple #[.agg #[.slice none 0 0, .slice none 0 0], .int .i64 1] ∧ Same [] w0 w') := by
 have hl : cs.length = 4 := hR.length.trans (Ac x)
 have ho := hR.one_
 refine Ma func18 rfl ntmps18 Qb (Rc _) ?_
 have hF := FR.start w0 []
 refine Ha ?_
 refine Vf (v := .agg (List.toArray cs)) (cs := (List.toArray cs)) hF rfl rfl ?_
 clear hF; rintro b1 w hb1 hF -
 refine Af (cs := #[.slice none 0 0, .slice none 0 0]) hF zeroValue30 rfl ?_
 clear hF; rintro b2 w hb2 hF -
 refine Ca (Kb rfl) (Yb (Fa (v := .agg (List.toArray cs)) (Rb (l := cs) isAgg25 sizeOf25 rfl hl (hF.cellsAll 1 rfl)) ?_))
 refine Va hF (Hr (v' := .bool false) (Wy x by_Om by_Om _ _ cs (hF.rep hR)) (congrArg Value.bool hx)) (Ua LG rfl rfl) ?_
 clear hF; intro w hF
 refine Ca (Cc rfl) (Da (Ia (Ha (Ca (Jc rfl) (Ca (Dm (b := false) rfl) (Da (Qd rfl (Ha ?_))))))))
 refine Fa (w' := w) (v := .agg #[.slice none 0 0, .slice none 0 0]) Fb ?_
 refine Ij hF sizeOf30 rfl rfl Dl ?_
 clear hF; rintro w hF -
 refine Ca (Kb rfl) (Da ?_)
 refine Pb (Ob (Qa (Ie rfl (l := [.slice none 0 0, .slice none 0 0]) rfl isAgg30 sizeOf30 rfl (hF.cellsAll 0 rfl) (v := .int .i64 1) rfl) ?_))
 exact ⟨rfl, hF.same⟩
theorem Ov (x : Tree) (S : Nat → Prop) (w0 : World) (cs : List Value) (hR : Rep S w0 (Gc x) cs) (hG : Gl w0) (hsz : Ec x ≤ 256) (hm : Ae x ≤ 16777216) (hx : Yc x = true) : Calls prog 18 #[.agg cs.toArray] w0 (Ce fun v w' => ∃ A c B e, v = .tuple #[.agg #[.slice A (Xd x).length c, .slice B (Ye x).length e], .int .i64 0] ∧ Rep (Btw w0 w') w' (We (Xd x)) [.slice A (Xd x).length c] ∧ Rep (Btw w0 w') w' (.slice ((Ye x).map Th)) [.slice B (Ye x).length e] ∧ Same [] w0 w') := by
 have hl : cs.length = 4 := hR.length.trans (Ac x)
 have ho := hR.one_
 refine Ma func18 rfl ntmps18 Qb (Rc _) ?_
 have hF := FR.start w0 []
 refine Ha ?_
 refine Vf (v := .agg (List.toArray cs)) (cs := (List.toArray cs)) hF rfl rfl ?_
 clear hF; rintro b1 w hb1 hF -
 refine Af (cs := #[.slice none 0 0, .slice none 0 0]) hF zeroValue30 rfl ?_
 clear hF; rintro b2 w hb2 hF -
 refine Ca (Kb rfl) (Yb (Fa (v := .agg (List.toArray cs)) (Rb (l := cs) isAgg25 sizeOf25 rfl hl (hF.cellsAll 1 rfl)) ?_))
 refine Va hF (Hr (v' := .bool true) (Wy x by_Om by_Om _ _ cs (hF.rep hR)) (congrArg Value.bool hx)) (Ua LG rfl rfl) ?_
 clear hF; intro w hF
 refine Ca (Cc rfl) (Da (Ia (Ha (Ca (Jc rfl) (Ca (Dm (b := true) rfl) (Da (Ni rfl (Ia ?_))))))))
 refine Ga ?_
 refine Fa (w' := w) (v := .agg #[.slice none 0 0, .slice none 0 0]) Fb ?_
 refine Fa (v := .agg (List.toArray cs)) (Rb (l := cs) isAgg25 sizeOf25 rfl hl (hF.cellsAll 1 rfl)) ?_
 refine Zb (G_ x by_Om by_Om _ _ cs (hF.rep hR)) (Ua JR rfl rfl) ?_
 rintro _ w ⟨ct, rfl, hRt, hE⟩
 have hlt : ct.length = 4 := hRt.length.trans (Ac _)
 have hot := hRt.one_
 replace hF := hF.ext hE
 clear hE
 obtain ⟨B, hBw⟩ : ∃ B, B = w.heap.size := ⟨_, rfl⟩
 have hBl : w0.heap.size ≤ B := by rw [hBw]; exact hF.same.size
 have hb2B : b2 < B := by rw [hBw]; exact hF.lt (i := 0) rfl
 refine Zb (FP (Cf x) _ w ct [] [] none 0 [] none 0 [] ⟨SlB.nil _ _, SlB.nil _ _, by simp⟩ hRt Sa (Rm hx) (Ix x by_Om) (Nat.le_trans (Io x) hm) rfl (by have := Un hx; unfold Xd at this; simp only [List.length_nil]; omega)) (Pa TI rfl rfl rfl) ?_
 rintro _ w ⟨P1, q1, sl, P2, q2, sf, rfl, hT2, hn2, hE⟩
 replace hE : Same [] _ w := hE
 have hrow : ∀ q ∈ sl ++ sf, w.heap[q.1]? = some q.2 ∧ B ≤ q.1 := fun q hq => ⟨hT2.2.2 q hq, by rcases hn2 q hq with h | h; (omega); (simp at h)⟩
 replace hF := hF.ext hE
 obtain ⟨hL, hN, -⟩ := hT2
 replace hL : SlB 9 1 P1 (Xd x).length q1 (Gs (Xd x)) sl := hL
 replace hN : SlB 3 1 P2 (Ye x).length q2 (Is (Ye x)) sf := hN
 clear hE
 refine I2 (l := [.slice (P1) ((Xd x).length) (q1), .slice (P2) ((Ye x).length) (q2)]) hF zeroValue30 sizeOf30 rfl (v := .agg #[.slice (P1) ((Xd x).length) (q1), .slice (P2) ((Ye x).length) (q2)]) rfl rfl Se rfl ?_
 clear hF; intro b3 w hb3 hF hE
 replace hrow := fun q hq => And.intro ((hE.block q.1 (Jb (hrow q hq).1) (by have := (hrow q hq).2; simp <;> omega)).trans (hrow q hq).1) (hrow q hq).2
 clear hE
 refine Da (Ia (Ha (Ca (Fc Ed rfl) (Uc (Mf isAgg22 rfl hF.F 0 rfl rfl) (Ca (Ji underlying22 rfl) ?_)))))
 refine Fa (v := .bool false) (Dd (Cz rfl rfl) (by have := Un hx; omega)) ?_
 refine Da (Ni rfl (Ha (Uc (Bi isAgg30 sizeOf30 rfl hF.F 0 rfl rfl) ?_)))
 refine Ij hF sizeOf30 rfl rfl Y1 ?_
 clear hF; intro w hF hE
 replace hrow := fun q hq => And.intro ((hE.block q.1 (Jb (hrow q hq).1) (by have := (hrow q hq).2; simp <;> omega)).trans (hrow q hq).1) (hrow q hq).2
 clear hE
 refine Ca (Kb rfl) (Da ?_)
 refine Pb (Ob (Qa (Ie rfl (l := [.slice (P1) ((Xd x).length) (q1), .slice (P2) ((Ye x).length) (q2)]) rfl isAgg30 sizeOf30 rfl (hF.cellsAll 1 rfl) (v := .int .i64 0) rfl) ?_))
 refine ⟨P1, q1, P2, q2, rfl, ?_, ?_, hF.same⟩
 have := Tb.rows (w0 := w0) (w := w) (ds := (Xd x).map Wn) (by rw [List.length_map]; exact hL) (fun q hq => hrow q (by simp [hq])) hBl (Tv (fun s hs => by have := MC (Cf x) (Nat.le_trans (Io x) by_Om) s hs; omega))
 rw [List.length_map] at this
 exact this
 have := Tb.rows (w0 := w0) (w := w) (ds := (Ye x).map Th) (by rw [List.length_map]; exact hN) (fun q hq => hrow q (by simp [hq])) hBl (Cs (fun s hs => by obtain ⟨i, hi, rfl⟩ := List.getElem_of_mem hs; have h1 := (Ll hx hsz).2.2 i hi hi; have := N2 x; have := Un hx; omega))
 rw [List.length_map] at this
 exact this
theorem F5 (x y : Tree) (S S' : Nat → Prop) (w0 : World) (cx cy : List Value) (hxR : Rep S w0 (Gc x) cx) (hyR : Rep S' w0 (Gc y) cy) (hG : Gl w0) (hszx : Ec x ≤ 256) (hszy : Ec y ≤ 256) (hmx : Ae x ≤ 16777216) (hmy : Ae y ≤ 16777216) (hax : (Xd x).length ≤ 80) (hay : (Xd y).length ≤ 80) (h1 : Yc x = false) : Calls prog 8 #[.agg cx.toArray, .agg cy.toArray] w0 (Ce fun v w' => v = .tuple #[.int .i64 0, .int .i64 1] ∧ Same [] w0 w') := by
 have hlcx : cx.length = 4 := hxR.length.trans (Ac x)
 have hocx := hxR.one_
 have hlcy : cy.length = 4 := hyR.length.trans (Ac y)
 have hocy := hyR.one_
 refine Ma func8 rfl ntmps8 Qb (Wd _ _) ?_
 have hF := FR.start w0 []
 refine Ha ?_
 refine Vf (v := .agg (List.toArray cx)) (cs := (List.toArray cx)) hF rfl rfl ?_
 clear hF; rintro b1 w hb1 hF -
 refine Vf (v := .agg (List.toArray cy)) (cs := (List.toArray cy)) hF rfl rfl ?_
 clear hF; rintro b2 w hb2 hF -
 refine Ca (Kb rfl) (Ca (Kb rfl) (Yb (Fa (v := .agg (List.toArray cx)) (Rb (l := cx) isAgg25 sizeOf25 rfl hlcx (hF.cellsAll 1 rfl)) ?_)))
 refine Va hF (E6 x _ _ cx (hF.rep hxR) (hG.ext hF.same) hszx hmx h1) (Ua C6 rfl rfl) ?_
 clear hF; intro w hF
 refine Ca (Qg rfl) (Ca (Yw rfl rfl) (Ca (Re rfl rfl) ?_))
 refine Hh hF zeroValue30 sizeOf30 rfl ?_
 clear hF; rintro b3 w hb3 hF -
 refine Ca (Kb rfl) (Da (Ia (Ha (Ca (Za rfl) (Fa (v := .bool true) (Sc (Ri rfl rfl) Oa) (Da (Qd rfl (Ha (Ca (Za rfl) ?_)))))))))
 refine Ca (Kb rfl) (Ca (Kb rfl) (Da ?_))
 refine Pb (Ob (Qa (Nd (v := .int .i64 0) (x := .int .i64 1) rfl rfl rfl) ?_))
 exact ⟨rfl, hF.same⟩
theorem V3 (x y : Tree) (S S' : Nat → Prop) (w0 : World) (cx cy : List Value) (hxR : Rep S w0 (Gc x) cx) (hyR : Rep S' w0 (Gc y) cy) (hG : Gl w0) (hszx : Ec x ≤ 256) (hszy : Ec y ≤ 256) (hmx : Ae x ≤ 16777216) (hmy : Ae y ≤ 16777216) (hax : (Xd x).length ≤ 80) (hay : (Xd y).length ≤ 80) (h1 : Yc x = true) (h2 : Yc y = false) : Calls prog 8 #[.agg cx.toArray, .agg cy.toArray] w0 (Ce fun v w' => v = .tuple #[.int .i64 0, .int .i64 1] ∧ Same [] w0 w') := by
 have hlcx : cx.length = 4 := hxR.length.trans (Ac x)
 have hocx := hxR.one_
 have hlcy : cy.length = 4 := hyR.length.trans (Ac y)
 have hocy := hyR.one_
 refine Ma func8 rfl ntmps8 Qb (Wd _ _) ?_
 have hF := FR.start w0 []
 refine Ha ?_
 refine Vf (v := .agg (List.toArray cx)) (cs := (List.toArray cx)) hF rfl rfl ?_
 clear hF; rintro b1 w hb1 hF -
 refine Vf (v := .agg (List.toArray cy)) (cs := (List.toArray cy)) hF rfl rfl ?_
 clear hF; rintro b2 w hb2 hF -
 refine Ca (Kb rfl) (Ca (Kb rfl) (Yb (Fa (v := .agg (List.toArray cx)) (Rb (l := cx) isAgg25 sizeOf25 rfl hlcx (hF.cellsAll 1 rfl)) ?_)))
 refine Zb (Ov x _ _ cx (hF.rep hxR) (hG.ext hF.same) hszx hmx h1) (Ua C6 rfl rfl) ?_
 rintro _ w ⟨Au, cu, Bu, eu, rfl, hL_, hN_, hE⟩
 have hLu : Rep (fun _ => True) w (We (Xd x)) [.slice Au (Xd x).length cu] := hL_.weaken fun _ _ _ => trivial
 have hNu : Rep (fun _ => True) w (.slice ((Ye x).map Th)) [.slice Bu (Ye x).length eu] := hN_.weaken fun _ _ _ => trivial
 replace hF := hF.ext hE
 clear hE hL_ hN_
 refine Ca (Qg rfl) (Ca (Yw rfl rfl) (Ca (Re rfl rfl) ?_))
 refine Hh hF zeroValue30 sizeOf30 rfl ?_
 clear hF; intro b3 w hb3 hF hE
 replace hLu := hLu.ext hE
 replace hNu := hNu.ext hE
 clear hE
 refine Ca (Kb rfl) (Da (Ia (Ha (Ca (Za rfl) (Fa (v := .bool false) (Dd (Ri rfl rfl) Oa) (Da (Ni rfl (Ia ?_))))))))
 refine Ga (Fa (v := .agg (List.toArray cy)) (Rb (l := cy) isAgg25 sizeOf25 rfl hlcy (hF.cellsAll 1 rfl)) ?_)
 refine Zb (E6 y _ _ cy (hF.rep hyR) (hG.ext hF.same) hszy hmy h2) (Ua C6 rfl rfl) ?_
 rintro _ w ⟨rfl, hE⟩
 replace hF := hF.ext hE
 replace hLu := hLu.ext hE
 replace hNu := hNu.ext hE
 clear hE
 refine Ca (Qg rfl) (Ca (Yw rfl rfl) (Ca (Re rfl rfl) ?_))
 refine Hh hF zeroValue30 sizeOf30 rfl ?_
 clear hF; intro b4 w hb4 hF hE
 replace hLu := hLu.ext hE
 replace hNu := hNu.ext hE
 clear hE
 refine Ca (Kb rfl) (Da (Ia (Ha (Ca (Za rfl) (Fa (v := .bool true) (Sc (Ri rfl rfl) Oa) (Da (Qd rfl (Ha (Ca (Za rfl) ?_)))))))))
 refine Ca (Kb rfl) (Ca (Kb rfl) (Da ?_))
 refine Pb (Ob (Qa (Nd (v := .int .i64 0) (x := .int .i64 1) rfl rfl rfl) ?_))
 exact ⟨rfl, hF.same⟩
theorem N3 (x y : Tree) (S S' : Nat → Prop) (w0 : World) (cx cy : List Value) (hxR : Rep S w0 (Gc x) cx) (hyR : Rep S' w0 (Gc y) cy) (hG : Gl w0) (hszx : Ec x ≤ 256) (hszy : Ec y ≤ 256) (hmx : Ae x ≤ 16777216) (hmy : Ae y ≤ 16777216) (hax : (Xd x).length ≤ 80) (hay : (Xd y).length ≤ 80) (h1 : Yc x = true) (h2 : Yc y = true) : Calls prog 8 #[.agg cx.toArray, .agg cy.toArray] w0 (Ce fun v w' => v = .tuple #[.int .i64 ((Hq (Xd x) (Ye x) (Xd y) (Ye y) : Nat) : Int), .int .i64 0] ∧ Same [] w0 w') := by
 have hlcx : cx.length = 4 := hxR.length.trans (Ac x)
 have hocx := hxR.one_
 have hlcy : cy.length = 4 := hyR.length.trans (Ac y)
 have hocy := hyR.one_
 refine Ma func8 rfl ntmps8 Qb (Wd _ _) ?_
 have hF := FR.start w0 []
 refine Ha ?_
 refine Vf (v := .agg (List.toArray cx)) (cs := (List.toArray cx)) hF rfl rfl ?_
 clear hF; rintro b1 w hb1 hF -
 refine Vf (v := .agg (List.toArray cy)) (cs := (List.toArray cy)) hF rfl rfl ?_
 clear hF; rintro b2 w hb2 hF -
 refine Ca (Kb rfl) (Ca (Kb rfl) (Yb (Fa (v := .agg (List.toArray cx)) (Rb (l := cx) isAgg25 sizeOf25 rfl hlcx (hF.cellsAll 1 rfl)) ?_)))
 refine Zb (Ov x _ _ cx (hF.rep hxR) (hG.ext hF.same) hszx hmx h1) (Ua C6 rfl rfl) ?_
 rintro _ w ⟨Au, cu, Bu, eu, rfl, hL_, hN_, hE⟩
 have hLu : Rep (fun _ => True) w (We (Xd x)) [.slice Au (Xd x).length cu] := hL_.weaken fun _ _ _ => trivial
 have hNu : Rep (fun _ => True) w (.slice ((Ye x).map Th)) [.slice Bu (Ye x).length eu] := hN_.weaken fun _ _ _ => trivial
 replace hF := hF.ext hE
 clear hE hL_ hN_
 refine Ca (Qg rfl) (Ca (Yw rfl rfl) (Ca (Re rfl rfl) ?_))
 refine Hh hF zeroValue30 sizeOf30 rfl ?_
 clear hF; intro b3 w hb3 hF hE
 replace hLu := hLu.ext hE
 replace hNu := hNu.ext hE
 clear hE
 refine Ca (Kb rfl) (Da (Ia (Ha (Ca (Za rfl) (Fa (v := .bool false) (Dd (Ri rfl rfl) Oa) (Da (Ni rfl (Ia ?_))))))))
 refine Ga (Fa (v := .agg (List.toArray cy)) (Rb (l := cy) isAgg25 sizeOf25 rfl hlcy (hF.cellsAll 1 rfl)) ?_)
 refine Zb (Ov y _ _ cy (hF.rep hyR) (hG.ext hF.same) hszy hmy h2) (Ua C6 rfl rfl) ?_
 rintro _ w ⟨Av, cv, Bv, ev, rfl, hL_, hN_, hE⟩
 have hLv : Rep (fun _ => True) w (We (Xd y)) [.slice Av (Xd y).length cv] := hL_.weaken fun _ _ _ => trivial
 have hNv : Rep (fun _ => True) w (.slice ((Ye y).map Th)) [.slice Bv (Ye y).length ev] := hN_.weaken fun _ _ _ => trivial
 replace hLu := hLu.ext hE
 replace hNu := hNu.ext hE
 replace hF := hF.ext hE
 clear hE hL_ hN_
 refine Ca (Qg rfl) (Ca (Yw rfl rfl) (Ca (Re rfl rfl) ?_))
 refine Hh hF zeroValue30 sizeOf30 rfl ?_
 clear hF; intro b4 w hb4 hF hE
 replace hLu := hLu.ext hE
 replace hNu := hNu.ext hE
 replace hLv := hLv.ext hE
 replace hNv := hNv.ext hE
 clear hE
 refine Ca (Kb rfl) (Da (Ia (Ha (Ca (Za rfl) (Fa (v := .bool false) (Dd (Ri rfl rfl) Oa) (Da (Ni rfl (Ia ?_))))))))
 refine Ga (Uc (Bi isAgg30 sizeOf30 rfl hF.F 1 rfl rfl) (Uc (Bi isAgg30 sizeOf30 rfl hF.F 0 rfl rfl) ?_))
 refine Zb (FD _ _ _ (Xd x) (Ye x) Au Bu cu eu hLu hNu (Xd y) (Ye y) Av Bv cv ev hLv hNv (Ll h1 hszx) (Ll h2 hszy) hax hay) (Pa XQ rfl rfl rfl) ?_
 rintro _ w ⟨rfl, hE⟩
 replace hF := hF.ext hE
 replace hLu := hLu.ext hE
 replace hNu := hNu.ext hE
 replace hLv := hLv.ext hE
 replace hNv := hNv.ext hE
 clear hE
 refine Ca (Re rfl rfl) (Ca (Re rfl rfl) (Ca (Kb rfl) (Ca (Kb rfl) (Da ?_))))
 refine Pb (Ob (Qa (Nd (v := .int .i64 ((Hq (Xd x) (Ye x) (Xd y) (Ye y) : Nat))) (x := .int .i64 0) rfl rfl rfl) ?_))
 exact ⟨rfl, hF.same⟩
theorem K9 (x y : Tree) (S S' : Nat → Prop) (w0 : World) (cx cy : List Value) (hxR : Rep S w0 (Gc x) cx) (hyR : Rep S' w0 (Gc y) cy) (hG : Gl w0) (hszx : Ec x ≤ 256) (hszy : Ec y ≤ 256) (hmx : Ae x ≤ 16777216) (hmy : Ae y ≤ 16777216) (hax : (Xd x).length ≤ 80) (hay : (Xd y).length ≤ 80) : Calls prog 8 #[.agg cx.toArray, .agg cy.toArray] w0 (Ce fun v w' => v = .tuple #[.int .i64 (Mq x y), .int .i64 (Nq x y)] ∧ Same [] w0 w') := by
  by_cases h1 : Yc x = true
  · by_cases h2 : Yc y = true
    · rw [Mq, Nq, h1, h2]; exact N3 x y S S' w0 cx cy hxR hyR hG hszx hszy hmx hmy hax hay h1 h2
    · rw [Mq, Nq, h1, Bool.eq_false_iff.2 h2]; exact V3 x y S S' w0 cx cy hxR hyR hG hszx hszy hmx hmy hax hay h1 (Bool.eq_false_iff.2 h2)
  · rw [Mq, Nq, Bool.eq_false_iff.2 h1]; exact F5 x y S S' w0 cx cy hxR hyR hG hszx hszy hmx hmy hax hay (Bool.eq_false_iff.2 h1)
end Go.Scarf
