/- A part of the proof. -/
import Derived.Test.YtepbomjpbdbejaaGreatDoorA11
set_option linter.all false
set_option maxHeartbeats 8000000
set_option maxRecDepth 10000
namespace Go.Scarf
open Go.RowKit Go.Proofs Go.Proofs.Tryz
theorem X4 (w0 : World) (hG : Gl w0) (a : List Tree) (A : Option Addr) (c : Nat) (hA_ : Rep (fun _ => True) w0 (.slice (Vc a)) [.slice A a.length c]) (b : List Tree) (B : Option Addr) (e : Nat) (hB_ : Rep (fun _ => True) w0 (.slice (Vc b)) [.slice B b.length e]) (v : Tree) (cv : List Value) (hV : Rep (fun _ => True) w0 (Qc v) cv) : Calls prog 6 #[.slice A a.length c, .slice B b.length e, .agg cv.toArray] w0 (Nd fun v w' => v = .bool true ∧ Same [] w0 w') := by
 have hlv : cv.length = 4 := hV.length.trans (Id v)
 have hov := hV.one_
 obtain ⟨eA, hrA, hAl, hAc⟩ := hA_.slice_open (Gv a)
 obtain ⟨eB, hrB, hBl, hBc⟩ := hB_.slice_open (Gv b)
 have hAk := hA_.slice_len
 have hBk := hB_.slice_len
 rw [Uf] at hAk hBk
 refine Ka func6 rfl ntmps6 Kb (El _ _ _) ?_
 have hF := FR.start w0 []
 refine Ma ?_
 refine Yn (v := .agg (List.toArray cv)) (cs := (List.toArray cv)) hF rfl rfl ?_
 clear hF; rintro b1 w hb1 hF -
 refine Ca (Gc rfl) (Dc ?_)
 refine Pb hF (BA _ (hG.ext hF.same)) (AH KN rfl) ?_
 clear hF; intro w hF
 refine Ca (Gc rfl) (Dc (Ca (Ge rfl) ?_))
 refine Pb hF (X1 a _ _ _ _ (hF.rep hA_)) (Fb SI rfl rfl) ?_
 clear hF; intro w hF
 refine Ca (Ld rfl) ?_
 refine If (d := 26) rfl (fun hg0 => ?_) (fun hg0 => ?_)
 refine Ca (Ge rfl) ?_
 refine Pb hF (X1 b _ _ _ _ (hF.rep hB_)) (Fb SI rfl rfl) ?_
 clear hF; intro w hF
 refine Ca (Wc rfl rfl) (Ca (Ld rfl) ?_)
 refine If (d := 30) rfl (fun hg1 => ?_) (fun hg1 => ?_)
 refine Ja (v := .agg (List.toArray cv)) (Wb (l := cv) isAgg27 sizeOf27 rfl hlv (hF.cellsAll 0 rfl)) ?_
 refine Se 1 hF (Xd (l := cv) underlying22 sizeOf27 zeroValue27 Pa Pa rfl hlv) ?_
 clear hF; rintro b2 w hb2 hF -
 refine Pb hF (X1 [v] _ _ _ _ (N8 hF 0 rfl (hF.rep hV))) (Fb SI rfl rfl) ?_
 clear hF; intro w hF
 refine Ca (Wc rfl rfl) (Ca (Gc rfl) (Ga (Ia (Ma (Ca (Ld rfl) (Ca (Lp rfl) (Ca (Ld rfl) ?_)))))))
 refine If (d := 37) rfl (fun hg2 => ?_) (fun hg2 => ?_)
 refine Ta (Ta (Ta (Ca (Wc rfl rfl) (Ca (Ld rfl) (Ta (Ta (Ta (Ca (Wc rfl rfl) (Ga (Je rfl (Ma ?_)))))))))))
 refine Ca (Ld rfl) (Ca (Gc rfl) (Ga ?_))
 refine Wd (v := .bool true) rfl rfl ?_
 exact ⟨rfl, hF.same⟩
 refine Ca (Ge rfl) (Ca (Mf underlying22 rfl) (Ca (Iy rfl rfl) (Ca (Pd rfl rfl) (Ca (Ld rfl) ?_))))
 refine Ad (d := 42) rfl (fun hg3 => ?_) (fun hg3 => ?_)
 refine Ta (Ta (Ta (Ca (Wc rfl rfl) (Ga (Je rfl (Ma (Ca (Ld rfl) (Ca (Gc rfl) (Ga ?_)))))))))
 refine Wd (v := .bool true) rfl rfl ?_
 exact ⟨rfl, hF.same⟩
 refine Ca (Ge rfl) (Ca (Mf underlying22 rfl) (Ca (Iy rfl rfl) (Ca (Pd rfl rfl) (Ga ?_))))
 refine Jc rfl rfl (fun hc0 => ?_) (fun hc0 => ?_)
 refine Ma (Ca (Ld rfl) (Ca (Gc rfl) (Ga ?_)))
 refine Wd (v := .bool true) rfl rfl ?_
 exact ⟨rfl, hF.same⟩
 refine Wa (Ha (Ma (Ca (Ge rfl) (Ca (Ge rfl) ?_))))
 have hoa := Qm (l := a) (by simp_all)
 have hob := Qm (l := b) (by simp_all)
 have hov_ := Qm (l := [v]) (by simp_all)
 have hfa : Km a = true := by simp_all
 have hfb : Km b = true := by simp_all
 have hfv : Km [v] = true := by simp_all
 refine Ya (Zq _ _ _ (hG.ext hF.same) (a) (b) (hF.rep hA_) (hF.rep hB_) hoa hob rfl rfl) (Mb Iv rfl rfl rfl) ?_
 rintro _ w ⟨Z1, z1, y1, n1, rfl, hr1, -, hE⟩
 replace hr1 := fun h => (hr1 h).2.2
 replace hF := hF.ext hE
 clear hE
 refine Ca (Wm rfl) (Ca (C5 rfl rfl) (Ca (Co rfl rfl) (Ca (Co rfl rfl) (Ca (Ji rfl) (Ca (Ic rfl) (Ca (Ic rfl) (Ga (Ia ?_))))))))
 refine Iq (fun σ w => ∃ (AX : Option Addr), ∃ (kX : Nat), ∃ (N1 : Nat), (Rep (fun b => b < N1) w (.slice (Vc (a ++ [v]))) [.slice AX (a.length + 1) kX]) ∧ (N1 ≤ w.heap.size) ∧ AllEq σ [(0, .slice A a.length c), (1, .slice B b.length e), (5, .pointer (some ⟨b1, 0, none⟩)), (7, .bool true), (10, .int .i64 n1), (11, .int .i64 (In (a) (b))), (12, .slice (AX) (a.length + 1) (kX))] ∧ FR w0 [] [(b1, .cells (List.toArray cv) 27)] w) ?_ ?_
 refine Bg (zs := []) (.free 1 (.free 3 (.alt 0 (.alt 2 (.act 4 (.act 5 (.free 6 .nil))) (.act 4 (.act 2 (.act 5 (.free 6 .nil))))) (.act 4 (.act 0 (.act 2 (.act 5 (.free 6 .nil)))))))) hF ?_
 clear hF; intro w hF
 refine Cb rfl (Ge rfl) (Qa rfl (v := .agg (List.toArray cv)) (fun w hC => Wb (l := cv) isAgg27 sizeOf27 rfl hlv (hC.cellsAll 1 rfl)) ?_)
 refine Bh ?_ ?_
 refine Sc 0 rfl hF (Pj underlying22 sizeOf27) ?_
 clear hF; rintro b3 w hb3 hF -
 refine ⟨hF.sub (.cons _ (.cons_cons _ (.cons_cons _ (List.nil_sublist _)))), ?_⟩
 refine Bh ?_ ?_
 refine Vb [(b3, .cells #[] 27), (b2, .cells (List.toArray cv) 27), (b1, .cells (List.toArray cv) 27)] [] (news := eA) (len' := a.length) (ys := eA) rfl Tl hF (SlB.zero _ _ _) rfl rfl (by rw [hAl]) (fun hk => by obtain ⟨ad, hA, hc⟩ := hAc hk; exact ⟨ad, hA, Jb (hF.cells0 hc)⟩) (Eh hrA.one_) (by simp only [maxLen]; omega) (Nat.zero_add _) (List.nil_append _) by_Om ?_
 clear hF; intro A4 c4 o_4 w hS4_o hF hE hnew
 clear hE hnew
 refine ⟨hF.sub (.cons _ (.cons_cons _ (.cons_cons _ (List.nil_sublist _)))), ?_⟩
 refine Sc 1 rfl hF (Xd (l := cv) underlying22 sizeOf27 zeroValue27 Pa Pa rfl hlv) ?_
 clear hF; rintro b4 w hb4 hF -
 refine ⟨hF.sub (.cons _ (.cons _ (.cons_cons _ (.cons_cons _ (List.nil_sublist _))))), ?_⟩
 refine Vb [(b4, .cells (List.toArray cv) 27), (b3, .cells #[] 27), (b2, .cells (List.toArray cv) 27), (b1, .cells (List.toArray cv) 27)] [] (news := cv) (len' := a.length + 1) (ys := eA ++ cv) rfl Tl hF hS4_o rfl rfl (by rw [hlv]) (fun _ => ⟨_, rfl, Jb (hF.cellsAll 0 rfl)⟩) (Eh hov) (by simp only [maxLen]; omega) (rfl) (rfl) by_Om ?_
 clear hF; intro A5 c5 o_5 w hS5_o hF hE hnew
 clear hE hnew
 refine ⟨hF.sub (.cons _ (.cons _ (.cons_cons _ (.cons_cons _ (List.nil_sublist _))))), ?_⟩
 refine Cb rfl (Ji rfl) (Bc ?_)
 exact Ec ⟨(A5), (c5), (_), (Lm (pre := [_, _, _, _]) (post := []) hF hS5_o (hrA.same hF.same Fa) (hF.rep hV)), (Nat.le_refl _), L7, ((((hF.noseg.front 3 rfl).erase 1).erase 1).erase 1)⟩
 refine Sc 1 rfl hF (Xd (l := cv) underlying22 sizeOf27 zeroValue27 Pa Pa rfl hlv) ?_
 clear hF; rintro b5 w hb5 hF -
 refine ⟨hF.sub (.cons _ (.cons _ (.cons_cons _ (.cons_cons _ (List.nil_sublist _))))), ?_⟩
 refine Vb [(b5, .cells (List.toArray cv) 27), (b3, .cells #[] 27), (b2, .cells (List.toArray cv) 27), (b1, .cells (List.toArray cv) 27)] [] (news := eA) (len' := a.length) (ys := eA) rfl Tl hF (SlB.zero _ _ _) rfl rfl (by rw [hAl]) (fun hk => by obtain ⟨ad, hA, hc⟩ := hAc hk; exact ⟨ad, hA, Jb (hF.cells0 hc)⟩) (Eh hrA.one_) (by simp only [maxLen]; omega) (Nat.zero_add _) (List.nil_append _) by_Om ?_
 clear hF; intro A6 c6 o_6 w hS6_o hF hE hnew
 clear hE hnew
 refine ⟨hF.sub (.cons _ (.cons _ (.cons_cons _ (.cons_cons _ (List.nil_sublist _))))), ?_⟩
 refine Vb [(b5, .cells (List.toArray cv) 27), (b3, .cells #[] 27), (b2, .cells (List.toArray cv) 27), (b1, .cells (List.toArray cv) 27)] [] (news := cv) (len' := a.length + 1) (ys := eA ++ cv) rfl Tl hF hS6_o rfl rfl (by rw [hlv]) (fun _ => ⟨_, rfl, Jb (hF.cellsAll 0 rfl)⟩) (Eh hov) (by simp only [maxLen]; omega) (rfl) (rfl) by_Om ?_
 clear hF; intro A7 c7 o_7 w hS7_o hF hE hnew
 clear hE hnew
 refine ⟨hF.sub (.cons _ (.cons _ (.cons_cons _ (.cons_cons _ (List.nil_sublist _))))), ?_⟩
 refine Cb rfl (Ji rfl) (Bc ?_)
 exact Ec ⟨(A7), (c7), (_), (Lm (pre := [_, _, _, _]) (post := []) hF hS7_o (hrA.same hF.same Fa) (hF.rep hV)), (Nat.le_refl _), L7, ((((hF.noseg.front 3 rfl).erase 1).erase 1).erase 1)⟩
 refine Sc 1 rfl hF (Xd (l := cv) underlying22 sizeOf27 zeroValue27 Pa Pa rfl hlv) ?_
 clear hF; rintro b6 w hb6 hF -
 refine ⟨hF.drop 1, ?_⟩
 refine Sc 0 rfl hF (Pj underlying22 sizeOf27) ?_
 clear hF; rintro b7 w hb7 hF -
 refine ⟨hF.sub (.cons _ (.cons _ (.cons_cons _ (.cons_cons _ (List.nil_sublist _))))), ?_⟩
 refine Vb [(b7, .cells #[] 27), (b6, .cells (List.toArray cv) 27), (b2, .cells (List.toArray cv) 27), (b1, .cells (List.toArray cv) 27)] [] (news := eA) (len' := a.length) (ys := eA) rfl Tl hF (SlB.zero _ _ _) rfl rfl (by rw [hAl]) (fun hk => by obtain ⟨ad, hA, hc⟩ := hAc hk; exact ⟨ad, hA, Jb (hF.cells0 hc)⟩) (Eh hrA.one_) (by simp only [maxLen]; omega) (Nat.zero_add _) (List.nil_append _) by_Om ?_
 clear hF; intro A8 c8 o_8 w hS8_o hF hE hnew
 clear hE hnew
 refine ⟨hF.sub (.cons _ (.cons _ (.cons_cons _ (.cons_cons _ (List.nil_sublist _))))), ?_⟩
 refine Vb [(b7, .cells #[] 27), (b6, .cells (List.toArray cv) 27), (b2, .cells (List.toArray cv) 27), (b1, .cells (List.toArray cv) 27)] [] (news := cv) (len' := a.length + 1) (ys := eA ++ cv) rfl Tl hF hS8_o rfl rfl (by rw [hlv]) (fun _ => ⟨_, rfl, Jb (hF.cellsAll 1 rfl)⟩) (Eh hov) (by simp only [maxLen]; omega) (rfl) (rfl) by_Om ?_
 clear hF; intro A9 c9 o_9 w hS9_o hF hE hnew
 clear hE hnew
 refine ⟨hF.sub (.cons _ (.cons _ (.cons_cons _ (.cons_cons _ (List.nil_sublist _))))), ?_⟩
 refine Cb rfl (Ji rfl) (Bc ?_)
 exact Ec ⟨(A9), (c9), (_), (Lm (pre := [_, _, _, _]) (post := []) hF hS9_o (hrA.same hF.same Fa) (hF.rep hV)), (Nat.le_refl _), L7, ((((hF.noseg.front 3 rfl).erase 1).erase 1).erase 1)⟩
 clear hF; rintro σ w ⟨AX, kX, N1, hXX, hNw, hs, hF⟩
 refine Eg.slots hs ?_
 clear hs; intro σ
 refine Ha (Ia ?_)
 refine Iq (fun σ w => ∃ (AY : Option Addr), ∃ (kY : Nat), (Rep (fun _ => True) w (.slice (Vc (a ++ [v]))) [.slice AX (a.length + 1) kX]) ∧ (Rep (fun _ => True) w (.slice (Vc (b ++ [v]))) [.slice AY (b.length + 1) kY]) ∧ AllEq σ [(0, .slice A a.length c), (5, .pointer (some ⟨b1, 0, none⟩)), (7, .bool true), (10, .int .i64 n1), (11, .int .i64 (In (a) (b))), (12, .slice (AX) (a.length + 1) (kX)), (13, .slice (AY) (b.length + 1) (kY))] ∧ FR w0 [] [(b1, .cells (List.toArray cv) 27)] w) ?_ ?_
 refine Dd [] (.free 1 (.free 3 (.alt 0 (.alt 2 (.act 4 (.act 5 (.free 6 .nil))) (.act 4 (.act 2 (.act 5 (.free 6 .nil))))) (.act 4 (.act 0 (.act 2 (.act 5 (.free 6 .nil)))))))) hF ?_
 clear hF; intro w hF hE
 replace hXX := hXX.ext hE
 replace hNw := Nat.le_trans hNw hE.size
 clear hE
 refine ⟨fun wq => FR w0 [] _ wq, hF, ?_⟩
 refine Cb rfl (Ge rfl) (Qa rfl (v := .agg (List.toArray cv)) (fun w hC => Wb (l := cv) isAgg27 sizeOf27 rfl hlv (hC.cellsAll 0 rfl)) ?_)
 refine Bh ?_ ?_
 have hso : ∀ z ∈ ([] : List (Nat × Obj)), N1 ≤ z.1 := by simp
 refine Sc 0 rfl hF (Pj underlying22 sizeOf27) ?_
 clear hF; intro b8 w hb8 hF hE
 replace hXX := hXX.ext hE
 replace hNw := Nat.le_trans hNw hE.size
 clear hE
 refine ⟨hF.sub (.cons _ (.cons_cons _ (List.nil_sublist _))), ?_⟩
 refine Bh ?_ ?_
 refine Vb [(b8, .cells #[] 27), (b1, .cells (List.toArray cv) 27)] [] (news := eB) (len' := b.length) (ys := eB) rfl Tl hF (SlB.zero _ _ _) rfl rfl (by rw [hBl]) (fun hk => by obtain ⟨ad, hA, hc⟩ := hBc hk; exact ⟨ad, hA, Jb (hF.cells0 hc)⟩) (Eh hrB.one_) (by simp only [maxLen]; omega) (Nat.zero_add _) (List.nil_append _) by_Om ?_
 clear hF; intro A10 c10 u_10 w hS10_u hF hE hnew
 replace hXX := hXX.same hE (fun b hb_ h => by obtain ⟨z, hz, rfl⟩ := List.mem_map.1 hb_; exact absurd h (Nat.not_lt.2 (hso z hz)))
 replace hso : ∀ z ∈ u_10, N1 ≤ z.1 := fun z hz => (hnew z hz).elim (fun h => by obtain ⟨z2, hz2, e⟩ := List.mem_map.1 h; rw [← e]; exact hso z2 hz2) (fun h => Nat.le_trans hNw h)
 replace hNw := Nat.le_trans hNw hE.size
 clear hE hnew
 refine ⟨hF.sub (.cons _ (.cons_cons _ (List.nil_sublist _))), ?_⟩
 refine Sc 1 rfl hF (Xd (l := cv) underlying22 sizeOf27 zeroValue27 Pa Pa rfl hlv) ?_
 clear hF; intro b9 w hb9 hF hE
 replace hXX := hXX.ext hE
 replace hNw := Nat.le_trans hNw hE.size
 clear hE
 refine ⟨hF.sub (.cons _ (.cons _ (.cons_cons _ (List.nil_sublist _)))), ?_⟩
 refine Vb [(b9, .cells (List.toArray cv) 27), (b8, .cells #[] 27), (b1, .cells (List.toArray cv) 27)] [] (news := cv) (len' := b.length + 1) (ys := eB ++ cv) rfl Tl hF hS10_u rfl rfl (by rw [hlv]) (fun _ => ⟨_, rfl, Jb (hF.cellsAll 0 rfl)⟩) (Eh hov) (by simp only [maxLen]; omega) (rfl) (rfl) by_Om ?_
 clear hF; intro A11 c11 u_11 w hS11_u hF hE hnew
 replace hXX := hXX.same hE (fun b hb_ h => by obtain ⟨z, hz, rfl⟩ := List.mem_map.1 hb_; exact absurd h (Nat.not_lt.2 (hso z hz)))
 replace hso : ∀ z ∈ u_11, N1 ≤ z.1 := fun z hz => (hnew z hz).elim (fun h => by obtain ⟨z2, hz2, e⟩ := List.mem_map.1 h; rw [← e]; exact hso z2 hz2) (fun h => Nat.le_trans hNw h)
 replace hNw := Nat.le_trans hNw hE.size
 clear hE hnew
 refine ⟨hF.sub (.cons _ (.cons _ (.cons_cons _ (List.nil_sublist _)))), ?_⟩
 refine Cb rfl (Ji rfl) (Bc ?_)
 exact Ec ⟨(A11), (c11), (hXX.weaken fun _ _ _ => trivial), ((Lm (pre := [_, _, _]) (post := []) hF hS11_u (hrB.same hF.same Fa) (hF.rep hV)).weaken fun _ _ _ => trivial), L7, (((hF.noseg.front 2 rfl).erase 1).erase 1)⟩
 refine Sc 1 rfl hF (Xd (l := cv) underlying22 sizeOf27 zeroValue27 Pa Pa rfl hlv) ?_
 clear hF; intro b10 w hb10 hF hE
 replace hXX := hXX.ext hE
 replace hNw := Nat.le_trans hNw hE.size
 clear hE
 refine ⟨hF.sub (.cons _ (.cons _ (.cons_cons _ (List.nil_sublist _)))), ?_⟩
 refine Vb [(b10, .cells (List.toArray cv) 27), (b8, .cells #[] 27), (b1, .cells (List.toArray cv) 27)] [] (news := eB) (len' := b.length) (ys := eB) rfl Tl hF (SlB.zero _ _ _) rfl rfl (by rw [hBl]) (fun hk => by obtain ⟨ad, hA, hc⟩ := hBc hk; exact ⟨ad, hA, Jb (hF.cells0 hc)⟩) (Eh hrB.one_) (by simp only [maxLen]; omega) (Nat.zero_add _) (List.nil_append _) by_Om ?_
 clear hF; intro A12 c12 u_12 w hS12_u hF hE hnew
 replace hXX := hXX.same hE (fun b hb_ h => by obtain ⟨z, hz, rfl⟩ := List.mem_map.1 hb_; exact absurd h (Nat.not_lt.2 (hso z hz)))
 replace hso : ∀ z ∈ u_12, N1 ≤ z.1 := fun z hz => (hnew z hz).elim (fun h => by obtain ⟨z2, hz2, e⟩ := List.mem_map.1 h; rw [← e]; exact hso z2 hz2) (fun h => Nat.le_trans hNw h)
 replace hNw := Nat.le_trans hNw hE.size
 clear hE hnew
 refine ⟨hF.sub (.cons _ (.cons _ (.cons_cons _ (List.nil_sublist _)))), ?_⟩
 refine Vb [(b10, .cells (List.toArray cv) 27), (b8, .cells #[] 27), (b1, .cells (List.toArray cv) 27)] [] (news := cv) (len' := b.length + 1) (ys := eB ++ cv) rfl Tl hF hS12_u rfl rfl (by rw [hlv]) (fun _ => ⟨_, rfl, Jb (hF.cellsAll 0 rfl)⟩) (Eh hov) (by simp only [maxLen]; omega) (rfl) (rfl) by_Om ?_
 clear hF; intro A13 c13 u_13 w hS13_u hF hE hnew
 replace hXX := hXX.same hE (fun b hb_ h => by obtain ⟨z, hz, rfl⟩ := List.mem_map.1 hb_; exact absurd h (Nat.not_lt.2 (hso z hz)))
 replace hso : ∀ z ∈ u_13, N1 ≤ z.1 := fun z hz => (hnew z hz).elim (fun h => by obtain ⟨z2, hz2, e⟩ := List.mem_map.1 h; rw [← e]; exact hso z2 hz2) (fun h => Nat.le_trans hNw h)
 replace hNw := Nat.le_trans hNw hE.size
 clear hE hnew
 refine ⟨hF.sub (.cons _ (.cons _ (.cons_cons _ (List.nil_sublist _)))), ?_⟩
 refine Cb rfl (Ji rfl) (Bc ?_)
 exact Ec ⟨(A13), (c13), (hXX.weaken fun _ _ _ => trivial), ((Lm (pre := [_, _, _]) (post := []) hF hS13_u (hrB.same hF.same Fa) (hF.rep hV)).weaken fun _ _ _ => trivial), L7, (((hF.noseg.front 2 rfl).erase 1).erase 1)⟩
 refine Sc 1 rfl hF (Xd (l := cv) underlying22 sizeOf27 zeroValue27 Pa Pa rfl hlv) ?_
 clear hF; intro b11 w hb11 hF hE
 replace hXX := hXX.ext hE
 replace hNw := Nat.le_trans hNw hE.size
 clear hE
 refine ⟨hF.drop 1, ?_⟩
 have hso : ∀ z ∈ ([] : List (Nat × Obj)), N1 ≤ z.1 := by simp
 refine Sc 0 rfl hF (Pj underlying22 sizeOf27) ?_
 clear hF; intro b12 w hb12 hF hE
 replace hXX := hXX.ext hE
 replace hNw := Nat.le_trans hNw hE.size
 clear hE
 refine ⟨hF.sub (.cons _ (.cons _ (.cons_cons _ (List.nil_sublist _)))), ?_⟩
 refine Vb [(b12, .cells #[] 27), (b11, .cells (List.toArray cv) 27), (b1, .cells (List.toArray cv) 27)] [] (news := eB) (len' := b.length) (ys := eB) rfl Tl hF (SlB.zero _ _ _) rfl rfl (by rw [hBl]) (fun hk => by obtain ⟨ad, hA, hc⟩ := hBc hk; exact ⟨ad, hA, Jb (hF.cells0 hc)⟩) (Eh hrB.one_) (by simp only [maxLen]; omega) (Nat.zero_add _) (List.nil_append _) by_Om ?_
 clear hF; intro A14 c14 u_14 w hS14_u hF hE hnew
 replace hXX := hXX.same hE (fun b hb_ h => by obtain ⟨z, hz, rfl⟩ := List.mem_map.1 hb_; exact absurd h (Nat.not_lt.2 (hso z hz)))
 replace hso : ∀ z ∈ u_14, N1 ≤ z.1 := fun z hz => (hnew z hz).elim (fun h => by obtain ⟨z2, hz2, e⟩ := List.mem_map.1 h; rw [← e]; exact hso z2 hz2) (fun h => Nat.le_trans hNw h)
 replace hNw := Nat.le_trans hNw hE.size
 clear hE hnew
 refine ⟨hF.sub (.cons _ (.cons _ (.cons_cons _ (List.nil_sublist _)))), ?_⟩
 refine Vb [(b12, .cells #[] 27), (b11, .cells (List.toArray cv) 27), (b1, .cells (List.toArray cv) 27)] [] (news := cv) (len' := b.length + 1) (ys := eB ++ cv) rfl Tl hF hS14_u rfl rfl (by rw [hlv]) (fun _ => ⟨_, rfl, Jb (hF.cellsAll 1 rfl)⟩) (Eh hov) (by simp only [maxLen]; omega) (rfl) (rfl) by_Om ?_
 clear hF; intro A15 c15 u_15 w hS15_u hF hE hnew
 replace hXX := hXX.same hE (fun b hb_ h => by obtain ⟨z, hz, rfl⟩ := List.mem_map.1 hb_; exact absurd h (Nat.not_lt.2 (hso z hz)))
 replace hso : ∀ z ∈ u_15, N1 ≤ z.1 := fun z hz => (hnew z hz).elim (fun h => by obtain ⟨z2, hz2, e⟩ := List.mem_map.1 h; rw [← e]; exact hso z2 hz2) (fun h => Nat.le_trans hNw h)
 replace hNw := Nat.le_trans hNw hE.size
 clear hE hnew
 refine ⟨hF.sub (.cons _ (.cons _ (.cons_cons _ (List.nil_sublist _)))), ?_⟩
 refine Cb rfl (Ji rfl) (Bc ?_)
 exact Ec ⟨(A15), (c15), (hXX.weaken fun _ _ _ => trivial), ((Lm (pre := [_, _, _]) (post := []) hF hS15_u (hrB.same hF.same Fa) (hF.rep hV)).weaken fun _ _ _ => trivial), L7, (((hF.noseg.front 2 rfl).erase 1).erase 1)⟩
 clear hF; rintro σ w ⟨AY, kY, hXX, hYY, hs, hF⟩
 refine Eg.slots hs ?_
 clear hs; intro σ
 refine Ha (Ma (Ca (Ge rfl) (Ca (Ge rfl) ?_)))
 refine Ya (Zq _ _ _ (hG.ext hF.same) (a ++ [v]) (b ++ [v]) hXX hYY (fun z hz => (List.mem_append.1 hz).elim (hoa z) (hov_ z)) (fun z hz => (List.mem_append.1 hz).elim (hob z) (hov_ z)) (List.length_append ..) (List.length_append ..)) (Mb Iv rfl rfl rfl) ?_
 rintro _ w ⟨Z2, z2, y2, n2, rfl, hr2, -, hE⟩
 replace hr2 := fun h => (hr2 h).2.2
 replace hF := hF.ext hE
 replace hXX := hXX.ext hE
 replace hYY := hYY.ext hE
 clear hE
 refine Ca (Wm rfl) (Ca (C5 rfl rfl) (Ca (Co rfl rfl) (Ca (Co rfl rfl) (Ca (Ji rfl) (Ca (Ic rfl) (Ca (Ic rfl) (Dc (Ca (Ge rfl) (Ca (Ge rfl) ?_)))))))))
 refine Ya (Zq _ _ _ (hG.ext hF.same) (a) (b ++ [v]) (hF.rep hA_) hYY hoa (fun z hz => (List.mem_append.1 hz).elim (hob z) (hov_ z)) rfl (List.length_append ..)) (Mb Iv rfl rfl rfl) ?_
 rintro _ w ⟨Z3, z3, y3, n3, rfl, hr3, -, hE⟩
 replace hr3 := fun h => (hr3 h).2.2
 replace hF := hF.ext hE
 replace hXX := hXX.ext hE
 replace hYY := hYY.ext hE
 clear hE
 refine Ca (Wm rfl) (Ca (C5 rfl rfl) (Ca (Co rfl rfl) (Ca (Co rfl rfl) (Ca (Ji rfl) (Ca (Ic rfl) (Ca (Ic rfl) (Dc (Ja (v := .agg (List.toArray cv)) (Wb (l := cv) isAgg27 sizeOf27 rfl hlv (hF.cellsAll 0 rfl)) ?_))))))))
 refine Se 1 hF (Xd (l := cv) underlying22 sizeOf27 zeroValue27 Pa Pa rfl hlv) ?_
 clear hF; intro b13 w hb13 hF hE
 replace hXX := hXX.ext hE
 replace hYY := hYY.ext hE
 clear hE
 refine Ya (Zq _ _ _ (hG.ext hF.same) ([]) ([v]) (Rep.nil_slice 0 by_Om none (S := fun _ => True)) (N8 hF 0 rfl (hF.rep hV)) (fun z hz => by cases hz) hov_ rfl rfl) (Mb Iv rfl rfl rfl) ?_
 rintro _ w ⟨Z4, z4, y4, n4, rfl, hr4, -, hE⟩
 replace hr4 := fun h => (hr4 h).2.2
 replace hF := hF.ext hE
 replace hXX := hXX.ext hE
 replace hYY := hYY.ext hE
 clear hE
 refine Ca (Wm rfl) (Ca (C5 rfl rfl) (Ca (Co rfl rfl) (Ca (Co rfl rfl) (Ca (Ji rfl) (Ca (Ic rfl) (Ca (Ic rfl) (Ga (Ia (Ma (Ca (Ib rfl) (Ca (Xx rfl rfl) ?_)))))))))))
 refine Ca (Ld rfl) ?_
 refine Ad (d := 90) rfl (fun hg16 => ?_) (fun hg16 => ?_)
 refine Ta (Ta (Ca (Wc rfl rfl) (Ca (Ld rfl) (Ta (Ta (Ca (Wc rfl rfl) (Ga (Je rfl (Ma (Ca (Ld rfl) (Ca (Gc rfl) ?_)))))))))))
 refine Ga ?_
 refine Wd (v := .bool true) rfl rfl ?_
 exact ⟨rfl, hF.same⟩
 refine Ca (Ib rfl) (Ca (Xx rfl rfl) (Ca (Pd rfl rfl) (Ca (Ld rfl) ?_)))
 refine Ad (d := 94) rfl (fun hg17 => ?_) (fun hg17 => ?_)
 refine Ta (Ta (Ca (Wc rfl rfl) (Ga (Je rfl (Ma (Ca (Ld rfl) (Ca (Gc rfl) (Ga ?_))))))))
 refine Wd (v := .bool true) rfl rfl ?_
 exact ⟨rfl, hF.same⟩
 refine Ca (Ib rfl) (Ca (Xx rfl rfl) (Ca (Pd rfl rfl) (Ga ?_)))
 refine Jc rfl rfl (fun hc1 => ?_) (fun hc1 => ?_)
 refine Ma (Ca (Ld rfl) (Ca (Gc rfl) (Ga ?_)))
 refine Wd (v := .bool true) rfl rfl ?_
 exact ⟨rfl, hF.same⟩
 refine Wa (Ha (Ia ?_))
 have e1 : In a b = 0 := by simp_all
 have e2 : In (a ++ [v]) (b ++ [v]) = 0 := by simp_all
 have e3 : In a (b ++ [v]) = 0 := by simp_all
 have q1 := Mm.1 e1
 have q2 := Mm.1 e3
 have hrv : Od v = true := (Dl q2.2).1 v Fa
 have hev : Hh [v] = 0 := by have h1 := (Dl q2.2).2.2; unfold Hh; rw [if_pos (by simp [hrv]), if_neg Fa, if_neg (by simp only [Dt, List.map_append, List.sum_append, List.map_cons, List.map_nil] at h1 ⊢; omega)]
 have e4 : In [] [v] = 0 := Mm.2 ⟨by decide, hev⟩
 have m1 := hr1 e1
 have m2 := hr2 e2
 have m3 := hr3 e3
 have m4 := hr4 e4
 rw [List.map_append, List.map_append, List.map_cons, List.map_nil] at m2
 rw [List.map_append, List.map_cons, List.map_nil] at m3
 rw [List.map_nil, List.map_cons, List.map_nil, E_, KL] at m4
 have l1 := Y3 (sz := Bk) (p := pN) (a.map Nc) (b.map Nc) (Nc v) (YG hrv (hov_ v Fa).2.1)
 have l2 := C7 (sz := Bk) (p := pN) (a.map Nc) (b.map Nc) (Nc v)
 have l3 := LJ (sz := Bk) (p := pN) PM (a.map Nc) (b.map Nc) (Nc v)
 have l4 := RI v
 have b1_ := KK hfa hfb q1.1 q1.2
 have b2_ : Bk (Nc v) ≤ 512 := (So hev hov_).2 _ Fa
 refine Ea (Ca (Ld rfl) (Ca (Ld rfl) (Ca (Ib rfl) (Ja (v := .bool true) (Ce (Wh rfl rfl) e4) (Ca (Wc rfl rfl) (Ca (Ld rfl) (Ca (Ib rfl) (Ca (Ib rfl) (Ja (v := .bool true) (Ce (S9 rfl rfl) by_Om) (Ca (Wc rfl rfl) (Ca (Ld rfl) (Ca (Ib rfl) (Ca (Ib rfl) ?_)))))))))))))
 refine Ca (Ib rfl) (Ja (v := .int .i64 (n1 + n4)) (Dr rfl rfl (Ng rfl by_Om by_Om)) (Ja (v := .bool true) (Ce (S9 rfl rfl) by_Om) (Ca (Wc rfl rfl) (Ca (Ld rfl) (Ca (Ib rfl) (Ca (Ib rfl) (Ca (Ib rfl) (Ja (v := .int .i64 (n1 - n4)) (Ls rfl rfl (Ng rfl by_Om by_Om)) (Ja (v := .bool true) (Ce (I9 rfl rfl) by_Om) (Ca (Wc rfl rfl) (Ca (Ld rfl) (Ca (Ib rfl) (Ja (v := .bool true) (Ce (I9 rfl rfl) by_Om) ?_)))))))))))))
 refine Ca (Wc rfl rfl) (Ca (Gc rfl) (Ga ?_))
 refine Wd (v := .bool true) rfl rfl ?_
 exact ⟨rfl, hF.same⟩
 refine Ta (Ta (Ta (Ca (Pd rfl rfl) (Ca (Gc rfl) (Ga (Ia (Ma (Ca (Ld rfl) (Ca (Lp (b := false) rfl) (Ca (Ld rfl) (Ta ?_)))))))))))
 refine Ta (Ta (Ca (Wc rfl rfl) (Ca (Ld rfl) (Ta (Ta (Ta (Ca (Wc rfl rfl) (Ga (Je rfl (Ma (Ca (Ld rfl) ?_)))))))))))
 refine Ca (Gc rfl) (Ga ?_)
 refine Wd (v := .bool true) rfl rfl ?_
 exact ⟨rfl, hF.same⟩
 refine Ta (Ta (Ca (Pd rfl rfl) (Ca (Ld rfl) (Ta (Ta (Ta (Ca (Pd rfl rfl) (Ca (Gc rfl) (Ga (Ia (Ma ?_)))))))))))
 refine Ca (Ld rfl) (Ca (Lp (b := false) rfl) (Ca (Ld rfl) (Ta (Ta (Ta (Ca (Wc rfl rfl) (Ca (Ld rfl) (Ta (Ta (Ta (Ca (Wc rfl rfl) (Ga ?_))))))))))))
 refine Je rfl (Ma (Ca (Ld rfl) (Ca (Gc rfl) (Ga ?_))))
 refine Wd (v := .bool true) rfl rfl ?_
 exact ⟨rfl, hF.same⟩
end Go.Scarf
