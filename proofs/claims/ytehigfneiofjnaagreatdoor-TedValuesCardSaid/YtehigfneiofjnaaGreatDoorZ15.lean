/- A part of the proof. -/
import Derived.Test.YtehigfneiofjnaaGreatDoorZ11
import Derived.Test.YtehigfneiofjnaaGreatDoorZ4
set_option linter.all false
set_option maxHeartbeats 8000000
set_option maxRecDepth 10000
namespace Go.Scarf
open Go.RowKit Go.Proofs Go.Proofs.Tryz
theorem Xz (S : Nat → Prop) (w0 : World) (la : List Str) (fa : List Int) (Aa Ba : Option Addr) (ca ea : Nat) (hLa : Rep S w0 (We la) [.slice Aa la.length ca]) (hNa : Rep S w0 (.slice (fa.map Th)) [.slice Ba fa.length ea]) : Calls prog 41 #[.agg #[.slice Aa la.length ca, .slice Ba fa.length ea]] w0 (Ce fun v w' => ∃ b : Bool, v = .bool b ∧ (b = true ↔ Lk la fa) ∧ Same [] w0 w') := by
 have hLla := hLa.slice_len
 have hNla := hNa.slice_len
 rw [List.length_map] at hLla hNla
 refine Ma func41 rfl ntmps41 Qb (Rc _) ?_
 have hF := FR.start w0 []
 refine Ha ?_
 refine Bh hF rfl ?_
 clear hF; rintro b1 w hb1 hF -
 refine Ca (Cc rfl) (Da (Ia (Ha (Ca (Fc Ed rfl) (Uc (Mf isAgg22 rfl hF.F 0 rfl rfl) (Ca (Ji underlying22 rfl) (Ca (Fc Kd rfl) (Uc (Mf isAgg28 rfl hF.F 0 rfl rfl) (Ca (Ji underlying28 rfl) (Ca (Vs rfl rfl) (Ca (Jc rfl) ?_)))))))))))
 refine Mb (d := 12) rfl (fun hg0 => ?_) (fun hg0 => ?_)
 refine Ea (Ea (Ea (Ea (Ca (Lc rfl rfl) (Da (Qd rfl (Ha (Ca (Cc rfl) (Da ?_)))))))))
 refine Ud (v := .bool false) rfl rfl ?_
 refine ⟨false, rfl, ⟨fun h => (by cases h), fun h => ?_⟩, hF.same⟩
 exfalso
 have := h.1
 have := h.2.1
 omega
 refine Ca (Fc Ed rfl) (Uc (Mf isAgg22 rfl hF.F 0 rfl rfl) (Ca (Ji underlying22 rfl) (Ca (Gn rfl rfl) (Ca (Dc rfl rfl) (Da ?_)))))
 refine Bc rfl rfl (fun hc0 => ?_) (fun hc0 => ?_)
 refine Ha (Ca (Cc rfl) (Da ?_))
 refine Ud (v := .bool false) rfl rfl ?_
 refine ⟨false, rfl, ⟨fun h => (by cases h), fun h => ?_⟩, hF.same⟩
 exfalso
 have := h.1
 have := h.2.1
 omega
 refine Ra (Ja (Ia (Ha (Ca (Kb rfl) (Da (Db ?_))))))
 have hlf5 : la.length = fa.length ∧ la.length ≤ 512 := by omega
 refine Xc (fun μ σ w => ∃ (j : Nat), μ = fa.length - j ∧ (j ≤ fa.length) ∧ (lfOk fa j) ∧ AllEq σ [(1, .pointer (some ⟨b1, 0, none⟩)), (3, .int .i64 ((j : Int)))] ∧ FR w0 [] [(b1, .cells #[.slice Aa la.length ca, .slice Ba fa.length ea] 30)] w) _ ⟨0, rfl, (Nat.zero_le _), (fun i _ h => by omega), Nv, hF⟩ ?_
 clear hF; rintro μ σ w ⟨j, rfl, hj, hok, hs, hF⟩
 refine Cg.slots hs ?_
 clear hs; intro σ
 refine Ia (Ha (Ca (Za rfl) (Ca (Fc Kd rfl) (Uc (Mf isAgg28 rfl hF.F 0 rfl rfl) (Ca (Ji underlying28 rfl) (Ca (Fj rfl rfl) (Da ?_)))))))
 refine Bc rfl rfl (fun hc1 => ?_) (fun hc1 => ?_)
 refine Ra (Ja (Ia (Db (Ia (Ha (Ca (Fc Kd rfl) (Uc (Mf isAgg28 rfl hF.F 0 rfl rfl) (Ca (Za rfl) ?_))))))))
 obtain ⟨ad1, hA1, hk1, hx1⟩ := hNa.int_elem (i := j) by_Om
 refine Fa (v := .pointer (some (ad1.add (j * 1)))) (Ya (i := (j : Int)) Wf rfl hA1 rfl by_Om by_Om) (Fa (v := .int .i64 (fa[j])) (Vb isAgg3 rfl (hF.cell0 hk1)) (Ca (Fj rfl rfl) (Ca (Jc rfl) ?_)))
 refine Mb (d := 31) rfl (fun hg2 => ?_) (fun hg2 => ?_)
 refine Ea (Ea (Ea (Ea (Ea (Ea (Ea (Ca (Lc rfl rfl) (Da (Qd rfl (Ha (Ca (Cc rfl) ?_)))))))))))
 refine Da ?_
 refine Ud (v := .bool false) rfl rfl ?_
 refine ⟨false, rfl, ⟨fun h => (by cases h), fun h => ?_⟩, hF.same⟩
 exfalso
 have := h.2.2 j by_Om by_Om
 omega
 refine Ca (Fc Kd rfl) (Uc (Mf isAgg28 rfl hF.F 0 rfl rfl) (Ca (Za rfl) ?_))
 obtain ⟨ad3, hA3, hk3, hx3⟩ := hNa.int_elem (i := j) by_Om
 refine Fa (v := .pointer (some (ad3.add (j * 1)))) (Ya (i := (j : Int)) Wf rfl hA3 rfl by_Om by_Om) (Fa (v := .int .i64 (fa[j])) (Vb isAgg3 rfl (hF.cell0 hk3)) (Ca (Za rfl) (Ca (Gn rfl rfl) (Ca (Dc rfl rfl) (Da ?_)))))
 refine Bc rfl rfl (fun hc2 => ?_) (fun hc2 => ?_)
 refine Ha (Ca (Cc rfl) (Da ?_))
 refine Ud (v := .bool false) rfl rfl ?_
 refine ⟨false, rfl, ⟨fun h => (by cases h), fun h => ?_⟩, hF.same⟩
 exfalso
 have := h.2.2 j by_Om by_Om
 omega
 refine Ra (Ja (Ha (Ca (Kb rfl) (Da (Db ?_)))))
 refine Xc (fun μ σ w => ∃ (i : Nat), μ = j - i ∧ (i ≤ j) ∧ (∀ z (hz : z < j), z < i → fa[j] ≤ (z : Int) → fa[j] ≤ fa[z]) ∧ AllEq σ [(1, .pointer (some ⟨b1, 0, none⟩)), (3, .int .i64 ((j : Int))), (4, .int .i64 ((i : Int)))] ∧ FR w0 [] [(b1, .cells #[.slice Aa la.length ca, .slice Ba fa.length ea] 30)] w) _ ⟨0, rfl, (Nat.zero_le _), (fun z hz h => by omega), St, hF⟩ ?_
 clear hF; rintro μ σ w ⟨i, rfl, hi, hcl, hs, hF⟩
 refine Cg.slots hs ?_
 clear hs; intro σ
 refine Ia (Ha (Ca (Za rfl) (Ca (Za rfl) (Ca (Fj rfl rfl) (Da ?_)))))
 refine Bc rfl rfl (fun hc3 => ?_) (fun hc3 => ?_)
 refine Ra (Ja (Ia (Db (Ia ?_))))
 refine Ag (zs := []) (.free 0 (.free 1 (.free 2 (.free 3 (.free 4 (.free 5 (.free 6 (.free 7 (.free 8 (.free 9 (.free 10 (.free 11 (.free 12 (.free 13 (.free 14 (.free 15 (.free 16 (.free 17 (.free 18 (.free 19 .nil)))))))))))))))))))) hF ?_
 clear hF; intro w hF
 refine Eb rfl (Fc Kd rfl) (Bk rfl (Mf isAgg28 rfl C0 0 rfl rfl) (Eb rfl (Za rfl) ?_))
 obtain ⟨ad4, hA4, hk4, hx4⟩ := hNa.int_elem (i := j) by_Om
 refine Ib rfl (v := .pointer (some (ad4.add (j * 1)))) (fun w hC => Ya (i := (j : Int)) Wf rfl hA4 rfl by_Om by_Om) (Ib rfl (v := .int .i64 (fa[j])) (fun w hC => Vb isAgg3 rfl (hC.cell0 hk4)) (Eb rfl (Za rfl) (Eb rfl (T6 rfl rfl) (Eb rfl (Jc rfl) ?_))))
 refine Jk (d := 52) rfl (fun hg5 => ?_) (fun hg5 => ?_)
 refine Eb rfl (Fc Kd rfl) (Bk rfl (Mf isAgg28 rfl C0 0 rfl rfl) (Eb rfl (Za rfl) ?_))
 obtain ⟨ad6, hA6, hk6, hx6⟩ := hNa.int_elem (i := j) by_Om
 refine Ib rfl (v := .pointer (some (ad6.add (j * 1)))) (fun w hC => Ya (i := (j : Int)) Wf rfl hA6 rfl by_Om by_Om) (Ib rfl (v := .int .i64 (fa[j])) (fun w hC => Vb isAgg3 rfl (hC.cell0 hk6)) (Eb rfl (Fc Kd rfl) (Bk rfl (Mf isAgg28 rfl C0 0 rfl rfl) (Eb rfl (Za rfl) ?_))))
 obtain ⟨ad7, hA7, hk7, hx7⟩ := hNa.int_elem (i := i) by_Om
 refine Ib rfl (v := .pointer (some (ad7.add (i * 1)))) (fun w hC => Ya (i := (i : Int)) Wf rfl hA7 rfl by_Om by_Om) (Ib rfl (v := .int .i64 (fa[i])) (fun w hC => Vb isAgg3 rfl (hC.cell0 hk7)) (Eb rfl (Gn rfl rfl) (Eb rfl (Lc rfl rfl) (Ic (Ja ?_)))))
 refine Bc rfl rfl (fun hc4 => ?_) (fun hc4 => ?_)
 refine Ha (Ca (Cc rfl) (Da ?_))
 refine Ud (v := .bool false) rfl rfl ?_
 refine ⟨false, rfl, ⟨fun h => (by cases h), fun h => ?_⟩, hF.same⟩
 exfalso
 have := (h.2.2 j by_Om by_Om).2.2 i by_Om by_Om
 omega
 refine Ra (Wb (Ja (Ga (Ca (Za rfl) (Ca (Di (((i + 1 : Nat) : Int)) rfl rfl) (Ca (Kb rfl) (Cb ?_)))))))
 refine Gb ⟨_, ?_, i + 1, rfl, by_Om, (fun z hz h hle => if e : z = i then (by subst e; omega) else hcl z hz by_Om hle), St, hF⟩
 omega
 refine Kg rfl ?_
 refine Kg rfl ?_
 refine Kg rfl ?_
 refine Kg rfl ?_
 refine Kg rfl ?_
 refine Kg rfl ?_
 refine Kg rfl ?_
 refine Kg rfl ?_
 refine Kg rfl ?_
 refine Kg rfl ?_
 refine Kg rfl ?_
 refine Eb rfl (Dc rfl rfl) (Ic (Ja (Xe rfl (Ra (Wb (Ja (Ga (Ca (Za rfl) (Ca (Di (((i + 1 : Nat) : Int)) rfl rfl) (Ca (Kb rfl) (Cb ?_)))))))))))
 refine Gb ⟨_, ?_, i + 1, rfl, by_Om, (fun z hz h hle => if e : z = i then (by subst e; omega) else hcl z hz by_Om hle), St, hF⟩
 omega
 refine Oc (Nc rfl ?_)
 refine Wb (Ja (Ga (Ca (Za rfl) (Ca (Di (((j + 1 : Nat) : Int)) rfl rfl) (Ca (Kb rfl) (Cb ?_))))))
 refine Gb ⟨_, ?_, j + 1, rfl, by_Om, (hok.snoc by_Om by_Om by_Om (fun z hz hle => hcl z hz by_Om hle)), Nv, hF⟩
 omega
 refine Oc (Nc rfl ?_)
 refine Ja (Ha (Ca (Cc rfl) (Da ?_)))
 refine Ud (v := .bool true) rfl rfl ?_
 obtain rfl : j = fa.length := by omega
 exact ⟨true, rfl, ⟨fun _ => ⟨hlf5.1, hlf5.2, hok⟩, fun _ => rfl⟩, hF.same⟩
end Go.Scarf
namespace Go.Scarf
open Go.RowKit Go.Proofs Go.Proofs.Tryz
def gx (n m i k j l : Nat) : Nat := ((i * (n + 1) + k) * (m + 1) + j) * (m + 1) + l
theorem CO {n m i k j l i' k' j' l' : Nat} (hk : k ≤ n) (hj : j ≤ m) (hl : l ≤ m) (hk' : k' ≤ n) (hj' : j' ≤ m) (hl' : l' ≤ m) (h : gx n m i k j l = gx n m i' k' j' l') : i = i' ∧ k = k' ∧ j = j' ∧ l = l' := by
  have h1 : gi m ((i * (n + 1) + k) * (m + 1) + j) l = gi m ((i' * (n + 1) + k') * (m + 1) + j') l' := h
  obtain ⟨h2, rfl⟩ := Q4 hl hl' h1
  have h3 : gi m (i * (n + 1) + k) j = gi m (i' * (n + 1) + k') j' := h2
  obtain ⟨h4, rfl⟩ := Q4 hj hj' h3
  have h5 : gi n i k = gi n i' k' := h4
  obtain ⟨rfl, rfl⟩ := Q4 hk hk' h5
  exact ⟨rfl, rfl, rfl, rfl⟩
theorem LR {n m i k j l : Nat} (hi : i ≤ n) (hk : k ≤ n) (hj : j ≤ m) (hl : l ≤ m) : gx n m i k j l < (n + 1) * (n + 1) * (m + 1) * (m + 1) := by
  have h1 := Rn (m := n) (n := n) (p := i) (q := k) hi hk
  have h2 : gi m (gi n i k) j < (n + 1) * (n + 1) * (m + 1) := by
    have := Rn (m := m) (n := (n + 1) * (n + 1) - 1) (p := gi n i k) (q := j) by_Om hj
    rwa [Nat.sub_add_cancel by_Om] at this
  have := Rn (m := m) (n := (n + 1) * (n + 1) * (m + 1) - 1) (p := gi m (gi n i k) j) (q := l) by_Om hl
  rw [Nat.sub_add_cancel by_Om] at this
  exact this
theorem CH {n m : Nat} (hn : n ≤ 80) (hm : m ≤ 80) : (n + 1) * (n + 1) * (m + 1) * (m + 1) ≤ 43046721 :=
  Nat.le_trans (Nat.mul_le_mul (Nat.mul_le_mul (Nat.mul_le_mul (Nat.succ_le_succ hn) (Nat.succ_le_succ hn)) (Nat.succ_le_succ hm)) (Nat.succ_le_succ hm)) Oa
def Xj (N : Nat) (f : Nat → Bool) : Array Value := ((List.range N).map fun k => Value.bool (f k)).toArray
theorem Sy {N k : Nat} {f : Nat → Bool} (h : k < N) : (Xj N f)[k]? = some (.bool (f k)) := by simp [Xj, h]
def PE (f : Nat → Bool) (k : Nat) : Nat → Bool := fun x => if x = k then true else f x
theorem T9 {N k : Nat} {f : Nat → Bool} : Wj (Xj N f) k [.bool true] = Xj N (PE f k) := by
  rw [Wj, Wj]
  apply Array.ext
  · simp [Xj]
  · intro i h1 h2
    rw [Array.getElem_setIfInBounds (by simpa using h1)]
    by_cases e : k = i
    · subst e; simp [Xj, PE]
    · have e' : ¬ i = k := fun h => e h.symm
      simp [Xj, PE, e, e']
theorem Ax (N : Nat) : (List.replicate N (Value.bool false)).toArray = Xj N fun _ => false := by
  apply Array.ext
  · simp [Xj]
  · intro i h1 h2
    simp [Xj]
def Sb (N0 hb cb : Nat) (b : Nat) : Prop := b < N0 ∧ b ≠ hb ∧ b ≠ cb
structure Tk (w : World) (N0 tb hb cb : Nat) (la : List Str) (fa : List Int) (lb : List Str) (fb : List Int) (Aa Ba Ab Bb : Option Addr) (k1 k2 k3 k4 : Nat) (N : Nat) (h : Nat → Bool) (f : Nat → Int) : Prop where
  cell : w.heap[tb]? = some (.cells #[.slice Aa la.length k1, .slice Ba fa.length k2, .slice Ab lb.length k3, .slice Bb fb.length k4, .int .i64 (la.length : Nat), .int .i64 (lb.length : Nat), .slice (some ⟨hb, 0, none⟩) N N, .slice (some ⟨cb, 0, none⟩) N N] 97)
  La : Rep (Sb N0 hb cb) w (We la) [.slice Aa la.length k1]
  Na : Rep (Sb N0 hb cb) w (.slice (fa.map Th)) [.slice Ba fa.length k2]
  Lb : Rep (Sb N0 hb cb) w (We lb) [.slice Ab lb.length k3]
  Nb : Rep (Sb N0 hb cb) w (.slice (fb.map Th)) [.slice Bb fb.length k4]
  had : w.heap[hb]? = some (.cells (Xj N h) 4)
  cost : w.heap[cb]? = some (.cells (Vd N f) 3)
  ne : tb ≠ hb ∧ tb ≠ cb ∧ hb ≠ cb
  lt : tb < N0 ∧ hb < N0 ∧ cb < N0
section
variable {w w' : World} {N0 tb hb cb : Nat} {la lb : List Str} {fa fb : List Int} {Aa Ba Ab Bb : Option Addr} {k1 k2 k3 k4 N : Nat} {h : Nat → Bool} {f : Nat → Int} {E : List Nat}
theorem Tk.ext (H : Tk w N0 tb hb cb la fa lb fb Aa Ba Ab Bb k1 k2 k3 k4 N h f) (hs : Same [] w w') : Tk w' N0 tb hb cb la fa lb fb Aa Ba Ab Bb k1 k2 k3 k4 N h f :=
  ⟨(hs.block _ (Jb H.cell) Sa).trans H.cell, H.La.ext hs, H.Na.ext hs, H.Lb.ext hs, H.Nb.ext hs, (hs.block _ (Jb H.had) Sa).trans H.had, (hs.block _ (Jb H.cost) Sa).trans H.cost, H.ne, H.lt⟩
theorem Tk.putH (H : Tk w N0 tb hb cb la fa lb fb Aa Ba Ab Bb k1 k2 k3 k4 N h f) {h' : Nat → Bool} (hs : Same [hb] w w') (hn : w'.heap[hb]? = some (.cells (Xj N h') 4)) : Tk w' N0 tb hb cb la fa lb fb Aa Ba Ab Bb k1 k2 k3 k4 N h' f := by
  have ns : ∀ b ∈ [hb], ¬ Sb N0 hb cb b := fun b hb h2 => h2.2.1 (List.mem_singleton.1 hb)
  exact ⟨(hs.block _ (Jb H.cell) (by simpa using H.ne.1)).trans H.cell, H.La.same hs ns, H.Na.same hs ns, H.Lb.same hs ns, H.Nb.same hs ns, hn, (hs.block _ (Jb H.cost) (by simpa using fun e => H.ne.2.2 e.symm)).trans H.cost, H.ne, H.lt⟩
theorem Tk.putC (H : Tk w N0 tb hb cb la fa lb fb Aa Ba Ab Bb k1 k2 k3 k4 N h f) {f' : Nat → Int} (hs : Same [cb] w w') (hn : w'.heap[cb]? = some (.cells (Vd N f') 3)) : Tk w' N0 tb hb cb la fa lb fb Aa Ba Ab Bb k1 k2 k3 k4 N h f' := by
  have ns : ∀ b ∈ [cb], ¬ Sb N0 hb cb b := fun b hb h2 => h2.2.2 (List.mem_singleton.1 hb)
  exact ⟨(hs.block _ (Jb H.cell) (by simpa using H.ne.2.1)).trans H.cell, H.La.same hs ns, H.Na.same hs ns, H.Lb.same hs ns, H.Nb.same hs ns, (hs.block _ (Jb H.had) (by simpa using H.ne.2.2)).trans H.had, hn, H.ne, H.lt⟩
theorem Tk.at (H : Tk w N0 tb hb cb la fa lb fb Aa Ba Ab Bb k1 k2 k3 k4 N h f) (q : Nat) {v : Value} (hv : #[Value.slice Aa la.length k1, .slice Ba fa.length k2, .slice Ab lb.length k3, .slice Bb fb.length k4, .int .i64 (la.length : Nat), .int .i64 (lb.length : Nat), .slice (some ⟨hb, 0, none⟩) N N, .slice (some ⟨cb, 0, none⟩) N N][q]? = some v) : w.cell? ⟨tb, q, none⟩ = some v := by
  rw [Hc H.cell q]; exact hv
end
def HadOk (A B : Nodes) (n m : Nat) (h : Nat → Bool) (f : Nat → Int) : Prop := ∀ i k j l, i ≤ n → k ≤ n → j ≤ m → l ≤ m → h (gx n m i k j l) = true → f (gx n m i k j l) = ((fd A B i k j l : Nat) : Int)
theorem HadOk.put {A B : Nodes} {n m i k j l : Nat} {h : Nat → Bool} {f : Nat → Int} (H : HadOk A B n m h f) (hk : k ≤ n) (hj : j ≤ m) (hl : l ≤ m) {b : Int} (hb : b = ((fd A B i k j l : Nat) : Int)) : HadOk A B n m (PE h (gx n m i k j l)) (Ci f (gx n m i k j l) b) := by
  intro i' k' j' l' hi' hk' hj' hl' ht
  by_cases e : gx n m i' k' j' l' = gx n m i k j l
  · obtain ⟨rfl, rfl, rfl, rfl⟩ := CO hk' hj' hl' hk hj hl e
    rw [Ky]; exact hb
  · rw [F4 e]
    refine H i' k' j' l' hi' hk' hj' hl' ?_
    unfold PE at ht
    rwa [if_neg e] at ht
theorem Ru {P : Program} {R : Exit → Act → World → Prop} {n : Nat} {k : Kt} {s : Nat → Value} {w : World} {ops rest : List Oper} {ty : TypeId} {pos : String} {aft : Array Edge} {g : Option (Nat × Bool)} {w0 : World} {Ds : List Nat} {bs : List (Nat × Obj)} {t T : TypeId} {x y : Operand} {b j m : Nat} {f : Nat → Bool} (hF : FR w0 Ds bs w) (hs : ∀ w, (sizeOf t).run P w = .ok 1 w)
    (hx : ev n s x = .pointer (some ⟨b, j, none⟩)) (hy : ev n s y = .bool true) (hh : w.heap[b]? = some (.cells (Xj m f) T)) (hj : j < m) (hD : b ∈ Ds) (hn : ∀ p ∈ bs, p.1 ≠ b)
    (h : ∀ w', FR w0 Ds bs w' → Same [b] w w' → w'.heap[b]? = some (.cells (Xj m (PE f j)) T) → Og P R n ops k rest s w')
    (hw : Mc ops n s ⟨none, .store t x y, ty, pos, aft, g⟩ = true := by rfl) : Og P R n ops k (⟨none, .store t x y, ty, pos, aft, g⟩ :: rest) s w := by
  have hsp := Uj b j (fz := (0, 0)) [.bool true] 0 w (Xj m f) hh
  rw [Nat.add_zero, T9] at hsp
  refine Kz (Cy (l := [.bool true]) hs hx hy rfl Se fun i hi => ?_) (h (putCells w ⟨b, j, none⟩ 0 [.bool true]) (hF.touch hsp.2 fun b' hb => ?_) hsp.2 hsp.1) hw
  · obtain rfl : i = 0 := by simp at hi; omega
    rw [Xm, Hc hh]
    exact ⟨⟨_, Sy hj⟩, Nk hh _⟩
  · obtain rfl := List.mem_singleton.1 hb
    exact ⟨fun _ => hD, hn⟩
def UT (N0 tb hb cb : Nat) (la : List Str) (fa : List Int) (lb : List Str) (fb : List Int) (Aa Ba Ab Bb : Option Addr) (k1 k2 k3 k4 N : Nat) (i k j l : Nat) : Prop := ∀ (w0 : World) (h : Nat → Bool) (f : Nat → Int), N0 ≤ w0.heap.size → Tk w0 N0 tb hb cb la fa lb fb Aa Ba Ab Bb k1 k2 k3 k4 N h f → HadOk (Xa la fa) (Xa lb fb) la.length lb.length h f → Calls prog 43 #[.pointer (some ⟨tb, 0, none⟩), .int .i64 ((i : Nat) : Int), .int .i64 ((k : Nat) : Int), .int .i64 ((j : Nat) : Int), .int .i64 ((l : Nat) : Int)] w0 (Ce fun v w' => ∃ (h' : Nat → Bool) (f' : Nat → Int), v = .int .i64 ((fd (Xa la fa) (Xa lb fb) i k j l : Nat) : Int) ∧ Tk w' N0 tb hb cb la fa lb fb Aa Ba Ab Bb k1 k2 k3 k4 N h' f' ∧ HadOk (Xa la fa) (Xa lb fb) la.length lb.length h' f' ∧ Same [hb, cb] w0 w')
theorem Xv {P : Program} {w : World} {ρ : Operand → Value} {dst : Option Nat} {ty : TypeId} {pos : String} {aft : Array Edge} {g : Option (Nat × Bool)} {x y : Operand} {ats : Array TypeId} {k : IntKind} {a b c : Int} (hx : ρ x = .int k a) (hy : ρ y = .int k b) (h : max a b = c) : (execOp ρ ⟨dst, .call ⟨.builtin .max, #[x, y], ats⟩, ty, pos, aft, g⟩).run P w = .ok (.value (.int k c)) w := h ▸ EJ hx hy
theorem P4 (N0 tb hb cb : Nat) (la : List Str) (fa : List Int) (lb : List Str) (fb : List Int) (Aa Ba Ab Bb : Option Addr) (k1 k2 k3 k4 N : Nat) (hN : N = (la.length + 1) * (la.length + 1) * (lb.length + 1) * (lb.length + 1)) (hNm : N ≤ 43046721) (hka : la.length = fa.length) (hkb : lb.length = fb.length) (hoa : lfOk fa fa.length) (hob : lfOk fb fb.length) (hn5 : la.length ≤ 512) (hm5 : lb.length ≤ 512) (i k j l : Nat) (hik : i ≤ k) (hkn : k ≤ la.length) (hjl : j ≤ l) (hlm : l ≤ lb.length) (ih : ∀ i' k' j' l', (k' - i') + (l' - j') < (k - i) + (l - j) → i' ≤ k' → k' ≤ la.length → j' ≤ l' → l' ≤ lb.length → UT N0 tb hb cb la fa lb fb Aa Ba Ab Bb k1 k2 k3 k4 N i' k' j' l') (w0 : World) (h : Nat → Bool) (f : Nat → Int) (hN0 : N0 ≤ w0.heap.size) (hT : Tk w0 N0 tb hb cb la fa lb fb Aa Ba Ab Bb k1 k2 k3 k4 N h f) (hH : HadOk (Xa la fa) (Xa lb fb) la.length lb.length h f) : Calls prog 43 #[.pointer (some ⟨tb, 0, none⟩), .int .i64 ((i : Nat) : Int), .int .i64 ((k : Nat) : Int), .int .i64 ((j : Nat) : Int), .int .i64 ((l : Nat) : Int)] w0 (Ce fun v w' => ∃ (h' : Nat → Bool) (f' : Nat → Int), v = .int .i64 ((fd (Xa la fa) (Xa lb fb) i k j l : Nat) : Int) ∧ Tk w' N0 tb hb cb la fa lb fb Aa Ba Ab Bb k1 k2 k3 k4 N h' f' ∧ HadOk (Xa la fa) (Xa lb fb) la.length lb.length h' f' ∧ Same [hb, cb] w0 w') := by
 refine Ma func43 rfl ntmps43 Qb (U4 _ _ _ _ _) ?_
 have hF := FR.start w0 [hb, cb]
 refine Ha (Ca (Kb rfl) (Da (Ia (Ha (Ca (Za rfl) (Ca (Za rfl) (Ca (Zv rfl rfl) (Da ?_))))))))
 refine Bc rfl rfl (fun hc0 => ?_) (fun hc0 => ?_)
 refine Ha (Ca (Za rfl) (Ca (Za rfl) (Ca (Jy (((l - j : Nat) : Int)) rfl rfl) (Ca (Kb rfl) (Da ?_)))))
 refine Ud (v := .int .i64 (((l - j : Nat) : Int))) rfl rfl ?_
 exact ⟨h, f, by rw [Om by_Om], hT, hH, hF.same⟩
 refine Ra (Ja (Ia (Ha (Ca (Za rfl) (Ca (Za rfl) (Ca (Zv rfl rfl) (Da ?_)))))))
 refine Bc rfl rfl (fun hc1 => ?_) (fun hc1 => ?_)
 refine Ha (Ca (Za rfl) (Ca (Za rfl) (Ca (Jy (((k - i : Nat) : Int)) rfl rfl) (Ca (Kb rfl) (Da ?_)))))
 refine Ud (v := .int .i64 (((k - i : Nat) : Int))) rfl rfl ?_
 exact ⟨h, f, by rw [Lp by_Om], hT, hH, hF.same⟩
 refine Ra (Ja (Ia ?_))
 have hbnd := (Bj (Xa la fa) (Xa lb fb) _ i k j l (Nat.le_refl _)).1
 have hgl : gx la.length lb.length i k j l < N := by rw [hN]; exact LR by_Om by_Om by_Om by_Om
 have q1 : i * (la.length + 1) + k ≤ (i * (la.length + 1) + k) * (lb.length + 1) + j := by have : (i * (la.length + 1) + k) * 1 ≤ (i * (la.length + 1) + k) * (lb.length + 1) := Nat.mul_le_mul_left _ by_Om; omega
 have q2 : (i * (la.length + 1) + k) * (lb.length + 1) + j ≤ gx la.length lb.length i k j l := by have : ((i * (la.length + 1) + k) * (lb.length + 1) + j) * 1 ≤ ((i * (la.length + 1) + k) * (lb.length + 1) + j) * (lb.length + 1) := Nat.mul_le_mul_left _ by_Om; rw [gx]; omega
 have q3 : ((i * (la.length + 1) + k) * (lb.length + 1) + j) * (lb.length + 1) ≤ gx la.length lb.length i k j l := by rw [gx]; omega
 refine De [] (.free 0 (.free 1 (.free 2 (.free 3 (.free 4 (.free 5 (.free 6 (.free 7 (.free 8 (.free 9 (.free 10 (.free 11 (.free 12 (.free 13 (.free 14 (.free 15 (.free 16 (.free 17 (.free 18 (.free 19 (.free 20 (.free 21 (.free 22 (.free 23 (.free 24 (.free 25 .nil)))))))))))))))))))))))))) hF ?_
 clear hF; intro w hF hE
 replace hT := hT.ext hE
 clear hE
 refine ⟨fun wq => FR w0 [hb, cb] _ wq ∧ Tk wq N0 tb hb cb la fa lb fb Aa Ba Ab Bb k1 k2 k3 k4 N h f, ⟨hF, hT⟩, ?_⟩
 refine Eb rfl (Za rfl) (Eb rfl (Of rfl) (Eb rfl (Vg rfl) (Eb rfl (Fc FK rfl) (Ib rfl (v := .int .i64 ((la.length : Nat))) (fun w hC => Vb isAgg3 rfl (hC.2.at 4 rfl)) (Eb rfl (Di (((la.length + 1 : Nat) : Int)) rfl rfl) ?_)))))
 refine Ib rfl (v := .int .i64 (((i * (la.length + 1) : Nat) : Int))) (fun w hC => Im rfl rfl (Me (by simp only [Int.natCast_mul, Int.natCast_add]) by_Om by_Om)) ?_
 refine Eb rfl (Za rfl) (Eb rfl (Di (((i * (la.length + 1) + k : Nat) : Int)) rfl rfl) (Eb rfl (Of rfl) (Eb rfl (Vg rfl) (Eb rfl (Fc PA rfl) (Ib rfl (v := .int .i64 ((lb.length : Nat))) (fun w hC => Vb isAgg3 rfl (hC.2.at 5 rfl)) (Eb rfl (Di (((lb.length + 1 : Nat) : Int)) rfl rfl) ?_))))))
 refine Ib rfl (v := .int .i64 ((((i * (la.length + 1) + k) * (lb.length + 1) : Nat) : Int))) (fun w hC => Im rfl rfl (Me (by simp only [Int.natCast_mul, Int.natCast_add]) by_Om by_Om)) ?_
 refine Eb rfl (Za rfl) (Eb rfl (Di ((((i * (la.length + 1) + k) * (lb.length + 1) + j : Nat) : Int)) rfl rfl) (Eb rfl (Of rfl) (Eb rfl (Vg rfl) (Eb rfl (Fc PA rfl) (Ib rfl (v := .int .i64 ((lb.length : Nat))) (fun w hC => Vb isAgg3 rfl (hC.2.at 5 rfl)) (Eb rfl (Di (((lb.length + 1 : Nat) : Int)) rfl rfl) ?_))))))
 refine Ib rfl (v := .int .i64 (((((i * (la.length + 1) + k) * (lb.length + 1) + j) * (lb.length + 1) : Nat) : Int))) (fun w hC => Im rfl rfl (Me (by simp only [Int.natCast_mul, Int.natCast_add]) by_Om by_Om)) ?_
 refine Eb rfl (Za rfl) ?_
 refine Ib rfl (v := .int .i64 (((gx la.length lb.length i k j l : Nat) : Int))) (fun w hC => Tq rfl rfl (Me (by rw [gx]; omega) by_Om by_Om)) ?_
 refine Eb rfl (Kb rfl) (Ic (Ja (Ia (Ha (Ca (Of rfl) (Ca (Vg rfl) (Ca (Fc Qu rfl) (Fa (v := .slice (some ⟨hb, 0, none⟩) N N) (Vb isAgg95 rfl (hT.at 6 rfl)) (Ca (Za rfl) (Fa (v := .pointer (some ⟨hb, gx la.length lb.length i k j l, none⟩)) (Gd (i := ((gx la.length lb.length i k j l : Nat) : Int)) (gx la.length lb.length i k j l) J7 rfl rfl by_Om by_Om by_Om) ?_))))))))))
 refine Fa (v := .bool (h (gx la.length lb.length i k j l))) (Vb isAgg4 rfl (by rw [Hc hT.had]; exact Sy hgl)) ?_
 refine Da ?_
 refine Vh rfl rfl (fun hc2 => ?_) (fun hc2 => ?_)
 refine Ha (Ca (Of rfl) (Ca (Vg rfl) (Ca (Fc Cv rfl) (Fa (v := .slice (some ⟨cb, 0, none⟩) N N) (Vb isAgg28 rfl (hT.at 7 rfl)) (Ca (Za rfl) (Fa (v := .pointer (some ⟨cb, gx la.length lb.length i k j l, none⟩)) (Gd (i := ((gx la.length lb.length i k j l : Nat) : Int)) (gx la.length lb.length i k j l) Wf rfl rfl by_Om by_Om by_Om) ?_))))))
 refine Fa (v := .int .i64 ((fd (Xa la fa) (Xa lb fb) i k j l : Nat))) (Vb isAgg3 rfl (by rw [Hc hT.cost, Ap hgl, hH i k j l by_Om by_Om by_Om by_Om (by assumption)])) ?_
 refine Ca (Kb rfl) (Da ?_)
 refine Ud (v := .int .i64 ((fd (Xa la fa) (Xa lb fb) i k j l : Nat))) rfl rfl ?_
 exact ⟨h, f, rfl, hT, hH, hF.same⟩
 refine Ra (Ja (Ha (Ca (Za rfl) (Ca (Jy (((k - 1 : Nat) : Int)) rfl rfl) (Ca (Kb rfl) (Yb (Ca (Za rfl) (Ca (Jy (((l - 1 : Nat) : Int)) rfl rfl) (Ca (Kb rfl) ?_)))))))))
 refine Yb (Ca (Kb rfl) (Da ?_))
 obtain ⟨adl, hadl⟩ : ∃ ad, Aa = some ad := by obtain ⟨ad, h, -⟩ := hT.La.str_elem (i := k - 1) by_Om; exact ⟨ad, h⟩
 obtain ⟨adm, hadm⟩ : ∃ ad, Ab = some ad := by obtain ⟨ad, h, -⟩ := hT.Lb.str_elem (i := l - 1) by_Om; exact ⟨ad, h⟩
 obtain ⟨adn, hadn⟩ := X2 hT.Na by_Om
 obtain ⟨ado, hado⟩ := X2 hT.Nb by_Om
 obtain ⟨pu, hpu0⟩ : ∃ z, z = Rh fa (k - 1) := ⟨_, rfl⟩
 obtain ⟨pv, hpv0⟩ : ∃ z, z = Rh fb (l - 1) := ⟨_, rfl⟩
 have hpu : fa[k - 1] = (pu : Int) := by rw [hpu0]; exact (hoa.at by_Om by_Om).symm
 have hpv : fb[l - 1] = (pv : Int) := by rw [hpv0]; exact (hob.at by_Om by_Om).symm
 have hpuk : pu ≤ k - 1 := by rw [hpu0]; exact Nat.min_le_right _ _
 have hpvl : pv ≤ l - 1 := by rw [hpv0]; exact Nat.min_le_right _ _
 have hst := Qr (a := Xa la fa) (b := Xa lb fb) (i := i) (k := k) (j := j) (l := l) by_Om by_Om
 have ea1 : (Xa la fa).lf (k - 1) = pu := hpu0.symm
 have eb1 : (Xa lb fb).lf (l - 1) = pv := hpv0.symm
 rw [ea1, eb1] at hst
 have hturn : turn (Xa la fa) (Xa lb fb) (k - 1) (l - 1) = if la[k - 1] = lb[l - 1] then 0 else 1 := by simp [turn, Xa, List.getD, show k - 1 < la.length by omega, show l - 1 < lb.length by omega]
 have m1 := (Bj (Xa la fa) (Xa lb fb) _ i (k - 1) j l (Nat.le_refl _)).1
 have m2 := (Bj (Xa la fa) (Xa lb fb) _ i k j (l - 1) (Nat.le_refl _)).1
 have m3 := (Bj (Xa la fa) (Xa lb fb) _ i pu j pv (Nat.le_refl _)).1
 have m4 := (Bj (Xa la fa) (Xa lb fb) _ pu (k - 1) pv (l - 1) (Nat.le_refl _)).1
 refine Ia ?_
 refine Hf (fun σ w => ∃ (tt : Nat), (tt = turn (Xa la fa) (Xa lb fb) (k - 1) (l - 1)) ∧ (Tk w N0 tb hb cb la fa lb fb Aa Ba Ab Bb k1 k2 k3 k4 N h f) ∧ AllEq σ [(0, .pointer (some ⟨tb, 0, none⟩)), (1, .int .i64 ((i : Nat))), (2, .int .i64 ((k : Nat))), (3, .int .i64 ((j : Nat))), (4, .int .i64 ((l : Nat))), (11, .int .i64 (((gx la.length lb.length i k j l : Nat) : Int))), (12, .int .i64 (((k - 1 : Nat) : Int))), (13, .int .i64 (((l - 1 : Nat) : Int))), (14, .int .i64 ((tt : Nat)))] ∧ FR w0 [hb, cb] [] w) ?_ ?_
 refine Ia ?_
 refine De [] (.free 0 (.free 1 (.free 2 (.free 3 (.free 4 (.free 5 (.free 6 (.free 7 (.free 8 (.free 9 (.free 10 (.free 11 (.free 12 (.free 13 (.free 14 (.free 15 (.free 16 .nil))))))))))))))))) hF ?_
 clear hF; intro w hF hE
 replace hT := hT.ext hE
 clear hE
 refine ⟨fun wq => FR w0 [hb, cb] _ wq ∧ Tk wq N0 tb hb cb la fa lb fb Aa Ba Ab Bb k1 k2 k3 k4 N h f, ⟨hF, hT⟩, ?_⟩
 refine Eb rfl (Of rfl) (Eb rfl (Vg rfl) (Eb rfl (Fc Sr rfl) (Eb rfl (Fc Ed rfl) (Ib rfl (v := .slice Aa la.length k1) (fun w hC => Vb isAgg22 rfl (hC.2.at 0 rfl)) (Eb rfl (Za rfl) (Ib rfl (v := .pointer (some (adl.add ((k - 1) * 1)))) (fun w hC => Ya (i := ((k - 1 : Nat) : Int)) Pj rfl hadl rfl by_Om by_Om) (Ib rfl (v := .string (bs (la[k - 1]))) (fun w hC => Vb isAgg9 rfl (E9 hC.2.La hadl by_Om)) (Eb rfl (Of rfl) (Eb rfl (Vg rfl) (Eb rfl (Fc Du rfl) (Eb rfl (Fc Ed rfl) (Ib rfl (v := .slice Ab lb.length k3) (fun w hC => Vb isAgg22 rfl (hC.2.at 2 rfl)) (Eb rfl (Za rfl) ?_)))))))))))))
 refine Ib rfl (v := .pointer (some (adm.add ((l - 1) * 1)))) (fun w hC => Ya (i := ((l - 1 : Nat) : Int)) Pj rfl hadm rfl by_Om by_Om) (Ib rfl (v := .string (bs (lb[l - 1]))) (fun w hC => Vb isAgg9 rfl (E9 hC.2.Lb hadm by_Om)) (Eb rfl (Mv rfl rfl) (Ic (Ja ?_))))
 refine Bc rfl rfl (fun hc3 => ?_) (fun hc3 => ?_)
 refine Ga (Ca (Kb rfl) (Cb ?_))
 exact Gb ⟨(0), (by rw [hturn, if_pos (by assumption)]), (hT), Ro, hF⟩
 refine Ra ?_
 exact Gb ⟨(1), (by rw [hturn, if_neg (by assumption)]), (hT), Ro, hF⟩
 clear hF; rintro σ w ⟨tt, htt, hT, hs, hF⟩
 refine Eg.slots hs ?_
 clear hs; intro σ
 have htt1 : tt ≤ 1 := by rw [htt]; unfold turn; split <;> omega
 refine Ja (Ha (Ca (Of rfl) (Ca (Za rfl) (Ca (Za rfl) (Ca (Za rfl) (Ca (Za rfl) ?_))))))
 refine Zb (ih i (k - 1) j (l) by_Om by_Om by_Om by_Om by_Om _ _ _ (Nat.le_trans hN0 hF.same.size) hT hH) (Tl P5 rfl rfl rfl rfl rfl rfl) ?_
 rintro _ w ⟨h_, f_, rfl, hT_, hH_, hE⟩
 replace hF := hF.touch hE (fun b hb => ⟨fun _ => hb, fun z hz => by cases hz⟩)
 clear hT hH hE
 have hT := hT_
 have hH := hH_
 clear hT_ hH_
 refine Ca (Of rfl) (Ca (Za rfl) (Ca (Za rfl) (Ca (Za rfl) (Ca (Za rfl) ?_))))
 refine Zb (ih i (k) j (l - 1) by_Om by_Om by_Om by_Om by_Om _ _ _ (Nat.le_trans hN0 hF.same.size) hT hH) (Tl P5 rfl rfl rfl rfl rfl rfl) ?_
 rintro _ w ⟨h_, f_, rfl, hT_, hH_, hE⟩
 replace hF := hF.touch hE (fun b hb => ⟨fun _ => hb, fun z hz => by cases hz⟩)
 clear hT hH hE
 have hT := hT_
 have hH := hH_
 clear hT_ hH_
 refine Fa (v := .int .i64 (min ((fd (Xa la fa) (Xa lb fb) i (k - 1) j l : Nat) : Int) ((fd (Xa la fa) (Xa lb fb) i k j (l - 1) : Nat) : Int))) (U2 rfl rfl) (Ca (El rfl rfl) (Ca (Kb rfl) (Yb (Ca (Of rfl) (Ca (Vg rfl) (Ca (Fc Sr rfl) (Ca (Fc Kd rfl) (Fa (v := .slice Ba fa.length k2) (Vb isAgg28 rfl (hT.at 1 rfl)) (Ca (Za rfl) (Fa (v := .pointer (some (adn.add ((k - 1) * 1)))) (Ya (i := ((k - 1 : Nat) : Int)) Wf rfl hadn rfl by_Om by_Om) ?_))))))))))
 refine Fa (v := .int .i64 ((pu : Nat))) (Vb isAgg3 rfl (by rw [← hpu]; exact Nn hT.Na hadn by_Om)) ?_
 refine Ca (Za rfl) ?_
 by_cases hmu : i ≤ pu
 refine Fa (v := .int .i64 ((pu : Nat))) (Xv rfl rfl by_Om) (Ca (Kb rfl) (Yb (Ca (Of rfl) (Ca (Vg rfl) (Ca (Fc Du rfl) (Ca (Fc Kd rfl) (Fa (v := .slice Bb fb.length k4) (Vb isAgg28 rfl (hT.at 3 rfl)) (Ca (Za rfl) (Fa (v := .pointer (some (ado.add ((l - 1) * 1)))) (Ya (i := ((l - 1 : Nat) : Int)) Wf rfl hado rfl by_Om by_Om) ?_)))))))))
 refine Fa (v := .int .i64 ((pv : Nat))) (Vb isAgg3 rfl (by rw [← hpv]; exact Nn hT.Nb hado by_Om)) ?_
 refine Ca (Za rfl) ?_
 by_cases hmv : j ≤ pv
 refine Fa (v := .int .i64 ((pv : Nat))) (Xv rfl rfl by_Om) (Ca (Kb rfl) (Da (Ia (Ha (Ca (Za rfl) (Ca (Of rfl) (Ca (Vg rfl) (Ca (Fc Sr rfl) (Ca (Fc Kd rfl) (Fa (v := .slice Ba fa.length k2) (Vb isAgg28 rfl (hT.at 1 rfl)) (Ca (Za rfl) ?_)))))))))))
 refine Fa (v := .pointer (some (adn.add ((k - 1) * 1)))) (Ya (i := ((k - 1 : Nat) : Int)) Wf rfl hadn rfl by_Om by_Om) ?_
 refine Fa (v := .int .i64 ((pu : Nat))) (Vb isAgg3 rfl (by rw [← hpu]; exact Nn hT.Na hadn by_Om)) ?_
 refine Fa (v := .bool true) (Sc (Bg rfl rfl) rfl) (Ca (Jc rfl) (Ca (Za rfl) (Ca (Of rfl) (Ca (Vg rfl) (Ca (Fc Du rfl) (Ca (Fc Kd rfl) (Fa (v := .slice Bb fb.length k4) (Vb isAgg28 rfl (hT.at 3 rfl)) (Ca (Za rfl) (Fa (v := .pointer (some (ado.add ((l - 1) * 1)))) (Ya (i := ((l - 1 : Nat) : Int)) Wf rfl hado rfl by_Om by_Om) ?_)))))))))
 refine Fa (v := .int .i64 ((pv : Nat))) (Vb isAgg3 rfl (by rw [← hpv]; exact Nn hT.Nb hado by_Om)) ?_
 refine Fa (v := .bool true) (Sc (Bg rfl rfl) rfl) (Ca (Lc rfl rfl) (Da (Qd rfl (Ga (Ca (Za rfl) (Ca (Of rfl) (Ca (Za rfl) (Ca (Za rfl) (Ca (Za rfl) (Ca (Za rfl) ?_))))))))))
 refine Zb (ih i (pu) j (pv) by_Om by_Om by_Om by_Om by_Om _ _ _ (Nat.le_trans hN0 hF.same.size) hT hH) (Tl P5 rfl rfl rfl rfl rfl rfl) ?_
 rintro _ w ⟨h_, f_, rfl, hT_, hH_, hE⟩
 replace hF := hF.touch hE (fun b hb => ⟨fun _ => hb, fun z hz => by cases hz⟩)
 clear hT hH hE
 have hT := hT_
 have hH := hH_
 clear hT_ hH_
 refine Ca (Of rfl) (Ca (Za rfl) (Ca (Za rfl) (Ca (Za rfl) (Ca (Za rfl) ?_))))
 refine Zb (ih pu (k - 1) pv (l - 1) by_Om by_Om by_Om by_Om by_Om _ _ _ (Nat.le_trans hN0 hF.same.size) hT hH) (Tl P5 rfl rfl rfl rfl rfl rfl) ?_
 rintro _ w ⟨h_, f_, rfl, hT_, hH_, hE⟩
 replace hF := hF.touch hE (fun b hb => ⟨fun _ => hb, fun z hz => by cases hz⟩)
 clear hT hH hE
 have hT := hT_
 have hH := hH_
 clear hT_ hH_
 refine Ca (El rfl rfl) (Ca (Za rfl) (Ca (El rfl rfl) (Fa (v := .int .i64 (min ((min ((fd (Xa la fa) (Xa lb fb) i (k - 1) j l : Nat) : Int) ((fd (Xa la fa) (Xa lb fb) i k j (l - 1) : Nat) : Int) : Int) + 1 : Int) ((((fd (Xa la fa) (Xa lb fb) i pu j pv : Nat) : Int) + (fd (Xa la fa) (Xa lb fb) pu (k - 1) pv (l - 1) : Nat) : Int) + (tt : Nat) : Int))) (U2 rfl rfl) (Ca (Kb rfl) (Da (Ia ?_))))))
 have hbest : (min ((min ((fd (Xa la fa) (Xa lb fb) i (k - 1) j l : Nat) : Int) ((fd (Xa la fa) (Xa lb fb) i k j (l - 1) : Nat) : Int) : Int) + 1 : Int) ((((fd (Xa la fa) (Xa lb fb) i pu j pv : Nat) : Int) + (fd (Xa la fa) (Xa lb fb) pu (k - 1) pv (l - 1) : Nat) : Int) + (tt : Nat) : Int) : Int) = ((fd (Xa la fa) (Xa lb fb) i k j l : Nat) : Int) := by rw [hst, if_pos ⟨hmu, hmv⟩, ← htt]; omega
 refine Ga (Ca (Of rfl) (Ca (Vg rfl) (Ca (Fc Qu rfl) (Fa (v := .slice (some ⟨hb, 0, none⟩) N N) (Vb isAgg95 rfl (hT.at 6 rfl)) (Ca (Za rfl) (Fa (v := .pointer (some ⟨hb, gx la.length lb.length i k j l, none⟩)) (Gd (i := ((gx la.length lb.length i k j l : Nat) : Int)) (gx la.length lb.length i k j l) J7 rfl rfl by_Om by_Om by_Om) ?_))))))
 refine Ru hF sizeOf4 rfl rfl hT.had hgl Sa Sa ?_
 clear hF; intro w hF hE hnew
 replace hT := hT.putH hE hnew
 clear hE hnew
 refine Yb (Ca (Of rfl) (Ca (Vg rfl) (Ca (Fc Cv rfl) (Fa (v := .slice (some ⟨cb, 0, none⟩) N N) (Vb isAgg28 rfl (hT.at 7 rfl)) (Ca (Za rfl) (Ca (Za rfl) (Fa (v := .pointer (some ⟨cb, gx la.length lb.length i k j l, none⟩)) (Gd (i := ((gx la.length lb.length i k j l : Nat) : Int)) (gx la.length lb.length i k j l) Wf rfl rfl by_Om by_Om by_Om) ?_)))))))
 refine Sq hF sizeOf3 rfl rfl hT.cost hgl Sa Sa ?_
 clear hF; intro w hF hE hnew
 replace hT := hT.putC hE hnew
 clear hE hnew
 refine Yb (Ca (Za rfl) (Ca (Kb rfl) (Da ?_)))
 refine Pb (Ob (Qa (Do (v := .int .i64 (min ((min ((fd (Xa la fa) (Xa lb fb) i (k - 1) j l : Nat) : Int) ((fd (Xa la fa) (Xa lb fb) i k j (l - 1) : Nat) : Int) : Int) + 1 : Int) ((((fd (Xa la fa) (Xa lb fb) i pu j pv : Nat) : Int) + (fd (Xa la fa) (Xa lb fb) pu (k - 1) pv (l - 1) : Nat) : Int) + (tt : Nat) : Int))) rfl rfl) ?_))
 exact ⟨_, _, by rw [hbest], hT, hH.put by_Om by_Om by_Om hbest, hF.same⟩
 refine Fa (v := .int .i64 ((j : Nat))) (Xv rfl rfl by_Om) (Ca (Kb rfl) (Da (Ia (Ha (Ca (Za rfl) (Ca (Of rfl) (Ca (Vg rfl) (Ca (Fc Sr rfl) (Ca (Fc Kd rfl) (Fa (v := .slice Ba fa.length k2) (Vb isAgg28 rfl (hT.at 1 rfl)) (Ca (Za rfl) ?_)))))))))))
 refine Fa (v := .pointer (some (adn.add ((k - 1) * 1)))) (Ya (i := ((k - 1 : Nat) : Int)) Wf rfl hadn rfl by_Om by_Om) ?_
 refine Fa (v := .int .i64 ((pu : Nat))) (Vb isAgg3 rfl (by rw [← hpu]; exact Nn hT.Na hadn by_Om)) ?_
 refine Fa (v := .bool true) (Sc (Bg rfl rfl) rfl) (Ca (Jc rfl) (Ca (Za rfl) (Ca (Of rfl) (Ca (Vg rfl) (Ca (Fc Du rfl) (Ca (Fc Kd rfl) (Fa (v := .slice Bb fb.length k4) (Vb isAgg28 rfl (hT.at 3 rfl)) (Ca (Za rfl) (Fa (v := .pointer (some (ado.add ((l - 1) * 1)))) (Ya (i := ((l - 1 : Nat) : Int)) Wf rfl hado rfl by_Om by_Om) ?_)))))))))
 refine Fa (v := .int .i64 ((pv : Nat))) (Vb isAgg3 rfl (by rw [← hpv]; exact Nn hT.Nb hado by_Om)) ?_
 refine Fa (v := .bool false) (Dd (Bg rfl rfl) by_Om) (Ca (Lc rfl rfl) (Da (Ni rfl (Ia ?_))))
 have hbest : ((min ((fd (Xa la fa) (Xa lb fb) i (k - 1) j l : Nat) : Int) ((fd (Xa la fa) (Xa lb fb) i k j (l - 1) : Nat) : Int) : Int) + 1 : Int) = ((fd (Xa la fa) (Xa lb fb) i k j l : Nat) : Int) := by rw [hst, if_neg by_Om]; omega
 refine Ga (Ca (Of rfl) (Ca (Vg rfl) (Ca (Fc Qu rfl) (Fa (v := .slice (some ⟨hb, 0, none⟩) N N) (Vb isAgg95 rfl (hT.at 6 rfl)) (Ca (Za rfl) (Fa (v := .pointer (some ⟨hb, gx la.length lb.length i k j l, none⟩)) (Gd (i := ((gx la.length lb.length i k j l : Nat) : Int)) (gx la.length lb.length i k j l) J7 rfl rfl by_Om by_Om by_Om) ?_))))))
 refine Ru hF sizeOf4 rfl rfl hT.had hgl Sa Sa ?_
 clear hF; intro w hF hE hnew
 replace hT := hT.putH hE hnew
 clear hE hnew
 refine Yb (Ca (Of rfl) (Ca (Vg rfl) (Ca (Fc Cv rfl) (Fa (v := .slice (some ⟨cb, 0, none⟩) N N) (Vb isAgg28 rfl (hT.at 7 rfl)) (Ca (Za rfl) (Ca (Za rfl) (Fa (v := .pointer (some ⟨cb, gx la.length lb.length i k j l, none⟩)) (Gd (i := ((gx la.length lb.length i k j l : Nat) : Int)) (gx la.length lb.length i k j l) Wf rfl rfl by_Om by_Om by_Om) ?_)))))))
 refine Sq hF sizeOf3 rfl rfl hT.cost hgl Sa Sa ?_
 clear hF; intro w hF hE hnew
 replace hT := hT.putC hE hnew
 clear hE hnew
 refine Yb (Ca (Za rfl) (Ca (Kb rfl) (Da ?_)))
 refine Pb (Ob (Qa (Do (v := .int .i64 ((min ((fd (Xa la fa) (Xa lb fb) i (k - 1) j l : Nat) : Int) ((fd (Xa la fa) (Xa lb fb) i k j (l - 1) : Nat) : Int) : Int) + 1)) rfl rfl) ?_))
 exact ⟨_, _, by rw [hbest], hT, hH.put by_Om by_Om by_Om hbest, hF.same⟩
 refine Fa (v := .int .i64 ((i : Nat))) (Xv rfl rfl by_Om) (Ca (Kb rfl) (Yb (Ca (Of rfl) (Ca (Vg rfl) (Ca (Fc Du rfl) (Ca (Fc Kd rfl) (Fa (v := .slice Bb fb.length k4) (Vb isAgg28 rfl (hT.at 3 rfl)) (Ca (Za rfl) (Fa (v := .pointer (some (ado.add ((l - 1) * 1)))) (Ya (i := ((l - 1 : Nat) : Int)) Wf rfl hado rfl by_Om by_Om) ?_)))))))))
 refine Fa (v := .int .i64 ((pv : Nat))) (Vb isAgg3 rfl (by rw [← hpv]; exact Nn hT.Nb hado by_Om)) ?_
 refine Ca (Za rfl) ?_
 by_cases hmv : j ≤ pv
 refine Fa (v := .int .i64 ((pv : Nat))) (Xv rfl rfl by_Om) (Ca (Kb rfl) (Da (Ia (Ha (Ca (Za rfl) (Ca (Of rfl) (Ca (Vg rfl) (Ca (Fc Sr rfl) (Ca (Fc Kd rfl) (Fa (v := .slice Ba fa.length k2) (Vb isAgg28 rfl (hT.at 1 rfl)) (Ca (Za rfl) ?_)))))))))))
 refine Fa (v := .pointer (some (adn.add ((k - 1) * 1)))) (Ya (i := ((k - 1 : Nat) : Int)) Wf rfl hadn rfl by_Om by_Om) ?_
 refine Fa (v := .int .i64 ((pu : Nat))) (Vb isAgg3 rfl (by rw [← hpu]; exact Nn hT.Na hadn by_Om)) ?_
 refine Fa (v := .bool false) (Dd (Bg rfl rfl) by_Om) (Ca (Jc rfl) (Ea (Ea (Ea (Ea (Ea (Ea (Ea (Ea (Ea (Ea (Ca (Dc rfl rfl) (Cb ?_)))))))))))))
 refine Ja (Ni rfl (Ia ?_))
 have hbest : ((min ((fd (Xa la fa) (Xa lb fb) i (k - 1) j l : Nat) : Int) ((fd (Xa la fa) (Xa lb fb) i k j (l - 1) : Nat) : Int) : Int) + 1 : Int) = ((fd (Xa la fa) (Xa lb fb) i k j l : Nat) : Int) := by rw [hst, if_neg by_Om]; omega
 refine Ga (Ca (Of rfl) (Ca (Vg rfl) (Ca (Fc Qu rfl) (Fa (v := .slice (some ⟨hb, 0, none⟩) N N) (Vb isAgg95 rfl (hT.at 6 rfl)) (Ca (Za rfl) (Fa (v := .pointer (some ⟨hb, gx la.length lb.length i k j l, none⟩)) (Gd (i := ((gx la.length lb.length i k j l : Nat) : Int)) (gx la.length lb.length i k j l) J7 rfl rfl by_Om by_Om by_Om) ?_))))))
 refine Ru hF sizeOf4 rfl rfl hT.had hgl Sa Sa ?_
 clear hF; intro w hF hE hnew
 replace hT := hT.putH hE hnew
 clear hE hnew
 refine Yb (Ca (Of rfl) (Ca (Vg rfl) (Ca (Fc Cv rfl) (Fa (v := .slice (some ⟨cb, 0, none⟩) N N) (Vb isAgg28 rfl (hT.at 7 rfl)) (Ca (Za rfl) (Ca (Za rfl) (Fa (v := .pointer (some ⟨cb, gx la.length lb.length i k j l, none⟩)) (Gd (i := ((gx la.length lb.length i k j l : Nat) : Int)) (gx la.length lb.length i k j l) Wf rfl rfl by_Om by_Om by_Om) ?_)))))))
 refine Sq hF sizeOf3 rfl rfl hT.cost hgl Sa Sa ?_
 clear hF; intro w hF hE hnew
 replace hT := hT.putC hE hnew
 clear hE hnew
 refine Yb (Ca (Za rfl) (Ca (Kb rfl) (Da ?_)))
 refine Pb (Ob (Qa (Do (v := .int .i64 ((min ((fd (Xa la fa) (Xa lb fb) i (k - 1) j l : Nat) : Int) ((fd (Xa la fa) (Xa lb fb) i k j (l - 1) : Nat) : Int) : Int) + 1)) rfl rfl) ?_))
 exact ⟨_, _, by rw [hbest], hT, hH.put by_Om by_Om by_Om hbest, hF.same⟩
 refine Fa (v := .int .i64 ((j : Nat))) (Xv rfl rfl by_Om) (Ca (Kb rfl) (Da (Ia (Ha (Ca (Za rfl) (Ca (Of rfl) (Ca (Vg rfl) (Ca (Fc Sr rfl) (Ca (Fc Kd rfl) (Fa (v := .slice Ba fa.length k2) (Vb isAgg28 rfl (hT.at 1 rfl)) (Ca (Za rfl) ?_)))))))))))
 refine Fa (v := .pointer (some (adn.add ((k - 1) * 1)))) (Ya (i := ((k - 1 : Nat) : Int)) Wf rfl hadn rfl by_Om by_Om) ?_
 refine Fa (v := .int .i64 ((pu : Nat))) (Vb isAgg3 rfl (by rw [← hpu]; exact Nn hT.Na hadn by_Om)) ?_
 refine Fa (v := .bool false) (Dd (Bg rfl rfl) by_Om) (Ca (Jc rfl) (Ea (Ea (Ea (Ea (Ea (Ea (Ea (Ea (Ea (Ea (Ca (Dc rfl rfl) (Cb ?_)))))))))))))
 refine Ja (Ni rfl (Ia ?_))
 have hbest : ((min ((fd (Xa la fa) (Xa lb fb) i (k - 1) j l : Nat) : Int) ((fd (Xa la fa) (Xa lb fb) i k j (l - 1) : Nat) : Int) : Int) + 1 : Int) = ((fd (Xa la fa) (Xa lb fb) i k j l : Nat) : Int) := by rw [hst, if_neg by_Om]; omega
 refine Ga (Ca (Of rfl) (Ca (Vg rfl) (Ca (Fc Qu rfl) (Fa (v := .slice (some ⟨hb, 0, none⟩) N N) (Vb isAgg95 rfl (hT.at 6 rfl)) (Ca (Za rfl) (Fa (v := .pointer (some ⟨hb, gx la.length lb.length i k j l, none⟩)) (Gd (i := ((gx la.length lb.length i k j l : Nat) : Int)) (gx la.length lb.length i k j l) J7 rfl rfl by_Om by_Om by_Om) ?_))))))
 refine Ru hF sizeOf4 rfl rfl hT.had hgl Sa Sa ?_
 clear hF; intro w hF hE hnew
 replace hT := hT.putH hE hnew
 clear hE hnew
 refine Yb (Ca (Of rfl) (Ca (Vg rfl) (Ca (Fc Cv rfl) (Fa (v := .slice (some ⟨cb, 0, none⟩) N N) (Vb isAgg28 rfl (hT.at 7 rfl)) (Ca (Za rfl) (Ca (Za rfl) (Fa (v := .pointer (some ⟨cb, gx la.length lb.length i k j l, none⟩)) (Gd (i := ((gx la.length lb.length i k j l : Nat) : Int)) (gx la.length lb.length i k j l) Wf rfl rfl by_Om by_Om by_Om) ?_)))))))
 refine Sq hF sizeOf3 rfl rfl hT.cost hgl Sa Sa ?_
 clear hF; intro w hF hE hnew
 replace hT := hT.putC hE hnew
 clear hE hnew
 refine Yb (Ca (Za rfl) (Ca (Kb rfl) (Da ?_)))
 refine Pb (Ob (Qa (Do (v := .int .i64 ((min ((fd (Xa la fa) (Xa lb fb) i (k - 1) j l : Nat) : Int) ((fd (Xa la fa) (Xa lb fb) i k j (l - 1) : Nat) : Int) : Int) + 1)) rfl rfl) ?_))
 exact ⟨_, _, by rw [hbest], hT, hH.put by_Om by_Om by_Om hbest, hF.same⟩
theorem O7 (N0 tb hb cb : Nat) (la : List Str) (fa : List Int) (lb : List Str) (fb : List Int) (Aa Ba Ab Bb : Option Addr) (k1 k2 k3 k4 N : Nat) (hN : N = (la.length + 1) * (la.length + 1) * (lb.length + 1) * (lb.length + 1)) (hNm : N ≤ 43046721) (hka : la.length = fa.length) (hkb : lb.length = fb.length) (hoa : lfOk fa fa.length) (hob : lfOk fb fb.length) (hn5 : la.length ≤ 512) (hm5 : lb.length ≤ 512) : ∀ (s i k j l : Nat), (k - i) + (l - j) ≤ s → i ≤ k → k ≤ la.length → j ≤ l → l ≤ lb.length → UT N0 tb hb cb la fa lb fb Aa Ba Ab Bb k1 k2 k3 k4 N i k j l := by
  intro s
  induction s using Nat.strongRecOn with
  | _ s IH =>
    intro i k j l hs hik hkn hjl hlm w0 h f hN0 hT hH
    exact P4 N0 tb hb cb la fa lb fb Aa Ba Ab Bb k1 k2 k3 k4 N hN hNm hka hkb hoa hob hn5 hm5 i k j l hik hkn hjl hlm (fun i' k' j' l' hlt h1 h2 h3 h4 => IH ((k' - i') + (l' - j')) by_Om i' k' j' l' (Nat.le_refl _) h1 h2 h3 h4) w0 h f hN0 hT hH
end Go.Scarf
namespace Go.Scarf
open Go.RowKit Go.Proofs Go.Proofs.Tryz
theorem JP (S S' : Nat → Prop) (w0 : World) (la : List Str) (fa : List Int) (Aa Ba : Option Addr) (ca ea : Nat) (hLa : Rep S w0 (We la) [.slice Aa la.length ca]) (hNa : Rep S w0 (.slice (fa.map Th)) [.slice Ba fa.length ea]) (lb : List Str) (fb : List Int) (Ab Bb : Option Addr) (cb eb : Nat) (hLb : Rep S' w0 (We lb) [.slice Ab lb.length cb]) (hNb : Rep S' w0 (.slice (fb.map Th)) [.slice Bb fb.length eb]) (ha8 : la.length ≤ 80) (hb8 : lb.length ≤ 80) : Calls prog 42 #[.agg #[.slice Aa la.length ca, .slice Ba fa.length ea], .agg #[.slice Ab lb.length cb, .slice Bb fb.length eb]] w0 (Ce fun v w' => ∃ tb hb gb : Nat, v = .pointer (some ⟨tb, 0, none⟩) ∧ Tk w' w'.heap.size tb hb gb la fa lb fb Aa Ba Ab Bb ca ea cb eb ((la.length + 1) * (la.length + 1) * (lb.length + 1) * (lb.length + 1)) (fun _ => false) (fun _ => 0) ∧ w0.heap.size ≤ hb ∧ w0.heap.size ≤ gb ∧ Same [] w0 w') := by
 have hLla := hLa.slice_len
 have hNla := hNa.slice_len
 rw [List.length_map] at hLla hNla
 have hLlb := hLb.slice_len
 have hNlb := hNb.slice_len
 rw [List.length_map] at hLlb hNlb
 have hN := CH ha8 hb8
 have hN1 : (la.length + 1) * (la.length + 1) ≤ (la.length + 1) * (la.length + 1) * (lb.length + 1) := Nat.le_mul_of_pos_right _ by_Om
 have hN2 : (la.length + 1) * (la.length + 1) * (lb.length + 1) ≤ ((la.length + 1) * (la.length + 1) * (lb.length + 1) * (lb.length + 1)) := Nat.le_mul_of_pos_right _ by_Om
 refine Ma func42 rfl ntmps42 Qb (Wd _ _) ?_
 have hF := FR.start w0 []
 refine Ha ?_
 refine Bh hF rfl ?_
 clear hF; rintro b1 w hb1 hF -
 refine Bh hF rfl ?_
 clear hF; rintro b2 w hb2 hF -
 refine Ca (XA rfl) (Yb (Ca (Fc Ed rfl) (Uc (Mf isAgg22 rfl hF.F 1 rfl rfl) (Ca (Ji underlying22 rfl) (Ca (Kb rfl) (Yb (Ca (Fc Ed rfl) ?_)))))))
 refine Uc (Mf isAgg22 rfl hF.F 0 rfl rfl) (Ca (Ji underlying22 rfl) (Ca (Kb rfl) (Yb (Ca (Za rfl) (Ca (Di (((la.length + 1 : Nat) : Int)) rfl rfl) (Ca (Za rfl) (Ca (Di (((la.length + 1 : Nat) : Int)) rfl rfl) ?_)))))))
 refine Fa (v := .int .i64 ((((la.length + 1) * (la.length + 1) : Nat) : Int))) (Im rfl rfl (Me (by simp only [Int.natCast_mul]) by_Om by_Om)) ?_
 refine Ca (Za rfl) (Ca (Di (((lb.length + 1 : Nat) : Int)) rfl rfl) ?_)
 refine Fa (v := .int .i64 ((((la.length + 1) * (la.length + 1) * (lb.length + 1) : Nat) : Int))) (Im rfl rfl (Me (by simp only [Int.natCast_mul]) by_Om by_Om)) ?_
 refine Ca (Za rfl) (Ca (Di (((lb.length + 1 : Nat) : Int)) rfl rfl) ?_)
 refine Fa (v := .int .i64 ((((la.length + 1) * (la.length + 1) * (lb.length + 1) * (lb.length + 1)) : Nat))) (Im rfl rfl (Me (by simp only [Int.natCast_mul]) by_Om by_Om)) ?_
 refine Ca (Kb rfl) (Da (Ia ?_))
 refine Ag (zs := []) (.free 0 (.free 1 (.free 2 (.free 3 (.free 4 (.free 6 (.alt 5 (.act 7 (.free 8 (.act 9 (.free 10 .nil)))) (.act 7 (.act 5 (.free 8 (.act 9 (.free 10 .nil)))))))))))) hF ?_
 clear hF; intro w hF
 refine Bk rfl (Bi isAgg30 sizeOf30 rfl C0 1 rfl rfl) (Bk rfl (Bi isAgg30 sizeOf30 rfl C0 0 rfl rfl) (Eb rfl (Za rfl) (Eb rfl (Za rfl) (Eb rfl (Za rfl) (Eb rfl (Za rfl) ?_)))))
 refine Ue ?_ ?_
 refine Ls rfl (v := fun b => .slice (some ⟨b, 0, none⟩) (((la.length + 1) * (la.length + 1) * (lb.length + 1) * (lb.length + 1))) (((la.length + 1) * (la.length + 1) * (lb.length + 1) * (lb.length + 1)))) (o := .cells (List.replicate (((la.length + 1) * (la.length + 1) * (lb.length + 1) * (lb.length + 1))) (.bool false)).toArray 4) hF (Hy (z := .bool false) ZM Fb rfl rfl rfl by_Om Oa) ?_
 clear hF; rintro b3 w hb3 hF -
 refine ⟨hF.drop 1, ?_⟩
 refine Ls rfl (v := fun b => .slice (some ⟨b, 0, none⟩) (((la.length + 1) * (la.length + 1) * (lb.length + 1) * (lb.length + 1))) (((la.length + 1) * (la.length + 1) * (lb.length + 1) * (lb.length + 1)))) (o := .cells (Vd (((la.length + 1) * (la.length + 1) * (lb.length + 1) * (lb.length + 1))) fun _ => 0) 3) hF (Fv Ck Fb rfl rfl by_Om) ?_
 clear hF; rintro b4 w hb4 hF -
 refine ⟨hF.drop 2, ?_⟩
 refine Ib rfl (v := .agg #[.slice Aa la.length ca, .slice Ba fa.length ea, .slice Ab lb.length cb, .slice Bb fb.length eb, .int .i64 ((la.length : Nat)), .int .i64 ((lb.length : Nat)), .slice (some ⟨b3, 0, none⟩) (((la.length + 1) * (la.length + 1) * (lb.length + 1) * (lb.length + 1))) (((la.length + 1) * (la.length + 1) * (lb.length + 1) * (lb.length + 1))), .slice (some ⟨b4, 0, none⟩) (((la.length + 1) * (la.length + 1) * (lb.length + 1) * (lb.length + 1))) (((la.length + 1) * (la.length + 1) * (lb.length + 1) * (lb.length + 1)))]) (fun w hC => by kernel_rfl) ?_
 refine Ls rfl (v := fun b => .pointer (some ⟨b, 0, none⟩)) (o := .cells #[.slice Aa la.length ca, .slice Ba fa.length ea, .slice Ab lb.length cb, .slice Bb fb.length eb, .int .i64 ((la.length : Nat)), .int .i64 ((lb.length : Nat)), .slice (some ⟨b3, 0, none⟩) (((la.length + 1) * (la.length + 1) * (lb.length + 1) * (lb.length + 1))) (((la.length + 1) * (la.length + 1) * (lb.length + 1) * (lb.length + 1))), .slice (some ⟨b4, 0, none⟩) (((la.length + 1) * (la.length + 1) * (lb.length + 1) * (lb.length + 1))) (((la.length + 1) * (la.length + 1) * (lb.length + 1) * (lb.length + 1)))] 97) hF (UB (v := .agg #[.slice Aa la.length ca, .slice Ba fa.length ea, .slice Ab lb.length cb, .slice Bb fb.length eb, .int .i64 ((la.length : Nat)), .int .i64 ((lb.length : Nat)), .slice (some ⟨b3, 0, none⟩) (((la.length + 1) * (la.length + 1) * (lb.length + 1) * (lb.length + 1))) (((la.length + 1) * (la.length + 1) * (lb.length + 1) * (lb.length + 1))), .slice (some ⟨b4, 0, none⟩) (((la.length + 1) * (la.length + 1) * (lb.length + 1) * (lb.length + 1))) (((la.length + 1) * (la.length + 1) * (lb.length + 1) * (lb.length + 1)))]) rfl) ?_
 clear hF; rintro b5 w hb5 hF -
 refine ⟨hF.drop 3, ?_⟩
 refine Eb rfl (XA rfl) (Ic (Ja ?_))
 refine Ud (v := .pointer _) rfl rfl ?_
 have hid : ∀ {i b : Nat} {o : Obj}, ([(b5, .cells #[.slice Aa la.length ca, .slice Ba fa.length ea, .slice Ab lb.length cb, .slice Bb fb.length eb, .int .i64 ((la.length : Nat)), .int .i64 ((lb.length : Nat)), .slice (some ⟨b3, 0, none⟩) (((la.length + 1) * (la.length + 1) * (lb.length + 1) * (lb.length + 1))) (((la.length + 1) * (la.length + 1) * (lb.length + 1) * (lb.length + 1))), .slice (some ⟨b4, 0, none⟩) (((la.length + 1) * (la.length + 1) * (lb.length + 1) * (lb.length + 1))) (((la.length + 1) * (la.length + 1) * (lb.length + 1) * (lb.length + 1)))] 97), (b4, .cells (Vd (((la.length + 1) * (la.length + 1) * (lb.length + 1) * (lb.length + 1))) (fun _ => 0)) 3), (b3, .cells (List.replicate (((la.length + 1) * (la.length + 1) * (lb.length + 1) * (lb.length + 1))) (.bool false)).toArray 4), (b2, .cells #[.slice Ab lb.length cb, .slice Bb fb.length eb] 30), (b1, .cells #[.slice Aa la.length ca, .slice Ba fa.length ea] 30)] : List (Nat × Obj))[i]? = some (b, o) → b < w.heap.size := fun h => hF.lt h
 have d1 := List.pairwise_iff_getElem.1 hF.desc
 have hsb : ∀ b, b < w0.heap.size → Sb w.heap.size b3 b4 b := fun b hb_ => ⟨by have := hF.same.size; omega, by have := hF.ge (i := 2) rfl; omega, by have := hF.ge (i := 1) rfl; omega⟩
 refine ⟨b5, b3, b4, rfl, ⟨hF.heap (i := 0) rfl, (hF.rep hLa.old).weaken (fun b hb _ => hsb b hb.2), (hF.rep hNa.old).weaken (fun b hb _ => hsb b hb.2), (hF.rep hLb.old).weaken (fun b hb _ => hsb b hb.2), (hF.rep hNb.old).weaken (fun b hb _ => hsb b hb.2), by rw [← Ax]; exact hF.heap (i := 2) rfl, hF.heap (i := 1) rfl, ⟨fun e => d1 0 2 Sa Sa by_Om e.symm, fun e => d1 0 1 Sa Sa by_Om e.symm, fun e => d1 1 2 Sa Sa by_Om e⟩, ⟨hid (i := 0) rfl, hid (i := 2) rfl, hid (i := 1) rfl⟩⟩, hF.ge (i := 2) rfl, hF.ge (i := 1) rfl, hF.same⟩
 refine Ls rfl (v := fun b => .slice (some ⟨b, 0, none⟩) (((la.length + 1) * (la.length + 1) * (lb.length + 1) * (lb.length + 1))) (((la.length + 1) * (la.length + 1) * (lb.length + 1) * (lb.length + 1)))) (o := .cells (Vd (((la.length + 1) * (la.length + 1) * (lb.length + 1) * (lb.length + 1))) fun _ => 0) 3) hF (Fv Ck Fb rfl rfl by_Om) ?_
 clear hF; rintro b6 w hb6 hF -
 refine ⟨hF.drop 1, ?_⟩
 refine Ls rfl (v := fun b => .slice (some ⟨b, 0, none⟩) (((la.length + 1) * (la.length + 1) * (lb.length + 1) * (lb.length + 1))) (((la.length + 1) * (la.length + 1) * (lb.length + 1) * (lb.length + 1)))) (o := .cells (List.replicate (((la.length + 1) * (la.length + 1) * (lb.length + 1) * (lb.length + 1))) (.bool false)).toArray 4) hF (Hy (z := .bool false) ZM Fb rfl rfl rfl by_Om Oa) ?_
 clear hF; rintro b7 w hb7 hF -
 refine ⟨hF.drop 2, ?_⟩
 refine Ib rfl (v := .agg #[.slice Aa la.length ca, .slice Ba fa.length ea, .slice Ab lb.length cb, .slice Bb fb.length eb, .int .i64 ((la.length : Nat)), .int .i64 ((lb.length : Nat)), .slice (some ⟨b7, 0, none⟩) (((la.length + 1) * (la.length + 1) * (lb.length + 1) * (lb.length + 1))) (((la.length + 1) * (la.length + 1) * (lb.length + 1) * (lb.length + 1))), .slice (some ⟨b6, 0, none⟩) (((la.length + 1) * (la.length + 1) * (lb.length + 1) * (lb.length + 1))) (((la.length + 1) * (la.length + 1) * (lb.length + 1) * (lb.length + 1)))]) (fun w hC => by kernel_rfl) ?_
 refine Ls rfl (v := fun b => .pointer (some ⟨b, 0, none⟩)) (o := .cells #[.slice Aa la.length ca, .slice Ba fa.length ea, .slice Ab lb.length cb, .slice Bb fb.length eb, .int .i64 ((la.length : Nat)), .int .i64 ((lb.length : Nat)), .slice (some ⟨b7, 0, none⟩) (((la.length + 1) * (la.length + 1) * (lb.length + 1) * (lb.length + 1))) (((la.length + 1) * (la.length + 1) * (lb.length + 1) * (lb.length + 1))), .slice (some ⟨b6, 0, none⟩) (((la.length + 1) * (la.length + 1) * (lb.length + 1) * (lb.length + 1))) (((la.length + 1) * (la.length + 1) * (lb.length + 1) * (lb.length + 1)))] 97) hF (UB (v := .agg #[.slice Aa la.length ca, .slice Ba fa.length ea, .slice Ab lb.length cb, .slice Bb fb.length eb, .int .i64 ((la.length : Nat)), .int .i64 ((lb.length : Nat)), .slice (some ⟨b7, 0, none⟩) (((la.length + 1) * (la.length + 1) * (lb.length + 1) * (lb.length + 1))) (((la.length + 1) * (la.length + 1) * (lb.length + 1) * (lb.length + 1))), .slice (some ⟨b6, 0, none⟩) (((la.length + 1) * (la.length + 1) * (lb.length + 1) * (lb.length + 1))) (((la.length + 1) * (la.length + 1) * (lb.length + 1) * (lb.length + 1)))]) rfl) ?_
 clear hF; rintro b8 w hb8 hF -
 refine ⟨hF.drop 3, ?_⟩
 refine Eb rfl (XA rfl) (Ic (Ja ?_))
 refine Ud (v := .pointer _) rfl rfl ?_
 have hid : ∀ {i b : Nat} {o : Obj}, ([(b8, .cells #[.slice Aa la.length ca, .slice Ba fa.length ea, .slice Ab lb.length cb, .slice Bb fb.length eb, .int .i64 ((la.length : Nat)), .int .i64 ((lb.length : Nat)), .slice (some ⟨b7, 0, none⟩) (((la.length + 1) * (la.length + 1) * (lb.length + 1) * (lb.length + 1))) (((la.length + 1) * (la.length + 1) * (lb.length + 1) * (lb.length + 1))), .slice (some ⟨b6, 0, none⟩) (((la.length + 1) * (la.length + 1) * (lb.length + 1) * (lb.length + 1))) (((la.length + 1) * (la.length + 1) * (lb.length + 1) * (lb.length + 1)))] 97), (b7, .cells (List.replicate (((la.length + 1) * (la.length + 1) * (lb.length + 1) * (lb.length + 1))) (.bool false)).toArray 4), (b6, .cells (Vd (((la.length + 1) * (la.length + 1) * (lb.length + 1) * (lb.length + 1))) (fun _ => 0)) 3), (b2, .cells #[.slice Ab lb.length cb, .slice Bb fb.length eb] 30), (b1, .cells #[.slice Aa la.length ca, .slice Ba fa.length ea] 30)] : List (Nat × Obj))[i]? = some (b, o) → b < w.heap.size := fun h => hF.lt h
 have d1 := List.pairwise_iff_getElem.1 hF.desc
 have hsb : ∀ b, b < w0.heap.size → Sb w.heap.size b7 b6 b := fun b hb_ => ⟨by have := hF.same.size; omega, by have := hF.ge (i := 1) rfl; omega, by have := hF.ge (i := 2) rfl; omega⟩
 refine ⟨b8, b7, b6, rfl, ⟨hF.heap (i := 0) rfl, (hF.rep hLa.old).weaken (fun b hb _ => hsb b hb.2), (hF.rep hNa.old).weaken (fun b hb _ => hsb b hb.2), (hF.rep hLb.old).weaken (fun b hb _ => hsb b hb.2), (hF.rep hNb.old).weaken (fun b hb _ => hsb b hb.2), by rw [← Ax]; exact hF.heap (i := 1) rfl, hF.heap (i := 2) rfl, ⟨fun e => d1 0 1 Sa Sa by_Om e.symm, fun e => d1 0 2 Sa Sa by_Om e.symm, fun e => d1 1 2 Sa Sa by_Om e.symm⟩, ⟨hid (i := 0) rfl, hid (i := 1) rfl, hid (i := 2) rfl⟩⟩, hF.ge (i := 1) rfl, hF.ge (i := 2) rfl, hF.same⟩
theorem FD (S S' : Nat → Prop) (w0 : World) (la : List Str) (fa : List Int) (Aa Ba : Option Addr) (ca ea : Nat) (hLa : Rep S w0 (We la) [.slice Aa la.length ca]) (hNa : Rep S w0 (.slice (fa.map Th)) [.slice Ba fa.length ea]) (lb : List Str) (fb : List Int) (Ab Bb : Option Addr) (cb eb : Nat) (hLb : Rep S' w0 (We lb) [.slice Ab lb.length cb]) (hNb : Rep S' w0 (.slice (fb.map Th)) [.slice Bb fb.length eb]) (hRa : Lk la fa) (hRb : Lk lb fb) (ha8 : la.length ≤ 80) (hb8 : lb.length ≤ 80) : Calls prog 19 #[.agg #[.slice Aa la.length ca, .slice Ba fa.length ea], .agg #[.slice Ab lb.length cb, .slice Bb fb.length eb]] w0 (Ce fun v w' => v = .tuple #[.int .i64 ((Hq la fa lb fb : Nat) : Int), .int .i64 0] ∧ Same [] w0 w') := by
 have hLla := hLa.slice_len
 have hNla := hNa.slice_len
 rw [List.length_map] at hLla hNla
 have hLlb := hLb.slice_len
 have hNlb := hNb.slice_len
 rw [List.length_map] at hLlb hNlb
 refine Ma func19 rfl ntmps19 Qb (Wd _ _) ?_
 have hF := FR.start w0 []
 refine Ha ?_
 refine Bh hF rfl ?_
 clear hF; rintro b1 w hb1 hF -
 refine Bh hF rfl ?_
 clear hF; rintro b2 w hb2 hF -
 refine Ca (Kb rfl) (Ca (Kb rfl) (Yb (Uc (Bi isAgg30 sizeOf30 rfl hF.F 1 rfl rfl) ?_)))
 refine Zb (Xz _ _ la fa Aa Ba ca ea (hF.rep hLa) (hF.rep hNa)) (Ua IM rfl rfl) ?_
 rintro _ w ⟨b, rfl, hb, hE⟩
 obtain rfl : b = true := hb.2 hRa
 replace hF := hF.ext hE
 clear hE
 refine Ca (Cc rfl) (Yb (Uc (Bi isAgg30 sizeOf30 rfl hF.F 0 rfl rfl) ?_))
 refine Zb (Xz _ _ lb fb Ab Bb cb eb (hF.rep hLb) (hF.rep hNb)) (Ua IM rfl rfl) ?_
 rintro _ w ⟨b, rfl, hb, hE⟩
 obtain rfl : b = true := hb.2 hRb
 replace hF := hF.ext hE
 clear hE
 refine Ca (Cc rfl) (Da (Ia (Ha (Ca (Jc rfl) (Ca (Dm (b := true) rfl) (Ca (Jc rfl) (Ca (Jc rfl) (Ca (Dm (b := true) rfl) (Ca (Dc rfl rfl) (Da ?_))))))))))
 refine Ni rfl (Ia ?_)
 refine Ag (zs := []) (.free 0 (.free 1 (.free 3 (.free 4 (.free 5 (.free 6 (.free 7 (.free 8 (.act 2 (.act 9 (.free 10 (.free 11 .nil)))))))))))) hF ?_
 clear hF; intro w hF
 refine Bk rfl (Bi isAgg30 sizeOf30 rfl C0 1 rfl rfl) (Bk rfl (Bi isAgg30 sizeOf30 rfl C0 0 rfl rfl) (Eb rfl (Fc Ed rfl) (Bk rfl (Mf isAgg22 rfl C0 1 rfl rfl) (Eb rfl (Ji underlying22 rfl) (Eb rfl (Fc Ed rfl) (Bk rfl (Mf isAgg22 rfl C0 0 rfl rfl) (Eb rfl (Ji underlying22 rfl) ?_)))))))
 have lb1 := hF.lt (i := 1) rfl
 have lb2 := hF.lt (i := 0) rfl
 refine Xf rfl (JP _ _ _ la fa Aa Ba ca ea (hF.rep hLa) (hF.rep hNa) lb fb Ab Bb cb eb (hF.rep hLb) (hF.rep hNb) ha8 hb8) (Pa VR rfl rfl rfl) ?_
 rintro _ w ⟨tb, hb, gb, rfl, hT, hgh, hgc, hE⟩
 have hs0 := hF.same.size
 replace hF := hF.ext hE
 clear hE
 refine ⟨hF, ?_⟩
 refine Xf rfl (O7 w.heap.size tb hb gb la fa lb fb Aa Ba Ab Bb ca ea cb eb ((la.length + 1) * (la.length + 1) * (lb.length + 1) * (lb.length + 1)) rfl (CH ha8 hb8) hRa.1 hRb.1 hRa.2.2 hRb.2.2 hRa.2.1 hRb.2.1 _ 0 la.length 0 lb.length (Nat.le_refl _) (Nat.zero_le _) (Nat.le_refl _) (Nat.zero_le _) (Nat.le_refl _) _ _ _ (Nat.le_refl _) hT (fun i k j l _ _ _ _ h => by cases h)) (Tl P5 rfl rfl rfl rfl rfl rfl) ?_
 rintro _ w ⟨h_, f_, rfl, -, -, hE⟩
 replace hF := hF.touch hE (fun b hb_ => by simp only [List.mem_cons, List.not_mem_nil, or_false] at hb_; rcases hb_ with rfl | rfl <;> (refine ⟨fun h => absurd h by_Om, fun z hz e => ?_⟩; simp only [List.mem_cons, List.not_mem_nil, or_false] at hz; rcases hz with rfl | rfl <;> (simp only at e; omega)))
 clear hE
 refine ⟨hF, ?_⟩
 refine Eb rfl (Kb rfl) (Eb rfl (Kb rfl) (Ic (Ja ?_)))
 refine Pb (Ob (Qa (Nd (v := .int .i64 ((Hq la fa lb fb : Nat))) (x := .int .i64 0) rfl rfl rfl) ?_))
 exact ⟨rfl, hF.same⟩
end Go.Scarf
