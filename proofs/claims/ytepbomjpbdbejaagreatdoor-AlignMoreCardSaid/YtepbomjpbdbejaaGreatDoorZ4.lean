/- A part of the proof. -/
import Derived.Test.YtepbomjpbdbejaaGreatDoorZ1
import Derived.Test.YtepbomjpbdbejaaGreatDoorMapI
import Derived.Sort.OwnSortedInts
import Derived.Test.YtepbomjpbdbejaaGreatDoorShelf
set_option linter.all false
set_option maxHeartbeats 8000000
set_option maxRecDepth 10000
namespace Go.Scarf
open Go.RowKit Go.Proofs Go.Proofs.Tryz
def N5 (A B : Nodes) (u v p q : Nat) : Int := ((fd A B u (u + p) v (v + q) : Nat) : Int)
theorem I1 (A B : Nodes) (u v p : Nat) : N5 A B u v p 0 = (p : Int) := by unfold N5; rw [Ro by_Om]; omega
theorem V9 (A B : Nodes) (u v q : Nat) : N5 A B u v 0 q = (q : Int) := by unfold N5; rw [Mj by_Om]; omega
theorem Yv {f : Nat → Int} {m p q p0 q0 : Nat} {b : Int} (hq : q ≤ m) (h0 : q0 ≤ m) (h : ¬ (p = p0 ∧ q = q0)) : Le f (gi m p0 q0) b (gi m p q) = f (gi m p q) := Tu fun e => h (MI hq h0 e)
theorem VD {f : Nat → Int} {m x : Nat} (h : ∀ p', p' ≤ x → f (gi m p' 0) = (p' : Int)) : ∀ p', p' ≤ x + 1 → Le f (gi m (x + 1) 0) ((x + 1 : Nat) : Int) (gi m p' 0) = (p' : Int) := fun p' hp => by
  by_cases e : p' = x + 1
  · subst e; exact Ms _ _ _
  · rw [Yv by_Om by_Om by_Om]; exact h p' by_Om
theorem LF {f : Nat → Int} {m y : Nat} (hy : y + 1 ≤ m) (h : ∀ q', q' ≤ y → f (gi m 0 q') = (q' : Int)) : ∀ q', q' ≤ y + 1 → Le f (gi m 0 (y + 1)) ((y + 1 : Nat) : Int) (gi m 0 q') = (q' : Int) := fun q' hq => by
  by_cases e : q' = y + 1
  · subst e; exact Ms _ _ _
  · rw [Yv by_Om by_Om by_Om]; exact h q' by_Om
theorem I8 {f : Nat → Int} {m n y : Nat} (hy : y + 1 ≤ m) (h : ∀ p', p' ≤ n → f (gi m p' 0) = (p' : Int)) {b : Int} {x : Nat} : ∀ p', p' ≤ n → Le f (gi m x (y + 1)) b (gi m p' 0) = (p' : Int) := fun p' hp => by
  rw [Yv by_Om by_Om by_Om]; exact h p' hp
def Rt (fa fb : List Int) (u n v m i j : Nat) : Prop := u ≤ i ∧ i < u + n ∧ v ≤ j ∧ j < v + m ∧ Yf fa i = u ∧ Yf fb j = v
def Fok (A B : Nodes) (fa fb : List Int) (u n v m x y : Nat) (P0 P : Nat → Nat → Int) : Prop :=
  (∀ i j, Rt fa fb u n v m i j → (i < u + x ∨ (i = u + x ∧ j < v + y)) → P i j = ((td A B i j : Nat) : Int)) ∧ (∀ i j, ¬ Rt fa fb u n v m i j → P i j = P0 i j)
section
variable {A B : Nodes} {fa fb : List Int} {u n v m x y : Nat} {P0 P : Nat → Nat → Int}
theorem Fok.start : Fok A B fa fb u n v m 0 0 P0 P0 := ⟨fun i j h h2 => by have := h.1; have := h.2.2.1; omega, fun _ _ _ => rfl⟩
theorem Fok.next (h : Fok A B fa fb u n v m x m P0 P) : Fok A B fa fb u n v m (x + 1) 0 P0 P := ⟨fun i j hr h2 => h.1 i j hr (by have := hr.2.2.2.1; have := hr.2.2.1; omega), h.2⟩
theorem Fok.skip (h : Fok A B fa fb u n v m x y P0 P) (hn : ¬ (Yf fa (u + x) = u ∧ Yf fb (v + y) = v)) : Fok A B fa fb u n v m x (y + 1) P0 P := ⟨fun i j hr h2 => by
  by_cases e : i = u + x ∧ j = v + y
  · obtain ⟨rfl, rfl⟩ := e; exact absurd hr.2.2.2.2 hn
  · exact h.1 i j hr by_Om, h.2⟩
theorem Fok.put (h : Fok A B fa fb u n v m x y P0 P) (hr : Rt fa fb u n v m (u + x) (v + y)) {b : Int} (hb : b = ((td A B (u + x) (v + y) : Nat) : Int)) : Fok A B fa fb u n v m x (y + 1) P0 (Kg P (u + x) (v + y) b) := by
  refine ⟨fun i j hri h2 => ?_, fun i j hri => ?_⟩
  · by_cases e : i = u + x ∧ j = v + y
    · obtain ⟨rfl, rfl⟩ := e; rw [Dh]; exact hb
    · rw [Rn e]; exact h.1 i j hri by_Om
  · rw [Rn (fun e => by obtain ⟨rfl, rfl⟩ := e; exact hri hr)]; exact h.2 i j hri
def Gok (A B : Nodes) (u n v m x y : Nat) (f : Nat → Int) : Prop :=
  (∀ p', p' ≤ n → f (gi m p' 0) = (p' : Int)) ∧ (∀ p' q', p' ≤ x → q' ≤ m → f (gi m p' q') = N5 A B u v p' q') ∧ (∀ q', q' ≤ y → f (gi m (x + 1) q') = N5 A B u v (x + 1) q')
theorem Gok.start {f : Nat → Int} (hc : ∀ p', p' ≤ n → f (gi m p' 0) = (p' : Int)) (hr : ∀ q', q' ≤ m → f (gi m 0 q') = (q' : Int)) (hn : 0 < n) : Gok A B u n v m 0 0 f := by
  refine ⟨hc, fun p' q' hp hq => ?_, fun q' hq => ?_⟩
  · obtain rfl : p' = 0 := by omega
    rw [hr q' hq, V9]
  · obtain rfl : q' = 0 := by omega
    rw [hc _ by_Om, I1]
theorem Gok.put {f : Nat → Int} (h : Gok A B u n v m x y f) (hy : y + 1 ≤ m) {b : Int} (hb : b = N5 A B u v (x + 1) (y + 1)) : Gok A B u n v m x (y + 1) (Le f (gi m (x + 1) (y + 1)) b) := by
  refine ⟨I8 hy h.1, fun p' q' hp hq => ?_, fun q' hq => ?_⟩
  · rw [Yv hq hy by_Om]; exact h.2.1 p' q' hp hq
  · by_cases e : q' = y + 1
    · subst e; rw [Ms]; exact hb
    · rw [Yv by_Om hy by_Om]; exact h.2.2 q' by_Om
theorem Gok.next {f : Nat → Int} (h : Gok A B u n v m x m f) (hx : x + 1 < n) : Gok A B u n v m (x + 1) 0 f := by
  refine ⟨h.1, fun p' q' hp hq => ?_, fun q' hq => ?_⟩
  · by_cases e : p' = x + 1
    · subst e; exact h.2.2 q' hq
    · exact h.2.1 p' q' by_Om hq
  · obtain rfl : q' = 0 := by omega
    rw [h.1 _ by_Om, I1]
def Gdone (A B : Nodes) (u n v m x : Nat) (f : Nat → Int) : Prop := (∀ p', p' ≤ n → f (gi m p' 0) = (p' : Int)) ∧ (∀ p' q', p' ≤ x → q' ≤ m → f (gi m p' q') = N5 A B u v p' q')
theorem Gdone.start {f : Nat → Int} (hc : ∀ p', p' ≤ n → f (gi m p' 0) = (p' : Int)) (hr : ∀ q', q' ≤ m → f (gi m 0 q') = (q' : Int)) : Gdone A B u n v m 0 f := by
  refine ⟨hc, fun p' q' hp hq => ?_⟩
  obtain rfl : p' = 0 := by omega
  rw [hr q' hq, V9]
theorem Gdone.open_ {f : Nat → Int} (h : Gdone A B u n v m x f) (hx : x < n) : Gok A B u n v m x 0 f := ⟨h.1, h.2, fun q' hq => by
  obtain rfl : q' = 0 := by omega
  rw [h.1 _ by_Om, I1]⟩
theorem Gok.close {f : Nat → Int} (h : Gok A B u n v m x m f) : Gdone A B u n v m (x + 1) f := ⟨h.1, fun p' q' hp hq => by
  by_cases e : p' = x + 1
  · subst e; exact h.2.2 q' hq
  · exact h.2.1 p' q' by_Om hq⟩
theorem U7 (hk : u + x ≤ 512) (hl : v + y ≤ 512) : fd A B u (u + x) v (v + y) ≤ 1024 := by
  have := (Zk A B _ u (u + x) v (v + y) (Nat.le_refl _)).1
  omega
theorem OA (h1 : A.lf (u + x) = u) (h2 : B.lf (v + y) = v) : N5 A B u v (x + 1) (y + 1) = min (1 + min ((fd A B u (u + x) v (v + (y + 1)) : Nat) : Int) ((fd A B u (u + (x + 1)) v (v + y) : Nat) : Int)) (((fd A B u (u + x) v (v + y) : Nat) : Int) + ((turn A B (u + x) (v + y) : Nat) : Int)) ∧ td A B (u + x) (v + y) = fd A B u (u + (x + 1)) v (v + (y + 1)) := by
  have q := WF A B (x := u + x) (y := v + y)
  rw [h1, h2] at q
  have q2 : fd A B u (u + (x + 1)) v (v + (y + 1)) = min (min (fd A B u (u + x) v (v + (y + 1))) (fd A B u (u + (x + 1)) v (v + y)) + 1) (fd A B u (u + x) v (v + y) + turn A B (u + x) (v + y)) := q
  refine ⟨by unfold N5; rw [q2]; omega, ?_⟩
  unfold td
  rw [h1, h2]
  rfl
theorem Yu (h1 : u ≤ A.lf (u + x)) (h2 : v ≤ B.lf (v + y)) : N5 A B u v (x + 1) (y + 1) = min (1 + min ((fd A B u (u + x) v (v + (y + 1)) : Nat) : Int) ((fd A B u (u + (x + 1)) v (v + y) : Nat) : Int)) (((fd A B u (A.lf (u + x)) v (B.lf (v + y)) : Nat) : Int) + ((td A B (u + x) (v + y) : Nat) : Int)) := by
  have q := QB A B (i := u) (x := u + x) (j := v) (y := v + y) h1 h2
  have q2 : fd A B u (u + (x + 1)) v (v + (y + 1)) = min (min (fd A B u (u + x) v (v + (y + 1))) (fd A B u (u + (x + 1)) v (v + y)) + 1) (fd A B u (A.lf (u + x)) v (B.lf (v + y)) + td A B (u + x) (v + y)) := q
  unfold N5; rw [q2]; omega
end
def Rows (q : Nat → Nat) (n : Nat) : List Nat := (List.range n).map q
theorem Ai {q : Nat → Nat} {n b : Nat} : b ∈ Rows q n ↔ ∃ i, i < n ∧ q i = b := by simp [Rows]
theorem M4 (w0 : World) (N0 rb pb : Nat) (q : Nat → Nat) (la : List Str) (fa : List Int) (lb : List Str) (fb : List Int) (Aa Ba Ab Bb : Option Addr) (k1 k2 k3 k4 : Nat) (P0 : Nat → Nat → Int) (hK : Rk w0 N0 rb pb q la fa lb fb Aa Ba Ab Bb k1 k2 k3 k4 P0) (u n v m : Nat) (hN0 : N0 ≤ w0.heap.size) (hka : la.length = fa.length) (hkb : lb.length = fb.length) (hla5 : la.length ≤ 512) (hlb5 : lb.length ≤ 512) (hoa : lfOk fa fa.length) (hob : lfOk fb fb.length) (hun : u + n ≤ la.length) (hvm : v + m ≤ lb.length) (hca : ∀ i, u ≤ i → i < u + n → u ≤ Yf fa i) (hcb : ∀ j, v ≤ j → j < v + m → v ≤ Yf fb j) (hP0 : ∀ i j, u ≤ i → i < u + n → v ≤ j → j < v + m → ¬ (Yf fa i = u ∧ Yf fb j = v) → P0 i j = ((td (Ub la fa) (Ub lb fb) i j : Nat) : Int)) : Calls prog 84 #[.pointer (some ⟨rb, 0, none⟩), .int .i64 ((u : Nat) : Int), .int .i64 ((u + n : Nat) : Int), .int .i64 ((v : Nat) : Int), .int .i64 ((v + m : Nat) : Int)] w0 (Nd fun v_ w' => ∃ (gb cb' : Nat) (f : Nat → Int) (P : Nat → Nat → Int), v_ = .pointer (some ⟨gb, 0, none⟩) ∧ w'.heap[gb]? = some (.cells #[.int .i64 ((m + 1 : Nat) : Int), .slice (some ⟨cb', 0, none⟩) ((n + 1) * (m + 1)) ((n + 1) * (m + 1))] 134) ∧ w'.heap[cb']? = some (.cells (Xa ((n + 1) * (m + 1)) f) 3) ∧ f (gi m n m) = N5 (Ub la fa) (Ub lb fb) u v n m ∧ Rk w' N0 rb pb q la fa lb fb Aa Ba Ab Bb k1 k2 k3 k4 P ∧ (∀ i j, Rt fa fb u n v m i j → P i j = ((td (Ub la fa) (Ub lb fb) i j : Nat) : Int)) ∧ (∀ i j, ¬ Rt fa fb u n v m i j → P i j = P0 i j) ∧ w0.heap.size ≤ gb ∧ w0.heap.size ≤ cb' ∧ Same (Rows q la.length) w0 w') := by
 refine Ka func84 rfl ntmps84 Kb (N6 _ _ _ _ _) ?_
 have hF := FR.start w0 (Rows q la.length)
 refine Ma (Ca (X7 rfl) (Dc (Ca (Ib rfl) (Ca (Ib rfl) (Ca (Rw ((n : Nat)) rfl rfl) (Ca (Ib rfl) (Ca (Ib rfl) (Ca (Rw ((m : Nat)) rfl rfl) ?_))))))))
 refine Ya (X_ _ n m by_Om by_Om) (Mb MJ rfl rfl rfl) ?_
 rintro _ w ⟨gb, cb, rfl, hg_, hc_, hgN, hcN, hgc, hE⟩
 replace hF := hF.ext hE
 replace hK := hK.ext hE
 have hgs := hgN
 have hcs := hcN
 replace hF := (hF.adopt hc_ hcN Fa).adopt hg_ hgN (by intro z hz; obtain rfl := List.mem_singleton.1 hz; exact fun e => hgc e.symm)
 have hcbN : N0 ≤ cb := by omega
 have hgbN : N0 ≤ gb := by omega
 clear hE hg_ hc_
 refine Ca (X7 rfl) (Ga (Ia (Ma (Ca (Ib rfl) (Ca (Ic rfl) (Ga (Va ?_)))))))
 refine Xc (fun μ σ w => ∃ (x : Nat), ∃ (f : Nat → Int), μ = n - x ∧ (x ≤ n) ∧ (∀ p', p' ≤ x → f (gi m p' 0) = (p' : Int)) ∧ (Rk w N0 rb pb q la fa lb fb Aa Ba Ab Bb k1 k2 k3 k4 P0) ∧ AllEq σ [(0, .pointer (some ⟨rb, 0, none⟩)), (1, .int .i64 ((u : Nat))), (2, .int .i64 (((u + n : Nat) : Int))), (3, .int .i64 ((v : Nat))), (4, .int .i64 (((v + m : Nat) : Int))), (11, .pointer (some ⟨gb, 0, none⟩)), (12, .int .i64 (((u + x : Nat) : Int)))] ∧ FR w0 (Rows q la.length) [(gb, .cells #[.int .i64 (((m + 1 : Nat) : Int)), .slice (some ⟨cb, 0, none⟩) (((n + 1) * (m + 1))) (((n + 1) * (m + 1)))] 134), (cb, .cells (Xa (((n + 1) * (m + 1))) (f)) 3)] w) _ ⟨0, (fun _ => 0), rfl, (Nat.zero_le _), (fun p' hp => by obtain rfl : p' = 0 := by_Om; rfl), (hK), L7, hF⟩ ?_
 clear hF; rintro μ σ w ⟨x, f, rfl, hx, hc_, hK, hs, hF⟩
 refine Cg.slots hs ?_
 clear hs; intro σ
 refine Ia (Ma (Ca (Ib rfl) (Ca (Ib rfl) (Ca (Yl rfl rfl) (Ga ?_)))))
 refine Jc rfl rfl (fun hc0 => ?_) (fun hc0 => ?_)
 refine Wa (Ha (Ia (Va (Ea (Ca (Qd rfl) (Ca (Ib rfl) (Ca (Ib rfl) (Ca (Rw ((x : Nat)) rfl rfl) ?_))))))))
 refine Ya (Ko _ gb cb n m (x + 1) (0) _ _ by_Om by_Om (hF.heap (i := 0) rfl) by_Om by_Om by_Om by_Om) (Fc Qo rfl rfl rfl rfl) ?_
 rintro _ w ⟨rfl, hE⟩
 replace hF := hF.ext hE
 replace hK := hK.ext hE
 clear hE
 refine Ca (Ib rfl) (Ca (Ib rfl) (Ca (Rw ((x : Nat)) rfl rfl) (Ca (Bj (((x + 1 : Nat) : Int)) rfl rfl) (Ca (Ze rfl) ?_))))
 refine Zf 1 (l := [.int .i64 (((x + 1 : Nat) : Int))]) (cs' := Xa (((n + 1) * (m + 1))) (Le (f) (gi m (x + 1) (0)) (((x + 1 : Nat) : Int)))) hF sizeOf3 rfl (v := .int .i64 (((x + 1 : Nat) : Int))) rfl rfl Gd rfl (by rw [Tf]; simp only [List.length_singleton]; exact Nat.succ_le_of_lt (Bo by_Om by_Om)) (Nf _) ?_
 clear hF; intro w hF hE
 replace hK := hK.step hE (by simpa using hcbN)
 clear hE
 replace hF : FR w0 (Rows q la.length) [_, (cb, .cells (Xa (((n + 1) * (m + 1))) (Le (f) (gi m (x + 1) (0)) (((x + 1 : Nat) : Int)))) 3)] w := hF
 refine Za (Ob (Ha (Ea (Ca (Ib rfl) (Ca (Bj (((u + (x + 1) : Nat) : Int)) rfl rfl) (Ca (Ic rfl) (Za ?_)))))))
 refine Ec ⟨_, ?_, x + 1, (Le (f) (gi m (x + 1) (0)) (((x + 1 : Nat) : Int))), rfl, by_Om, (VD hc_), (hK), L7, hF⟩
 omega
 refine Lc (Hc rfl ?_)
 refine Ha (Ia (Ma (Ca (Ib rfl) (Ca (Ic rfl) (Ga (Va ?_))))))
 refine Xc (fun μ σ w => ∃ (y : Nat), ∃ (f : Nat → Int), μ = m - y ∧ (y ≤ m) ∧ (∀ p', p' ≤ n → f (gi m p' 0) = (p' : Int)) ∧ (∀ q', q' ≤ y → f (gi m 0 q') = (q' : Int)) ∧ (Rk w N0 rb pb q la fa lb fb Aa Ba Ab Bb k1 k2 k3 k4 P0) ∧ AllEq σ [(0, .pointer (some ⟨rb, 0, none⟩)), (1, .int .i64 ((u : Nat))), (2, .int .i64 (((u + n : Nat) : Int))), (3, .int .i64 ((v : Nat))), (4, .int .i64 (((v + m : Nat) : Int))), (11, .pointer (some ⟨gb, 0, none⟩)), (13, .int .i64 (((v + y : Nat) : Int)))] ∧ FR w0 (Rows q la.length) [(gb, .cells #[.int .i64 (((m + 1 : Nat) : Int)), .slice (some ⟨cb, 0, none⟩) (((n + 1) * (m + 1))) (((n + 1) * (m + 1)))] 134), (cb, .cells (Xa (((n + 1) * (m + 1))) (f)) 3)] w) _ ⟨0, f, rfl, (Nat.zero_le _), (fun p' hp => hc_ p' by_Om), (fun q' hq => by obtain rfl : q' = 0 := by_Om; exact hc_ 0 by_Om), (hK), L7, hF⟩ ?_
 clear hF; rintro μ σ w ⟨y, f, rfl, hy, hc_, hr_, hK, hs, hF⟩
 refine Cg.slots hs ?_
 clear hs; intro σ
 refine Ia (Ma (Ca (Ib rfl) (Ca (Ib rfl) (Ca (Yl rfl rfl) (Ga ?_)))))
 refine Jc rfl rfl (fun hc1 => ?_) (fun hc1 => ?_)
 refine Wa (Ha (Ia (Va (Ea (Ca (Qd rfl) (Ca (Ib rfl) (Ca (Ib rfl) (Ca (Rw ((y : Nat)) rfl rfl) ?_))))))))
 refine Ya (Ko _ gb cb n m (0) (y + 1) _ _ by_Om by_Om (hF.heap (i := 0) rfl) by_Om by_Om by_Om by_Om) (Fc Qo rfl rfl rfl rfl) ?_
 rintro _ w ⟨rfl, hE⟩
 replace hF := hF.ext hE
 replace hK := hK.ext hE
 clear hE
 refine Ca (Ib rfl) (Ca (Ib rfl) (Ca (Rw ((y : Nat)) rfl rfl) (Ca (Bj (((y + 1 : Nat) : Int)) rfl rfl) (Ca (Ze rfl) ?_))))
 refine Zf 1 (l := [.int .i64 (((y + 1 : Nat) : Int))]) (cs' := Xa (((n + 1) * (m + 1))) (Le (f) (gi m (0) (y + 1)) (((y + 1 : Nat) : Int)))) hF sizeOf3 rfl (v := .int .i64 (((y + 1 : Nat) : Int))) rfl rfl Gd rfl (by rw [Tf]; simp only [List.length_singleton]; exact Nat.succ_le_of_lt (Bo by_Om by_Om)) (Nf _) ?_
 clear hF; intro w hF hE
 replace hK := hK.step hE (by simpa using hcbN)
 clear hE
 replace hF : FR w0 (Rows q la.length) [_, (cb, .cells (Xa (((n + 1) * (m + 1))) (Le (f) (gi m (0) (y + 1)) (((y + 1 : Nat) : Int)))) 3)] w := hF
 refine Za (Ob (Ha (Ea (Ca (Ib rfl) (Ca (Bj (((v + (y + 1) : Nat) : Int)) rfl rfl) (Ca (Ic rfl) (Za ?_)))))))
 refine Ec ⟨_, ?_, y + 1, (Le (f) (gi m (0) (y + 1)) (((y + 1 : Nat) : Int))), rfl, by_Om, (I8 by_Om hc_), (LF by_Om hr_), (hK), L7, hF⟩
 omega
 refine Lc (Hc rfl ?_)
 refine Ha (Ia (Ma (Ca (Ib rfl) (Ca (Ic rfl) (Ga (Va ?_))))))
 refine Xc (fun μ σ w => ∃ (x : Nat), ∃ (f : Nat → Int), ∃ (P : Nat → Nat → Int), μ = n - x ∧ (x ≤ n) ∧ (Gdone (Ub la fa) (Ub lb fb) u n v m x f) ∧ (Fok (Ub la fa) (Ub lb fb) fa fb u n v m x 0 P0 P) ∧ (Rk w N0 rb pb q la fa lb fb Aa Ba Ab Bb k1 k2 k3 k4 P) ∧ AllEq σ [(0, .pointer (some ⟨rb, 0, none⟩)), (1, .int .i64 ((u : Nat))), (2, .int .i64 (((u + n : Nat) : Int))), (3, .int .i64 ((v : Nat))), (4, .int .i64 (((v + m : Nat) : Int))), (11, .pointer (some ⟨gb, 0, none⟩)), (14, .int .i64 (((u + x : Nat) : Int)))] ∧ FR w0 (Rows q la.length) [(gb, .cells #[.int .i64 (((m + 1 : Nat) : Int)), .slice (some ⟨cb, 0, none⟩) (((n + 1) * (m + 1))) (((n + 1) * (m + 1)))] 134), (cb, .cells (Xa (((n + 1) * (m + 1))) (f)) 3)] w) _ ⟨0, f, P0, rfl, (Nat.zero_le _), (Gdone.start hc_ (fun q' hq => hr_ q' by_Om)), (Fok.start), (hK), L7, hF⟩ ?_
 clear hF; rintro μ σ w ⟨x, f, P, rfl, hx, hD_, hP, hK, hs, hF⟩
 refine Cg.slots hs ?_
 clear hs; intro σ
 refine Ia (Ma (Ca (Ib rfl) (Ca (Ib rfl) (Ca (Yl rfl rfl) (Ga ?_)))))
 refine Jc rfl rfl (fun hc2 => ?_) (fun hc2 => ?_)
 refine Wa (Ha (Ia (Va (Ma (Ca (Ib rfl) (Ca (Ic rfl) (Ga (Va ?_))))))))
 refine Xc (fun μ σ w => ∃ (y : Nat), ∃ (f : Nat → Int), ∃ (P : Nat → Nat → Int), μ = m - y ∧ (y ≤ m) ∧ (Gok (Ub la fa) (Ub lb fb) u n v m x y f) ∧ (Fok (Ub la fa) (Ub lb fb) fa fb u n v m x y P0 P) ∧ (Rk w N0 rb pb q la fa lb fb Aa Ba Ab Bb k1 k2 k3 k4 P) ∧ AllEq σ [(0, .pointer (some ⟨rb, 0, none⟩)), (1, .int .i64 ((u : Nat))), (2, .int .i64 (((u + n : Nat) : Int))), (3, .int .i64 ((v : Nat))), (4, .int .i64 (((v + m : Nat) : Int))), (11, .pointer (some ⟨gb, 0, none⟩)), (14, .int .i64 (((u + x : Nat) : Int))), (15, .int .i64 (((v + y : Nat) : Int)))] ∧ FR w0 (Rows q la.length) [(gb, .cells #[.int .i64 (((m + 1 : Nat) : Int)), .slice (some ⟨cb, 0, none⟩) (((n + 1) * (m + 1))) (((n + 1) * (m + 1)))] 134), (cb, .cells (Xa (((n + 1) * (m + 1))) (f)) 3)] w) _ ⟨0, f, P, rfl, (Nat.zero_le _), (Gdone.open_ hD_ by_Om), (hP), (hK), OF, hF⟩ ?_
 clear hF; rintro μ σ w ⟨y, f, P, rfl, hy, hG_, hP, hK, hs, hF⟩
 refine Cg.slots hs ?_
 clear hs; intro σ
 refine Ia (Ma (Ca (Ib rfl) (Ca (Ib rfl) (Ca (Yl rfl rfl) (Ga ?_)))))
 refine Jc rfl rfl (fun hc3 => ?_) (fun hc3 => ?_)
 refine Wa (Ha (Ia (Va (Ma (Ca (Ib rfl) (Ca (Ib rfl) (Ca (Rw ((x : Nat)) rfl rfl) (Ca (Ib rfl) (Ca (Ib rfl) (Ca (Rw ((y : Nat)) rfl rfl) (Ca (Ic rfl) (Ca (Ic rfl) ?_))))))))))))
 refine Ga (Ia ?_)
 have hbx : u + x < fa.length ∧ v + y < fb.length := by omega
 obtain ⟨d1, hd1⟩ : ∃ d, d = fd (Ub la fa) (Ub lb fb) u (u + x) v (v + (y + 1)) := ⟨_, rfl⟩
 obtain ⟨d2, hd2⟩ : ∃ d, d = fd (Ub la fa) (Ub lb fb) u (u + (x + 1)) v (v + y) := ⟨_, rfl⟩
 obtain ⟨d3, hd3⟩ : ∃ d, d = fd (Ub la fa) (Ub lb fb) u (u + x) v (v + y) := ⟨_, rfl⟩
 have hv1 : f (gi m x (y + 1)) = (d1 : Int) := by rw [hd1]; exact hG_.2.1 _ _ (Nat.le_refl _) by_Om
 have hv2 : f (gi m (x + 1) y) = (d2 : Int) := by rw [hd2]; exact hG_.2.2 _ (Nat.le_refl _)
 have hv3 : f (gi m x y) = (d3 : Int) := by rw [hd3]; exact hG_.2.1 _ _ (Nat.le_refl _) by_Om
 have hm1 : d1 ≤ 1024 := by rw [hd1]; exact U7 by_Om by_Om
 have hm2 : d2 ≤ 1024 := by rw [hd2]; exact U7 by_Om by_Om
 have hm3 : d3 ≤ 1024 := by rw [hd3]; exact U7 by_Om by_Om
 obtain ⟨lu, hlu⟩ : ∃ z, z = Yf fa (u + x) := ⟨_, rfl⟩
 obtain ⟨lv, hlv⟩ : ∃ z, z = Yf fb (v + y) := ⟨_, rfl⟩
 have hla : fa[u + x] = (lu : Int) := by rw [hlu]; exact (hoa.at by_Om by_Om).symm
 have hlb : fb[v + y] = (lv : Int) := by rw [hlv]; exact (hob.at by_Om by_Om).symm
 have hlu1 : u ≤ lu ∧ lu ≤ u + x := ⟨by rw [hlu]; exact hca _ by_Om by_Om, by rw [hlu]; exact Nat.min_le_right _ _⟩
 have hlv1 : v ≤ lv ∧ lv ≤ v + y := ⟨by rw [hlv]; exact hcb _ by_Om by_Om, by rw [hlv]; exact Nat.min_le_right _ _⟩
 obtain ⟨ada, hAda⟩ := WD hK.Na by_Om
 obtain ⟨adb, hAdb⟩ := WD hK.Nb by_Om
 refine Dd [] (.free 0 (.free 1 (.free 2 (.free 3 (.free 7 (.free 8 (.free 9 (.free 10 (.act 4 (.free 5 (.free 6 (.act 11 (.free 12 (.free 13 (.free 14 (.free 15 (.free 16 .nil))))))))))))))))) hF ?_
 clear hF; intro w hF hE
 replace hK := hK.ext hE
 clear hE
 refine ⟨fun wq => FR w0 (Rows q la.length) _ wq, hF, ?_⟩
 refine Cb rfl (Qd rfl) (Cb rfl (Ib rfl) (Cb rfl (Sp rfl rfl) (Cb rfl (Ib rfl) (Cb rfl (Qd rfl) (Cb rfl (Ib rfl) (Cb rfl (Ib rfl) (Cb rfl (Sp rfl rfl) ?_)))))))
 refine Ie rfl (Ko _ gb cb n m (x) (y + 1) _ _ by_Om by_Om (hF.heap (i := 0) rfl) by_Om by_Om by_Om by_Om) (Fc Qo rfl rfl rfl rfl) ?_
 rintro _ w ⟨rfl, hE⟩
 replace hF := hF.ext hE
 replace hK := hK.ext hE
 clear hE
 refine ⟨hF, ?_⟩
 refine Cb rfl (Ze rfl) ?_
 refine Qa rfl (v := .int .i64 ((d1 : Nat))) (fun w hC => Db isAgg3 rfl (by rw [← hv1]; exact hC.intCell 1 rfl (Bo by_Om by_Om))) ?_
 refine Ie rfl (Ko _ gb cb n m (x + 1) (y) _ _ by_Om by_Om (hF.heap (i := 0) rfl) by_Om by_Om by_Om by_Om) (Fc Qo rfl rfl rfl rfl) ?_
 rintro _ w ⟨rfl, hE⟩
 replace hF := hF.ext hE
 replace hK := hK.ext hE
 clear hE
 refine ⟨hF, ?_⟩
 refine Cb rfl (Ze rfl) ?_
 refine Qa rfl (v := .int .i64 ((d2 : Nat))) (fun w hC => Db isAgg3 rfl (by rw [← hv2]; exact hC.intCell 1 rfl (Bo by_Om by_Om))) ?_
 refine Qa rfl (v := .int .i64 (min ((d1 : Nat) : Int) ((d2 : Nat) : Int))) (fun w hC => Z8 rfl rfl) (Cb rfl (Dm rfl rfl) (Cb rfl (Ic rfl) (Bc (Ha (Ia ?_)))))
 refine Dd [] (.free 0 (.free 1 (.free 2 (.free 3 (.free 4 (.free 5 (.free 6 (.free 7 (.free 8 (.free 9 (.free 10 (.free 11 (.free 12 (.free 13 (.free 14 (.free 15 (.free 16 (.free 17 .nil)))))))))))))))))) hF ?_
 clear hF; intro w hF hE
 replace hK := hK.ext hE
 clear hE
 refine ⟨fun wq => FR w0 (Rows q la.length) _ wq ∧ Rk wq N0 rb pb q la fa lb fb Aa Ba Ab Bb k1 k2 k3 k4 P, ⟨hF, hK⟩, ?_⟩
 refine Cb rfl (Qd rfl) (Cb rfl (Ze rfl) (Cb rfl (Ac L3 rfl) (Cb rfl (Ac Gf rfl) (Qa rfl (v := .slice Ba fa.length k2) (fun w hC => Db isAgg39 rfl hC.2.c1) (Cb rfl (Ib rfl) (Qa rfl (v := .pointer (some (ada.add ((u + x) * 1)))) (fun w hC => Ra (i := ((u + x : Nat) : Int)) Qe rfl hAda rfl by_Om by_Om) ?_))))))
 refine Qa rfl (v := .int .i64 ((lu : Nat))) (fun w hC => Db isAgg3 rfl (by rw [← hla]; exact DC hC.2.Na hAda by_Om)) ?_
 refine Cb rfl (Qd rfl) (Cb rfl (Ze rfl) (Cb rfl (Ac T3 rfl) (Cb rfl (Ac Gf rfl) (Qa rfl (v := .slice Bb fb.length k4) (fun w hC => Db isAgg39 rfl hC.2.c3) (Cb rfl (Ib rfl) (Qa rfl (v := .pointer (some (adb.add ((v + y) * 1)))) (fun w hC => Ra (i := ((v + y : Nat) : Int)) Qe rfl hAdb rfl by_Om by_Om) ?_))))))
 refine Qa rfl (v := .int .i64 ((lv : Nat))) (fun w hC => Db isAgg3 rfl (by rw [← hlb]; exact DC hC.2.Nb hAdb by_Om)) ?_
 refine Cb rfl (Ic rfl) (Cb rfl (Ic rfl) (Bc (Ha (Ia (Ma (Ca (Ib rfl) (Ca (Ib rfl) (Ca (Do rfl rfl) (Ca (Ld rfl) ?_)))))))))
 refine Ad (d := 113) rfl (fun hg0 => ?_) (fun hg0 => ?_)
 refine Ca (Ib rfl) (Ca (Ib rfl) (Ca (Do rfl rfl) (Ca (Wc rfl rfl) (Ga ?_))))
 refine Jc rfl rfl (fun hc4 => ?_) (fun hc4 => ?_)
 refine Ia ?_
 obtain ⟨tt, htt⟩ : ∃ z, z = turn (Ub la fa) (Ub lb fb) (u + x) (v + y) := ⟨_, rfl⟩
 have htt1 : tt ≤ 1 := by rw [htt]; unfold turn; split <;> omega
 have hr1 : Yf fa (u + x) = u ∧ Yf fb (v + y) = v := by omega
 have hbest := OA (A := Ub la fa) (B := Ub lb fb) (u := u) (v := v) (x := x) (y := y) hr1.1 hr1.2
 rw [← hd1, ← hd2, ← hd3, ← htt] at hbest
 refine Dd [] (.free 0 (.free 1 (.free 2 (.free 3 (.free 4 (.free 5 (.free 9 (.free 10 (.free 11 (.act 6 (.free 7 (.free 8 (.act 12 (.free 13 (.free 14 (.free 15 .nil)))))))))))))))) hF ?_
 clear hF; intro w hF hE
 replace hK := hK.ext hE
 clear hE
 refine ⟨fun wq => FR w0 (Rows q la.length) _ wq, hF, ?_⟩
 refine Cb rfl (Ib rfl) (Cb rfl (Qd rfl) (Cb rfl (Ib rfl) (Cb rfl (Sp rfl rfl) (Cb rfl (Ib rfl) (Cb rfl (Sp rfl rfl) (Cb rfl (Qd rfl) (Cb rfl (Ib rfl) (Cb rfl (Ib rfl) ?_))))))))
 refine Ie rfl (Ko _ gb cb n m (x) (y) _ _ by_Om by_Om (hF.heap (i := 0) rfl) by_Om by_Om by_Om by_Om) (Fc Qo rfl rfl rfl rfl) ?_
 rintro _ w ⟨rfl, hE⟩
 replace hF := hF.ext hE
 replace hK := hK.ext hE
 clear hE
 refine ⟨hF, ?_⟩
 refine Cb rfl (Ze rfl) ?_
 refine Qa rfl (v := .int .i64 ((d3 : Nat))) (fun w hC => Db isAgg3 rfl (by rw [← hv3]; exact hC.intCell 1 rfl (Bo by_Om by_Om))) ?_
 refine Ie rfl (Vf (SJ _ N0 rb pb q la fa lb fb Aa Ba Ab Bb k1 k2 k3 k4 P hK (u + x) (v + y) by_Om by_Om by_Om by_Om) (by rw [← htt])) (Fc NK rfl rfl rfl rfl) ?_
 rintro _ w ⟨rfl, hE⟩
 replace hF := hF.ext hE
 replace hK := hK.ext hE
 clear hE
 refine ⟨hF, ?_⟩
 refine Cb rfl (Dm rfl rfl) (Qa rfl (v := .int .i64 (min ((1 : Int) + min ((d1 : Nat) : Int) ((d2 : Nat) : Int) : Int) (((d3 : Nat) : Int) + (tt : Nat) : Int))) (fun w hC => Z8 rfl rfl) (Cb rfl (Ic rfl) (Bc (Ha (Ea (Ca (Qd rfl) (Ca (Ze rfl) (Ca (Ac Xo rfl) (Ja (v := .slice (some ⟨pb, 0, none⟩) la.length la.length) (Db isAgg36 rfl hK.c4) (Ca (Ib rfl) (Ja (v := .pointer (some ⟨pb, u + x, none⟩)) (Rb (i := ((u + x : Nat) : Int)) (u + x) Vg rfl rfl by_Om by_Om by_Om) (Ja (v := .slice (some ⟨q (u + x), 0, none⟩) (lb.length) (lb.length)) (Db isAgg39 rfl (hK.grid.rowCell by_Om)) (Ca (Ib rfl) ?_)))))))))))))
 refine Ca (Ib rfl) (Ja (v := .pointer (some ⟨q (u + x), v + y, none⟩)) (Rb (i := ((v + y : Nat) : Int)) (v + y) Qe rfl rfl by_Om by_Om by_Om) ?_)
 refine VC hF sizeOf3 rfl rfl (hK.grid.row (u + x) by_Om) by_Om (Ai.2 ⟨u + x, by omega, rfl⟩) (by intro z hz; have hqz := hK.lt.2.2 (u + x) by_Om; simp only [List.mem_cons, List.not_mem_nil, or_false] at hz; rcases hz with rfl | rfl <;> (simp only; omega)) ?_
 clear hF; intro w hF hE hnew
 replace hK := hK.put by_Om hE hnew
 clear hE hnew
 refine Ga (Ea (Ca (Qd rfl) (Ca (Ib rfl) (Ca (Ib rfl) ?_))))
 refine Ya (Ko _ gb cb n m (x + 1) (y + 1) _ _ by_Om by_Om (hF.heap (i := 0) rfl) by_Om by_Om by_Om by_Om) (Fc Qo rfl rfl rfl rfl) ?_
 rintro _ w ⟨rfl, hE⟩
 replace hF := hF.ext hE
 replace hK := hK.ext hE
 clear hE
 refine Ca (Ib rfl) (Ca (Ze rfl) ?_)
 refine Zf 1 (l := [.int .i64 (min ((1 : Int) + min ((d1 : Nat) : Int) ((d2 : Nat) : Int) : Int) (((d3 : Nat) : Int) + (tt : Nat) : Int))]) (cs' := Xa (((n + 1) * (m + 1))) (Le (f) (gi m (x + 1) (y + 1)) (min ((1 : Int) + min ((d1 : Nat) : Int) ((d2 : Nat) : Int) : Int) (((d3 : Nat) : Int) + (tt : Nat) : Int)))) hF sizeOf3 rfl (v := .int .i64 (min ((1 : Int) + min ((d1 : Nat) : Int) ((d2 : Nat) : Int) : Int) (((d3 : Nat) : Int) + (tt : Nat) : Int))) rfl rfl Gd rfl (by rw [Tf]; simp only [List.length_singleton]; exact Nat.succ_le_of_lt (Bo by_Om by_Om)) (Nf _) ?_
 clear hF; intro w hF hE
 replace hK := hK.step hE (by simpa using hcbN)
 clear hE
 replace hF : FR w0 (Rows q la.length) [_, (cb, .cells (Xa (((n + 1) * (m + 1))) (Le (f) (gi m (x + 1) (y + 1)) (min ((1 : Int) + min ((d1 : Nat) : Int) ((d2 : Nat) : Int) : Int) (((d3 : Nat) : Int) + (tt : Nat) : Int)))) 3)] w := hF
 refine Za (Ob (Ha (Ea (Ca (Ib rfl) (Ca (Bj (((v + (y + 1) : Nat) : Int)) rfl rfl) (Ca (Ic rfl) (Za ?_)))))))
 refine Ec ⟨_, ?_, y + 1, (Le (f) (gi m (x + 1) (y + 1)) (min ((1 : Int) + min ((d1 : Nat) : Int) ((d2 : Nat) : Int) : Int) (((d3 : Nat) : Int) + (tt : Nat) : Int))), Kg P (u + x) (v + y) (min ((1 : Int) + min ((d1 : Nat) : Int) ((d2 : Nat) : Int) : Int) (((d3 : Nat) : Int) + (tt : Nat) : Int)), rfl, by_Om, (Gok.put hG_ by_Om (by rw [hbest.1])), (Fok.put hP ⟨by omega, by omega, by omega, by omega, hr1⟩ (by rw [hbest.2, ← hbest.1]; rfl)), (hK), OF, hF⟩
 omega
 have hr1 : ¬ (Yf fa (u + x) = u ∧ Yf fb (v + y) = v) := by omega
 obtain ⟨d4, hd4⟩ : ∃ d, d = fd (Ub la fa) (Ub lb fb) u (lu) v (lv) := ⟨_, rfl⟩
 obtain ⟨d5, hd5⟩ : ∃ d, d = td (Ub la fa) (Ub lb fb) (u + x) (v + y) := ⟨_, rfl⟩
 have hv4 : f (gi m (lu - u) (lv - v)) = (d4 : Int) := by have h := hG_.2.1 (lu - u) (lv - v) by_Om by_Om; rw [h, hd4, N5, show u + (lu - u) = lu by omega, show v + (lv - v) = lv by omega]
 have hv5 : P (u + x) (v + y) = (d5 : Int) := by rw [hP.2 _ _ (fun h => hr1 h.2.2.2.2), hd5]; exact hP0 _ _ by_Om by_Om by_Om by_Om hr1
 have hm4 : d4 ≤ 1024 := by rw [hd4]; have := (Zk (Ub la fa) (Ub lb fb) _ u lu v lv (Nat.le_refl _)).1; omega
 have hm5 : d5 ≤ 1024 := by rw [hd5]; unfold td; have := (Zk (Ub la fa) (Ub lb fb) _ (Yf fa (u + x)) (u + x + 1) (Yf fb (v + y)) (v + y + 1) (Nat.le_refl _)).1; have e1 : (Ub la fa).lf (u + x) = Yf fa (u + x) := rfl; have e2 : (Ub lb fb).lf (v + y) = Yf fb (v + y) := rfl; rw [e1, e2]; omega
 have hbest := Yu (A := Ub la fa) (B := Ub lb fb) (u := u) (v := v) (x := x) (y := y) (by show u ≤ Yf fa (u + x); omega) (by show v ≤ Yf fb (v + y); omega)
 have e1 : (Ub la fa).lf (u + x) = lu := hlu.symm
 have e2 : (Ub lb fb).lf (v + y) = lv := hlv.symm
 rw [e1, e2, ← hd1, ← hd2, ← hd4, ← hd5] at hbest
 refine Dd [] (.free 0 (.free 1 (.free 2 (.free 3 (.free 4 (.free 5 (.free 6 (.free 7 (.free 8 (.free 9 (.free 13 (.free 14 (.free 15 (.free 16 (.free 17 (.free 18 (.free 19 (.free 20 (.free 21 (.free 22 (.act 10 (.free 11 (.free 12 (.free 23 (.free 24 (.free 25 .nil)))))))))))))))))))))))))) hF ?_
 clear hF; intro w hF hE
 replace hK := hK.ext hE
 clear hE
 refine ⟨fun wq => FR w0 (Rows q la.length) _ wq ∧ Rk wq N0 rb pb q la fa lb fb Aa Ba Ab Bb k1 k2 k3 k4 P, ⟨hF, hK⟩, ?_⟩
 refine Cb rfl (Ib rfl) (Cb rfl (Qd rfl) (Cb rfl (Ib rfl) (Cb rfl (Ib rfl) (Cb rfl (Sp rfl rfl) (Cb rfl (Sp rfl rfl) (Cb rfl (Ib rfl) (Cb rfl (Ib rfl) (Cb rfl (Sp rfl rfl) (Cb rfl (Sp rfl rfl) (Cb rfl (Qd rfl) (Cb rfl (Ze rfl) (Cb rfl (Ac Xo rfl) (Qa rfl (v := .slice (some ⟨pb, 0, none⟩) la.length la.length) (fun w hC => Db isAgg36 rfl hC.2.c4) ?_)))))))))))))
 refine Cb rfl (Ib rfl) (Qa rfl (v := .pointer (some ⟨pb, u + x, none⟩)) (fun w hC => Rb (i := ((u + x : Nat) : Int)) (u + x) Vg rfl rfl by_Om by_Om by_Om) (Qa rfl (v := .slice (some ⟨q (u + x), 0, none⟩) (lb.length) (lb.length)) (fun w hC => Db isAgg39 rfl (hC.2.grid.rowCell by_Om)) (Cb rfl (Ib rfl) (Qa rfl (v := .pointer (some ⟨q (u + x), v + y, none⟩)) (fun w hC => Rb (i := ((v + y : Nat) : Int)) (v + y) Qe rfl rfl by_Om by_Om by_Om) ?_))))
 refine Qa rfl (v := .int .i64 ((d5 : Nat))) (fun w hC => Db isAgg3 rfl (by rw [← hv5]; exact hC.2.grid.cell by_Om by_Om)) ?_
 refine Ie rfl (Ko _ gb cb n m (lu - u) (lv - v) _ _ by_Om by_Om (hF.heap (i := 0) rfl) by_Om by_Om by_Om by_Om) (Fc Qo rfl rfl rfl rfl) ?_
 rintro _ w ⟨rfl, hE⟩
 replace hF := hF.ext hE
 replace hK := hK.ext hE
 clear hE
 refine ⟨⟨hF, hK⟩, ?_⟩
 refine Cb rfl (Ze rfl) ?_
 refine Qa rfl (v := .int .i64 ((d4 : Nat))) (fun w hC => Db isAgg3 rfl (by rw [← hv4]; exact hC.1.intCell 1 rfl (Bo by_Om by_Om))) ?_
 refine Cb rfl (Dm rfl rfl) (Qa rfl (v := .int .i64 (min ((1 : Int) + min ((d1 : Nat) : Int) ((d2 : Nat) : Int) : Int) (((d4 : Nat) : Int) + (d5 : Nat) : Int))) (fun w hC => Z8 rfl rfl) (Cb rfl (Ic rfl) (Bc (Ha (Ea (Ca (Qd rfl) (Ca (Ib rfl) (Ca (Ib rfl) ?_))))))))
 refine Ya (Ko _ gb cb n m (x + 1) (y + 1) _ _ by_Om by_Om (hF.heap (i := 0) rfl) by_Om by_Om by_Om by_Om) (Fc Qo rfl rfl rfl rfl) ?_
 rintro _ w ⟨rfl, hE⟩
 replace hF := hF.ext hE
 replace hK := hK.ext hE
 clear hE
 refine Ca (Ib rfl) (Ca (Ze rfl) ?_)
 refine Zf 1 (l := [.int .i64 (min ((1 : Int) + min ((d1 : Nat) : Int) ((d2 : Nat) : Int) : Int) (((d4 : Nat) : Int) + (d5 : Nat) : Int))]) (cs' := Xa (((n + 1) * (m + 1))) (Le (f) (gi m (x + 1) (y + 1)) (min ((1 : Int) + min ((d1 : Nat) : Int) ((d2 : Nat) : Int) : Int) (((d4 : Nat) : Int) + (d5 : Nat) : Int)))) hF sizeOf3 rfl (v := .int .i64 (min ((1 : Int) + min ((d1 : Nat) : Int) ((d2 : Nat) : Int) : Int) (((d4 : Nat) : Int) + (d5 : Nat) : Int))) rfl rfl Gd rfl (by rw [Tf]; simp only [List.length_singleton]; exact Nat.succ_le_of_lt (Bo by_Om by_Om)) (Nf _) ?_
 clear hF; intro w hF hE
 replace hK := hK.step hE (by simpa using hcbN)
 clear hE
 replace hF : FR w0 (Rows q la.length) [_, (cb, .cells (Xa (((n + 1) * (m + 1))) (Le (f) (gi m (x + 1) (y + 1)) (min ((1 : Int) + min ((d1 : Nat) : Int) ((d2 : Nat) : Int) : Int) (((d4 : Nat) : Int) + (d5 : Nat) : Int)))) 3)] w := hF
 refine Za (Ob (Ha (Ea (Ca (Ib rfl) (Ca (Bj (((v + (y + 1) : Nat) : Int)) rfl rfl) (Ca (Ic rfl) (Za ?_)))))))
 refine Ec ⟨_, ?_, y + 1, (Le (f) (gi m (x + 1) (y + 1)) (min ((1 : Int) + min ((d1 : Nat) : Int) ((d2 : Nat) : Int) : Int) (((d4 : Nat) : Int) + (d5 : Nat) : Int))), P, rfl, by_Om, (Gok.put hG_ by_Om (by rw [hbest])), (Fok.skip hP hr1), (hK), OF, hF⟩
 omega
 refine Ta (Ta (Ta (Ca (Pd rfl rfl) (Ga (Mg rfl ?_)))))
 have hr1 : ¬ (Yf fa (u + x) = u ∧ Yf fb (v + y) = v) := by omega
 obtain ⟨d4, hd4⟩ : ∃ d, d = fd (Ub la fa) (Ub lb fb) u (lu) v (lv) := ⟨_, rfl⟩
 obtain ⟨d5, hd5⟩ : ∃ d, d = td (Ub la fa) (Ub lb fb) (u + x) (v + y) := ⟨_, rfl⟩
 have hv4 : f (gi m (lu - u) (lv - v)) = (d4 : Int) := by have h := hG_.2.1 (lu - u) (lv - v) by_Om by_Om; rw [h, hd4, N5, show u + (lu - u) = lu by omega, show v + (lv - v) = lv by omega]
 have hv5 : P (u + x) (v + y) = (d5 : Int) := by rw [hP.2 _ _ (fun h => hr1 h.2.2.2.2), hd5]; exact hP0 _ _ by_Om by_Om by_Om by_Om hr1
 have hm4 : d4 ≤ 1024 := by rw [hd4]; have := (Zk (Ub la fa) (Ub lb fb) _ u lu v lv (Nat.le_refl _)).1; omega
 have hm5 : d5 ≤ 1024 := by rw [hd5]; unfold td; have := (Zk (Ub la fa) (Ub lb fb) _ (Yf fa (u + x)) (u + x + 1) (Yf fb (v + y)) (v + y + 1) (Nat.le_refl _)).1; have e1 : (Ub la fa).lf (u + x) = Yf fa (u + x) := rfl; have e2 : (Ub lb fb).lf (v + y) = Yf fb (v + y) := rfl; rw [e1, e2]; omega
 have hbest := Yu (A := Ub la fa) (B := Ub lb fb) (u := u) (v := v) (x := x) (y := y) (by show u ≤ Yf fa (u + x); omega) (by show v ≤ Yf fb (v + y); omega)
 have e1 : (Ub la fa).lf (u + x) = lu := hlu.symm
 have e2 : (Ub lb fb).lf (v + y) = lv := hlv.symm
 rw [e1, e2, ← hd1, ← hd2, ← hd4, ← hd5] at hbest
 refine Dd [] (.free 0 (.free 1 (.free 2 (.free 3 (.free 4 (.free 5 (.free 6 (.free 7 (.free 8 (.free 9 (.free 13 (.free 14 (.free 15 (.free 16 (.free 17 (.free 18 (.free 19 (.free 20 (.free 21 (.free 22 (.act 10 (.free 11 (.free 12 (.free 23 (.free 24 (.free 25 .nil)))))))))))))))))))))))))) hF ?_
 clear hF; intro w hF hE
 replace hK := hK.ext hE
 clear hE
 refine ⟨fun wq => FR w0 (Rows q la.length) _ wq ∧ Rk wq N0 rb pb q la fa lb fb Aa Ba Ab Bb k1 k2 k3 k4 P, ⟨hF, hK⟩, ?_⟩
 refine Cb rfl (Ib rfl) (Cb rfl (Qd rfl) (Cb rfl (Ib rfl) (Cb rfl (Ib rfl) (Cb rfl (Sp rfl rfl) (Cb rfl (Sp rfl rfl) (Cb rfl (Ib rfl) (Cb rfl (Ib rfl) (Cb rfl (Sp rfl rfl) (Cb rfl (Sp rfl rfl) (Cb rfl (Qd rfl) (Cb rfl (Ze rfl) (Cb rfl (Ac Xo rfl) (Qa rfl (v := .slice (some ⟨pb, 0, none⟩) la.length la.length) (fun w hC => Db isAgg36 rfl hC.2.c4) ?_)))))))))))))
 refine Cb rfl (Ib rfl) (Qa rfl (v := .pointer (some ⟨pb, u + x, none⟩)) (fun w hC => Rb (i := ((u + x : Nat) : Int)) (u + x) Vg rfl rfl by_Om by_Om by_Om) (Qa rfl (v := .slice (some ⟨q (u + x), 0, none⟩) (lb.length) (lb.length)) (fun w hC => Db isAgg39 rfl (hC.2.grid.rowCell by_Om)) (Cb rfl (Ib rfl) (Qa rfl (v := .pointer (some ⟨q (u + x), v + y, none⟩)) (fun w hC => Rb (i := ((v + y : Nat) : Int)) (v + y) Qe rfl rfl by_Om by_Om by_Om) ?_))))
 refine Qa rfl (v := .int .i64 ((d5 : Nat))) (fun w hC => Db isAgg3 rfl (by rw [← hv5]; exact hC.2.grid.cell by_Om by_Om)) ?_
 refine Ie rfl (Ko _ gb cb n m (lu - u) (lv - v) _ _ by_Om by_Om (hF.heap (i := 0) rfl) by_Om by_Om by_Om by_Om) (Fc Qo rfl rfl rfl rfl) ?_
 rintro _ w ⟨rfl, hE⟩
 replace hF := hF.ext hE
 replace hK := hK.ext hE
 clear hE
 refine ⟨⟨hF, hK⟩, ?_⟩
 refine Cb rfl (Ze rfl) ?_
 refine Qa rfl (v := .int .i64 ((d4 : Nat))) (fun w hC => Db isAgg3 rfl (by rw [← hv4]; exact hC.1.intCell 1 rfl (Bo by_Om by_Om))) ?_
 refine Cb rfl (Dm rfl rfl) (Qa rfl (v := .int .i64 (min ((1 : Int) + min ((d1 : Nat) : Int) ((d2 : Nat) : Int) : Int) (((d4 : Nat) : Int) + (d5 : Nat) : Int))) (fun w hC => Z8 rfl rfl) (Cb rfl (Ic rfl) (Bc (Ha (Ea (Ca (Qd rfl) (Ca (Ib rfl) (Ca (Ib rfl) ?_))))))))
 refine Ya (Ko _ gb cb n m (x + 1) (y + 1) _ _ by_Om by_Om (hF.heap (i := 0) rfl) by_Om by_Om by_Om by_Om) (Fc Qo rfl rfl rfl rfl) ?_
 rintro _ w ⟨rfl, hE⟩
 replace hF := hF.ext hE
 replace hK := hK.ext hE
 clear hE
 refine Ca (Ib rfl) (Ca (Ze rfl) ?_)
 refine Zf 1 (l := [.int .i64 (min ((1 : Int) + min ((d1 : Nat) : Int) ((d2 : Nat) : Int) : Int) (((d4 : Nat) : Int) + (d5 : Nat) : Int))]) (cs' := Xa (((n + 1) * (m + 1))) (Le (f) (gi m (x + 1) (y + 1)) (min ((1 : Int) + min ((d1 : Nat) : Int) ((d2 : Nat) : Int) : Int) (((d4 : Nat) : Int) + (d5 : Nat) : Int)))) hF sizeOf3 rfl (v := .int .i64 (min ((1 : Int) + min ((d1 : Nat) : Int) ((d2 : Nat) : Int) : Int) (((d4 : Nat) : Int) + (d5 : Nat) : Int))) rfl rfl Gd rfl (by rw [Tf]; simp only [List.length_singleton]; exact Nat.succ_le_of_lt (Bo by_Om by_Om)) (Nf _) ?_
 clear hF; intro w hF hE
 replace hK := hK.step hE (by simpa using hcbN)
 clear hE
 replace hF : FR w0 (Rows q la.length) [_, (cb, .cells (Xa (((n + 1) * (m + 1))) (Le (f) (gi m (x + 1) (y + 1)) (min ((1 : Int) + min ((d1 : Nat) : Int) ((d2 : Nat) : Int) : Int) (((d4 : Nat) : Int) + (d5 : Nat) : Int)))) 3)] w := hF
 refine Za (Ob (Ha (Ea (Ca (Ib rfl) (Ca (Bj (((v + (y + 1) : Nat) : Int)) rfl rfl) (Ca (Ic rfl) (Za ?_)))))))
 refine Ec ⟨_, ?_, y + 1, (Le (f) (gi m (x + 1) (y + 1)) (min ((1 : Int) + min ((d1 : Nat) : Int) ((d2 : Nat) : Int) : Int) (((d4 : Nat) : Int) + (d5 : Nat) : Int))), P, rfl, by_Om, (Gok.put hG_ by_Om (by rw [hbest])), (Fok.skip hP hr1), (hK), OF, hF⟩
 omega
 refine Lc (Hc rfl ?_)
 refine Ob (Ha (Ea (Ca (Ib rfl) (Ca (Bj (((u + (x + 1) : Nat) : Int)) rfl rfl) (Ca (Ic rfl) (Za ?_))))))
 refine Ec ⟨_, ?_, x + 1, (f), P, rfl, by_Om, ((by obtain rfl : y = m := by_Om; exact Gok.close hG_)), ((by obtain rfl : y = m := by_Om; exact Fok.next hP)), (hK), L7, hF⟩
 omega
 refine Lc (Hc rfl ?_)
 refine Ha (Ma (Ca (Qd rfl) (Ca (X7 rfl) (Ga ?_))))
 refine Wd (v := .pointer _) rfl rfl ?_
 obtain rfl : x = n := by omega
 exact ⟨gb, cb, f, P, rfl, hF.heap (i := 0) rfl, hF.heap (i := 1) rfl, hD_.2 _ _ (Nat.le_refl _) (Nat.le_refl _), hK, fun i j h => hP.1 i j h (.inl h.2.1), hP.2, hgs, hcs, hF.same⟩
end Go.Scarf
namespace Go.Scarf
open Go.RowKit Go.Proofs Go.Proofs.Tryz
def Sm (lm : LN) (seen : Array Nat) : List Nat := seen.toList.map fun i => (lm.getD i (0, 0)).2
theorem Uv (lm : LN) (seen : Array Nat) (j : Nat) : Sm lm (seen.push j) = Sm lm seen ++ [(lm.getD j (0, 0)).2] := by simp [Sm]
theorem Ys (lm : LN) (seen : Array Nat) : (Sm lm seen).length = seen.size := by simp [Sm]
theorem NJ (lm : LN) (j : Nat) (h : j < (Aj lm).length) : (Aj lm)[j].2 = .int .i64 (((lm.getD j (0, 0)).2 : Nat) : Int) := by
  rw [Qn] at h
  simp [Aj, List.getD, h]
theorem Vk {S : Nat → Prop} {wx : World} : ∀ {q : List Int}, (∀ s ∈ q, -9223372036854775808 ≤ s ∧ s ≤ 9223372036854775807) → RepL S wx (q.map Kf) (q.map fun s => Value.int .i64 s)
  | [], _ => RepL.nil_mk
  | s :: q, h => RepL.cons_mk (Rep.lit_mk (v := .int .i64 s) (h s Fa)) (Vk fun x hx => h x (by simp [hx]))
theorem PF {w0 w : World} {pre post sb : List (Nat × Obj)} {A : Option Addr} {n c : Nat} {zs : List Int} (hn0 : n = zs.length) (hS : SlB 3 1 A n c (zs.map (Value.int .i64)) sb) (hF : FR w0 [] (pre ++ (sb ++ post)) w) (hl : n ≤ 1000000) :
    Calls prog 132 #[.slice A n c] w (Nd fun v w' => v = .tuple #[] ∧ ∃ sb', SlB 3 1 A n c ((zs.mergeSort fun x y => decide (x ≤ y)).map (Value.int .i64)) sb' ∧ FR w0 [] (pre ++ (sb' ++ post)) w') := by
  subst hn0
  rcases hS.2 with ⟨hn, hc, rfl⟩ | ⟨g, cur, rfl, rfl, h1, h2, h3, h4⟩
  · obtain rfl : zs = [] := List.eq_nil_of_length_eq_zero hn
    refine (Go.Proofs.Tryz.slices_Sort_int_none A c w).mono ?_
    rintro e w' ⟨rfl, rfl⟩
    exact ⟨_, rfl, rfl, [], by simpa using hS, hF⟩
  · have hb := hF.memHeap (p := (g, .cells cur 3)) Fa
    rw [Nat.mul_one] at h4
    refine (Go.Proofs.Tryz.slices_Sort_int g 0 c zs w (holds_of_blockI hb h4) (Da hb) by_Om).mono ?_
    rintro e w' ⟨rfl, n, os, rfl⟩
    have hlm : (zs.mergeSort fun x y => decide (x ≤ y)).length = zs.length := List.length_mergeSort _
    have hnew := heap_sortedI (n := n) (os := os) (zs.mergeSort fun x y => decide (x ≤ y)).toArray hb
    have hg := grownBy_sortedI (w := w) (g := g) (n := n) (os := os) (zs.mergeSort fun x y => decide (x ≤ y)).toArray
    have hs : Same [g] w (Go.Sort.grow (Go.Sort.putRow (Value.int .i64) (Go.Sort.ahead w n) g 0 (zs.mergeSort fun x y => decide (x ≤ y)).toArray) os) := ⟨hg.os, hg.tape, hg.output, hg.size, fun b hb hn => hg.block b hb (fun e => hn (by simp at e; simp [e]))⟩
    refine ⟨_, rfl, rfl, _, ?_, hF.changeMid hs hnew⟩
    refine ⟨by simp [hlm], .inr ⟨g, _, rfl, rfl, h1, h2, by simp [Go.Sort.putCells, h3], ?_⟩⟩
    rw [Nat.mul_one, ← hlm]
    exact take_putCellsI cur _ (by rw [hlm]; omega)
theorem CF (l : LN) (k : Int) (v : Nat) : (U0 l k v).length ≤ l.length + 1 := by
  unfold U0
  split
  · rw [List.length_set]; omega
  · simp
theorem Bt {lm : LN} {seen : Array Nat} (hn : seen.toList.Nodup) (hl : ∀ i ∈ seen.toList, i < lm.length) : seen.size ≤ lm.length := by
  have hp : seen.toList.Perm ((List.range lm.length).filter fun i => decide (i ∈ seen.toList)) := Io hn (List.Pairwise.filter _ List.nodup_range) fun x => by
    rw [List.mem_filter, List.mem_range, decide_eq_true_eq]
    exact ⟨fun h => ⟨hl x h, h⟩, fun h => h.2⟩
  have h1 := hp.length_eq
  have h2 := List.length_filter_le (fun i => decide (i ∈ seen.toList)) (List.range lm.length)
  rw [List.length_range] at h2
  simp only [Array.length_toList] at h1
  omega
theorem Hw (S : Nat → Prop) (w0 : World) (la : List Str) (fa : List Int) (Aa Ba : Option Addr) (ca ea : Nat) (hLa : Rep S w0 (Lf la) [.slice Aa la.length ca]) (hNa : Rep S w0 (.slice (fa.map Kf)) [.slice Ba fa.length ea]) (hR : Ig la fa) : Calls prog 103 #[.agg #[.slice Aa la.length ca, .slice Ba fa.length ea]] w0 (Nd fun v w' => ∃ A c, v = .slice A (Yb fa).length c ∧ Rep (Btw w0 w') w' (.slice (((Yb fa).map fun i : Nat => (i : Int)).map Kf)) [.slice A (Yb fa).length c] ∧ Same [] w0 w') := by
 have hLla := hLa.slice_len
 have hNla := hNa.slice_len
 rw [List.length_map] at hLla hNla
 have hR5 := hR.2.1
 have hRl := hR.1
 refine Ka func103 rfl ntmps103 Kb (Yc _) ?_
 have hF := FR.start w0 []
 refine Ma ?_
 refine Ij hF rfl ?_
 clear hF; rintro b1 w hb1 hF -
 refine Ca (Ji rfl) (Ga (Ia (Ma (Md (Pk isAgg60 sizeOf60 rfl hF.F 0 rfl rfl) ?_))))
 refine Ya (Ev _ _ la fa Aa Ba ca ea (hF.rep hLa) (hF.rep hNa)) (Fb U5 rfl rfl) ?_
 rintro _ w ⟨b, rfl, hb, hE⟩
 obtain rfl : b = true := hb.2 hR
 replace hF := hF.ext hE
 clear hE
 refine Ca (Lp (b := true) rfl) (Ga (Uw rfl (Ma ?_)))
 refine Yq (v := fun b => .map (some b)) (o := Uh (Aj [])) hF (S3 underlying166) ?_
 clear hF; rintro b2 w hb2 hF -
 refine Ca (Mx) (Ga (Ia (Ma (Ca (Ac Gf rfl) (Md (Di isAgg39 rfl hF.F 1 rfl rfl) (Ca (Mf underlying39 rfl) (Ca (Ib rfl) (Ga (Va ?_)))))))))
 refine Xc (fun μ σ w => ∃ (j : Nat), ∃ (lm : LN), μ = fa.length - j ∧ (j ≤ fa.length) ∧ (LastOk fa j lm ∧ lm.length ≤ j) ∧ AllEq σ [(3, .map (some b2)), (14, .slice Ba fa.length ea), (15, .int .i64 ((fa.length : Nat))), (16, .int .i64 ((j : Int)))] ∧ FR w0 [] [(b2, Uh (Aj lm)), (b1, .cells #[.slice Aa la.length ca, .slice Ba fa.length ea] 60)] w) _ ⟨0, [], rfl, (Nat.zero_le _), (⟨LastOk.nil fa, Nat.le_refl _⟩), Xt, hF⟩ ?_
 clear hF; rintro μ σ w ⟨j, lm, rfl, hj, hlm, hs, hF⟩
 refine Cg.slots hs ?_
 clear hs; intro σ
 refine Ma (Ca (Yl rfl rfl) (Ga (Ia ?_)))
 refine Jc rfl rfl (fun hc1 => ?_) (fun hc1 => ?_)
 refine Wa (Ha (Ia (Va (Ma (Ca (Ib rfl) ?_)))))
 obtain ⟨ad0, hA0, hk0, hx0⟩ := hNa.int_elem (i := j) by_Om
 refine Ja (v := .pointer (some (ad0.add (j * 1)))) (Ra (i := (j : Int)) Qe rfl hA0 rfl by_Om by_Om) (Ja (v := .int .i64 (fa[j])) (Db isAgg3 rfl (hF.cell0 hk0)) (Ca (Ic rfl) (Ca (Ic rfl) (Ga (Ea (Ca (M5) (Ca (Ib rfl) (Ca (Ib rfl) ?_))))))))
 refine EC 0 (l := lm) (key := fa[j]) (v := j) hF underlying166 underlying3 rfl rfl rfl rfl ?_
 clear hF; rintro w hF -
 replace hF : FR w0 [] [(b2, Uh (Aj (U0 lm (fa[j]) (j)))), _] w := hF
 refine Za (Ob (Ha (Ea (Ca (Bj (((j + 1 : Nat) : Int)) rfl rfl) (Ca (Ib rfl) (Za ?_))))))
 refine Ec ⟨_, ?_, j + 1, U0 lm fa[j] j, rfl, by_Om, (⟨by have := hlm.1.step; rwa [Jk by_Om] at this, by have := CF lm fa[j] j; omega⟩), Xt, hF⟩
 omega
 refine Lc (Hc rfl ?_)
 refine Ha (Ma (Ca (Ji rfl) (Ga (Ia (Ia ?_)))))
 have hjn : j = fa.length := by omega
 rw [hjn] at hlm
 refine Ea (Ca (M5) ?_)
 refine Yq (v := fun b => .pointer (some ⟨b, 0, none⟩)) (o := .mapIter (some b2) ((Aj lm)).length #[] ((Aj lm)).length) hF (RE underlying166 rfl (hF.heap (i := 0) rfl)) ?_
 clear hF; rintro b3 w hb3 hF -
 refine Ga (Va ?_)
 replace hF : FR w0 [] ([(b3, .mapIter (some b2) ((Aj lm)).length #[] ((Aj lm)).length), (b2, Uh (Aj lm)), (b1, .cells #[.slice Aa la.length ca, .slice Ba fa.length ea] 60)] ++ ([] ++ [])) w := hF
 refine Xc (fun μ σ w => ∃ (seen : Array Nat), ∃ (A : Option Addr), ∃ (c : Nat), ∃ (sb : List (Nat × Obj)), μ = X0 (Aj lm).length seen ∧ (seen.toList.Nodup) ∧ (∀ i ∈ seen.toList, i < lm.length) ∧ (SlB 3 1 A (Sm lm seen).length c (AB (Sm lm seen)) sb) ∧ AllEq σ [(6, .slice (A) ((Sm lm seen).length) (c)), (26, .pointer (some ⟨b3, 0, none⟩))] ∧ FR w0 [] ([(b3, .mapIter (some b2) (Aj lm).length (seen) (Aj lm).length), (b2, Uh (Aj lm)), (b1, .cells #[.slice Aa la.length ca, .slice Ba fa.length ea] 60)] ++ (sb ++ [])) w) _ ⟨#[], none, 0, [], rfl, Fa, Fa, (SlB.nil _ _), I3, hF⟩ ?_
 clear hF; rintro μ σ w ⟨seen, A, c, sb, rfl, hsn, hsl, hS, hs, hF⟩
 refine Cg.slots hs ?_
 clear hs; intro σ
 refine Ma ?_
 refine ZG 0 (b := b2) (l := (Aj lm)) (seen := seen) hF rfl rfl (hF.heap (i := 1) rfl) (fun hall => ?_) (fun q w hq hn hF2 hE _ => ?_)
 refine Ca (Wq rfl rfl) (Ga (Ia (Mg rfl ?_)))
 refine Lc (Hc rfl ?_)
 refine Ha (Ma (Ca (Ge rfl) ?_))
 refine Ya (PF (pre := [(b3, .mapIter (some b2) (Aj lm).length (seen) (Aj lm).length), (b2, Uh (Aj lm)), (b1, .cells #[.slice Aa la.length ca, .slice Ba fa.length ea] 60)]) (post := []) (zs := (Sm lm seen).map fun i : Nat => (i : Int)) Fa (by have h := hS; unfold AB at h; rw [List.map_map]; exact h) hF (by have := Bt hsn hsl; have := hlm.2; rw [Ys]; omega)) (Fb EK rfl rfl) ?_
 rintro _ w ⟨rfl, sb2, hS2, hF⟩
 refine Dc (Ca (Ge rfl) (Ca (Ji rfl) (Ga ?_)))
 refine Wd (v := .slice _ _ _) rfl rfl ?_
 have hp := Y_ hsn hsl (fun i hi => by have := hall i (by rw [Qn]; exact hi); rw [← Array.contains_toList] at this; exact List.contains_iff_mem.1 this)
 have hk := S4 (hp.trans hlm.1.perm)
 have hk2 : (((Sm lm seen).map fun i : Nat => (i : Int)).mergeSort fun x y => decide (x ≤ y)) = (Yb fa).map fun i : Nat => (i : Int) := hk
 rw [hk2] at hS2
 have hlen : (Sm lm seen).length = (Yb fa).length := (hp.trans hlm.1.perm).length_eq
 rw [hlen] at hS2 ⊢
 refine ⟨_, _, rfl, ?_, hF.same⟩
 have hK : RX w0 [] w (((Yb fa).map fun i : Nat => (i : Int)).map Kf) _ := Vk (fun s hs => by obtain ⟨i, hi, rfl⟩ := List.mem_map.1 hs; have := (Xf.1 hi).1; have := hR.1; have := hR.2.1; omega)
 exact hS2.rep (pre := [_, _, _]) (post := []) hF hK Fa
 clear hF
 have hF : FR w0 [] ([(b3, .mapIter (some b2) ((Aj lm)).length ((seen).push q) ((Aj lm)).length), (b2, Uh (Aj lm)), (b1, .cells #[.slice Aa la.length ca, .slice Ba fa.length ea] 60)] ++ (sb ++ [])) w := hF2
 clear hE hF2
 refine Ca (Wq rfl rfl) (Ga (Ia (Je rfl (Wa (Ha (Va (Ma (Ja (v := .tuple #[.int .i64 ((Aj lm)[q].1), .int .i64 (((lm.getD q (0, 0)).2 : Nat))]) (MD rfl hq (hF.heap (i := 0) rfl) (hF.heap (i := 1) rfl) (NJ lm q hq)) (Ca (Co rfl rfl) (Ca (Ic rfl) (Za ?_)))))))))))
 refine Ha (Ea (Ca (Ge rfl) (Ca (Ib rfl) ?_)))
 refine Se 1 hF (Sa (cs := #[.int .i64 (((lm.getD q (0, 0)).2 : Nat))]) underlying39 sizeOf3 zeroValue3 Pa Pa Eb) ?_
 clear hF; rintro b4 w hb4 hF -
 refine Yo [(b4, .cells #[.int .i64 (((lm.getD q (0, 0)).2 : Nat))] 3), (b3, .mapIter (some b2) ((Aj lm)).length ((seen).push q) ((Aj lm)).length), (b2, Uh (Aj lm)), (b1, .cells #[.slice Aa la.length ca, .slice Ba fa.length ea] 60)] [] (news := [.int .i64 (((lm.getD q (0, 0)).2 : Nat))]) (len' := (Sm lm (seen.push q)).length) (ys := AB (Sm lm (seen.push q))) Ih hF hS rfl rfl (rfl) (fun _ => ⟨_, rfl, Jb (hF.cellsAll 0 rfl)⟩) (by simp [Value.oneCell']) (by have := Bt hsn hsl; simp only [maxLen, Ys]; omega) (by simp [Uv]) (by simp [AB, Uv]) (by have := Bt hsn hsl; simp only [Ys]; omega) ?_
 clear hF; intro A1 c1 o_1 w hS1_o hF hE hnew
 clear hE hnew
 refine Ca (Ji rfl) (Za (Ob ?_))
 refine Ec ⟨_, ?_, seen.push q, A1, c1, o_1, rfl, (by rw [Array.toList_push, List.nodup_append]; exact ⟨hsn, by simp, fun a ha b hb e => by simp only [List.mem_singleton] at hb; subst hb; subst e; rw [← Array.contains_toList] at hn; exact absurd (List.contains_iff_mem.2 ha) (by rw [hn]; simp)⟩), (by intro i hi; rw [Array.toList_push, List.mem_append, List.mem_singleton] at hi; rcases hi with hi | rfl; exact hsl i hi; rw [← Qn]; exact hq), (hS1_o), I3, hF.drop 1⟩
 exact L2 hq hn
end Go.Scarf
namespace Go.Scarf
open Go.RowKit Go.Proofs Go.Proofs.Tryz
def Yj (n m i : Nat) (q : Nat → Nat) : Array Value := ((List.range n).map fun k => if k < i then Value.slice (some ⟨q k, 0, none⟩) m m else Value.slice none 0 0).toArray
theorem Z7 (n m i : Nat) (q : Nat → Nat) : (Yj n m i q).size = n := by simp [Yj]
theorem K6 (n m : Nat) (q : Nat → Nat) : (List.replicate n (Value.slice none 0 0)).toArray = Yj n m 0 q := by
  apply Array.ext
  · simp [Yj]
  · intro i h1 h2; simp [Yj]
def He (q : Nat → Nat) (i b : Nat) : Nat → Nat := fun k => if k = i then b else q k
theorem UA {n m i b : Nat} {q : Nat → Nat} (hi : i < n) : Fi (Yj n m i q) i [.slice (some ⟨b, 0, none⟩) m m] = Yj n m (i + 1) (He q i b) := by
  rw [Fi, Fi]
  apply Array.ext
  · simp [Yj]
  · intro k h1 h2
    rw [Array.getElem_setIfInBounds (by simpa using h1)]
    by_cases e : i = k
    · subst e; simp [Yj, He]
    · have e' : ¬ k = i := fun h => e h.symm
      rw [if_neg e]
      by_cases hk : k < i
      · simp [Yj, He, hk, e', show k < i + 1 by omega]
      · simp [Yj, He, hk, e', show ¬ k < i + 1 by omega]
theorem K7 (n m : Nat) (q : Nat → Nat) : Yj n m n q = ((List.range n).map fun i => Value.slice (some ⟨q i, 0, none⟩) m m).toArray := by
  unfold Yj
  congr 1
  exact List.map_congr_left fun k hk => by rw [if_pos (List.mem_range.1 hk)]
theorem FR.new_ids {w0 w : World} {Ds : List Nat} {bs_ : List (Nat × Obj)} {b : Nat} {o : Obj} (hF : FR w0 Ds ((b, o) :: bs_) w) : b ∉ bs_.map (·.1) := fun h => by
  obtain ⟨z, hz, e⟩ := List.mem_map.1 h
  exact (List.pairwise_cons.1 hF.desc).1 z hz e
structure RowsOk (w0 w : World) (i m : Nat) (q : Nat → Nat) (ids : List Nat) : Prop where
  row : ∀ k, k < i → w.heap[q k]? = some (.cells (Xa m fun _ => 0) 3)
  inj : ∀ k l, k < i → l < i → q k = q l → k = l
  new : ∀ k, k < i → w0.heap.size ≤ q k ∧ q k ∉ ids
theorem RowsOk.step {w0 w w' : World} {i m : Nat} {q : Nat → Nat} {ids E : List Nat} (h : RowsOk w0 w i m q ids) (hs : Same E w w') (he : ∀ b ∈ E, b ∈ ids) : RowsOk w0 w' i m q ids :=
  ⟨fun k hk => (hs.block _ (Da (h.row k hk)) (fun hm => (h.new k hk).2 (he _ hm))).trans (h.row k hk), h.inj, h.new⟩
theorem RowsOk.put {w0 w : World} {i m b : Nat} {q : Nat → Nat} {ids : List Nat} (h : RowsOk w0 w i m q ids) (hb : w.heap[b]? = some (.cells (Xa m fun _ => 0) 3)) (h1 : w0.heap.size ≤ b) (h2 : b ∉ ids) (h3 : ∀ k, k < i → q k ≠ b) : RowsOk w0 w (i + 1) m (He q i b) ids := by
  have e : ∀ k, He q i b k = if k = i then b else q k := fun _ => rfl
  refine ⟨fun k hk => ?_, fun k l hk hl he => ?_, fun k hk => ?_⟩
  · rw [e]; split
    · exact hb
    · exact h.row k by_Om
  · rw [e, e] at he
    split at he <;> split at he
    · omega
    · exact absurd he.symm (h3 l by_Om)
    · exact absurd he (h3 k by_Om)
    · exact h.inj k l by_Om by_Om he
  · rw [e]; split
    · exact ⟨h1, h2⟩
    · exact h.new k by_Om
theorem Ex (fs : List Int) : (Yb fs).length ≤ fs.length := by
  have := List.length_filter_le (fun i => LB fs i) (List.range fs.length)
  rwa [List.length_range] at this
theorem F5 {fs : List Int} (h : lfOk fs fs.length) {k x : Nat} (hk : k ∈ Yb fs) (hx : x < fs.length) (e : Yf fs x = Yf fs k) : Yf fs k ≤ x ∧ x ≤ k := by
  obtain ⟨h1, h2⟩ := Xf.1 hk
  have e1 := h.at h1 h1
  have e2 := h.at hx hx
  refine ⟨by rw [← e]; exact Nat.min_le_right _ _, ?_⟩
  refine Classical.byContradiction fun hn => h2 x hx by_Om ?_
  rw [Jk hx, Jk h1]
  omega
theorem K0 (S S' : Nat → Prop) (w0 : World) (la : List Str) (fa : List Int) (Aa Ba : Option Addr) (ca ea : Nat) (hLa : Rep S w0 (Lf la) [.slice Aa la.length ca]) (hNa : Rep S w0 (.slice (fa.map Kf)) [.slice Ba fa.length ea]) (lb : List Str) (fb : List Int) (Ab Bb : Option Addr) (cb eb : Nat) (hLb : Rep S' w0 (Lf lb) [.slice Ab lb.length cb]) (hNb : Rep S' w0 (.slice (fb.map Kf)) [.slice Bb fb.length eb]) (hRa : Ig la fa) (hRb : Ig lb fb) : Calls prog 83 #[.agg #[.slice Aa la.length ca, .slice Ba fa.length ea], .agg #[.slice Ab lb.length cb, .slice Bb fb.length eb]] w0 (Nd fun v w' => ∃ (N0 rb pb : Nat) (q : Nat → Nat) (P : Nat → Nat → Int), v = .tuple #[.pointer (some ⟨rb, 0, none⟩), .bool true] ∧ Rk w' N0 rb pb q la fa lb fb Aa Ba Ab Bb ca ea cb eb P ∧ (∀ x y, x < la.length → y < lb.length → P x y = ((td (Ub la fa) (Ub lb fb) x y : Nat) : Int)) ∧ N0 ≤ w'.heap.size ∧ (∀ i, i < la.length → w0.heap.size ≤ q i) ∧ Same [] w0 w') := by
 have hLla := hLa.slice_len
 have hNla := hNa.slice_len
 rw [List.length_map] at hLla hNla
 have hLlb := hLb.slice_len
 have hNlb := hNb.slice_len
 rw [List.length_map] at hLlb hNlb
 have hR1 := hRa.1
 have hR2 := hRa.2.1
 have hR3 := hRb.1
 have hR4 := hRb.2.1
 have hkl1 := Ex fa
 have hkl2 := Ex fb
 refine Ka func83 rfl ntmps83 Kb (Td _ _) ?_
 have hF := FR.start w0 []
 refine Ma ?_
 refine Ij hF rfl ?_
 clear hF; rintro b1 w hb1 hF -
 refine Ij hF rfl ?_
 clear hF; rintro b2 w hb2 hF -
 refine Ca (X7 rfl) (Ca (Gc rfl) (Ga (Ia (Ma (Md (Pk isAgg60 sizeOf60 rfl hF.F 1 rfl rfl) ?_)))))
 refine Ya (Ev _ _ la fa Aa Ba ca ea (hF.rep hLa) (hF.rep hNa)) (Fb U5 rfl rfl) ?_
 rintro _ w ⟨b, rfl, hb, hE⟩
 obtain rfl : b = true := hb.2 hRa
 replace hF := hF.ext hE
 clear hE
 refine Ca (Lp (b := true) rfl) (Ca (Ld rfl) (Md (Pk isAgg60 sizeOf60 rfl hF.F 0 rfl rfl) ?_))
 refine Ya (Ev _ _ lb fb Ab Bb cb eb (hF.rep hLb) (hF.rep hNb)) (Fb U5 rfl rfl) ?_
 rintro _ w ⟨b, rfl, hb, hE⟩
 obtain rfl : b = true := hb.2 hRb
 replace hF := hF.ext hE
 clear hE
 refine Ca (Lp (b := true) rfl) (Ca (Pd rfl rfl) (Ga (Uw rfl (Ia ?_))))
 refine Bg (zs := []) (.free 0 (.free 1 (.free 2 (.free 3 (.free 4 (.act 5 (.free 6 (.act 7 (.free 8 .nil))))))))) hF ?_
 clear hF; intro w hF
 refine Eo rfl (Pk isAgg60 sizeOf60 rfl C0 1 rfl rfl) (Eo rfl (Pk isAgg60 sizeOf60 rfl C0 0 rfl rfl) (Cb rfl (Ac Zd rfl) (Eo rfl (Di isAgg25 rfl C0 1 rfl rfl) (Cb rfl (Mf underlying25 rfl) ?_))))
 refine Dp rfl (v := fun b => .slice (some ⟨b, 0, none⟩) la.length la.length) (o := .cells (List.replicate (la.length) (.slice none 0 0)).toArray 39) hF (Yz (z := .slice none 0 0) Ph Eb rfl rfl rfl by_Om Pa) ?_
 clear hF; rintro b3 w hb3 hF -
 refine ⟨hF.drop 1, ?_⟩
 refine Qa rfl (v := .agg #[.slice Aa la.length ca, .slice Ba fa.length ea, .slice Ab lb.length cb, .slice Bb fb.length eb, .slice (some ⟨b3, 0, none⟩) la.length la.length]) (fun w hC => by kernel_rfl) ?_
 refine Dp rfl (v := fun b => .pointer (some ⟨b, 0, none⟩)) (o := .cells #[.slice Aa la.length ca, .slice Ba fa.length ea, .slice Ab lb.length cb, .slice Bb fb.length eb, .slice (some ⟨b3, 0, none⟩) la.length la.length] 130) hF (SH (v := .agg #[.slice Aa la.length ca, .slice Ba fa.length ea, .slice Ab lb.length cb, .slice Bb fb.length eb, .slice (some ⟨b3, 0, none⟩) la.length la.length]) rfl) ?_
 clear hF; rintro b4 w hb4 hF -
 refine ⟨hF.drop 2, ?_⟩
 refine Cb rfl (X7 rfl) (Bc (Ha (Ia (Ia ?_))))
 rw [K6 la.length lb.length (fun _ => 0)] at hF
 have hW : RowsOk w0 w 0 lb.length (fun _ => 0) [b4, b3, b2, b1] := ⟨fun k hk => absurd hk by_Om, fun k l hk => absurd hk by_Om, fun k hk => absurd hk by_Om⟩
 refine Ea (Ca (Qd rfl) (Ca (Ze rfl) (Ca (Ac Xo rfl) (Md (Di isAgg36 rfl hF.F 0 rfl rfl) (Ca (Mf underlying36 rfl) (Ca (Ib rfl) (Ga (Va ?_))))))))
 refine Xc (fun μ σ w => ∃ (i : Nat), ∃ (q : Nat → Nat), μ = la.length - i ∧ (i ≤ la.length) ∧ (RowsOk w0 w i lb.length q [b4, b3, b2, b1]) ∧ AllEq σ [(2, .pointer (some ⟨b1, 0, none⟩)), (3, .pointer (some ⟨b2, 0, none⟩)), (6, .pointer (some ⟨b4, 0, none⟩)), (32, .int .i64 ((la.length : Nat))), (33, .int .i64 ((i : Int)))] ∧ FR w0 [] [(b4, .cells #[.slice Aa la.length ca, .slice Ba fa.length ea, .slice Ab lb.length cb, .slice Bb fb.length eb, .slice (some ⟨b3, 0, none⟩) la.length la.length] 130), (b3, .cells (Yj la.length lb.length (i) q) 39), (b2, .cells #[.slice Ab lb.length cb, .slice Bb fb.length eb] 60), (b1, .cells #[.slice Aa la.length ca, .slice Ba fa.length ea] 60)] w) _ ⟨0, fun _ => 0, rfl, (Nat.zero_le _), (hW), Nt, hF⟩ ?_
 clear hF; rintro μ σ w ⟨i, q, rfl, hi, hW, hs, hF⟩
 refine Cg.slots hs ?_
 clear hs; intro σ
 refine Ma (Ca (Yl rfl rfl) (Ga (Ia ?_)))
 refine Jc rfl rfl (fun hc1 => ?_) (fun hc1 => ?_)
 refine Wa (Ha (Ia (Va (Ma (Ca (Ib rfl) (Ca (Ic rfl) (Ga ?_)))))))
 refine Dd [10] (.free 0 (.free 1 (.free 2 (.free 3 (.free 4 (.free 5 (.free 6 (.free 7 (.act 8 (.free 9 (.act 10 .nil))))))))))) hF ?_
 clear hF; intro w hF hE
 replace hW := hW.step hE Fa
 clear hE
 refine ⟨fun wq => FR w0 [] [(b4, .cells #[.slice Aa la.length ca, .slice Ba fa.length ea, .slice Ab lb.length cb, .slice Bb fb.length eb, .slice (some ⟨b3, 0, none⟩) la.length la.length] 130), (b2, .cells #[.slice Ab lb.length cb, .slice Bb fb.length eb] 60), (b1, .cells #[.slice Aa la.length ca, .slice Ba fa.length ea] 60)] wq, hF.sub (.cons_cons _ (.cons _ (.cons_cons _ (.cons_cons _ .slnil)))), ?_⟩
 refine Cb rfl (Qd rfl) (Cb rfl (Ze rfl) (Cb rfl (Ac Xo rfl) (Eo rfl (Di isAgg36 rfl C0 0 rfl rfl) (Cb rfl (Ib rfl) (Cb rfl (Ac Zd rfl) (Eo rfl (Di isAgg25 rfl C0 1 rfl rfl) (Cb rfl (Mf underlying25 rfl) ?_)))))))
 refine Dp rfl (v := fun b => .slice (some ⟨b, 0, none⟩) lb.length lb.length) (o := .cells (Xa (lb.length) fun _ => 0) 3) hF (Wi Ih Eb rfl rfl by_Om) ?_
 clear hF; intro b5 w hb5 hF hE
 have hq5 : ∀ k, k < i → q k ≠ b5 := fun k hk e => by have h1 := Da (hW.row k hk); omega
 replace hW := hW.step hE Fa
 clear hE
 refine ⟨hF.sub (.cons _ (.cons_cons _ (.cons _ (.cons_cons _ (.cons_cons _ .slnil))))), ?_⟩
 refine Qa rfl (v := .pointer (some ⟨b3, i, none⟩)) (fun w hC => Rb (i := ((i : Nat) : Int)) (i) Vg rfl rfl by_Om by_Om by_Om) ?_
 refine Tc rfl 2 (l := [.slice (some ⟨b5, 0, none⟩) lb.length lb.length]) (cs' := Yj la.length lb.length (i + 1) (He q i b5)) hF sizeOf39 rfl rfl rfl Gd rfl (by rw [Z7]; simp only [List.length_singleton]; omega) (UA by_Om) ?_
 clear hF; intro w hF hE
 replace hW := hW.step hE Fa
 clear hE
 refine Bc (Ob (Ha (Ea (Ca (Bj (((i + 1 : Nat) : Int)) rfl rfl) (Ca (Ib rfl) (Za ?_))))))
 refine Ec ⟨_, ?_, i + 1, He q i b5, rfl, by_Om, (hW.put (hF.heap (i := 0) rfl) (hF.ge (i := 0) rfl) (show b5 ∉ [b4, b3, b2, b1] from FR.new_ids hF) (fun k hk e => hq5 k hk e)), Nt, hF.drop 1⟩
 omega
 refine Lc (Hc rfl ?_)
 refine Ha (Ia (Ia ?_))
 obtain rfl : i = la.length := by omega
 obtain ⟨N0, hN0⟩ : ∃ N, N = w.heap.size := ⟨_, rfl⟩
 have hNw : N0 ≤ w.heap.size := Nat.le_of_eq hN0
 have hb34 : b4 ≠ b3 := by have := (List.pairwise_cons.1 hF.desc).1 _ (List.mem_cons_self ..); exact fun e => this e.symm
 have hsk : ∀ b, b < w0.heap.size → Sk N0 la.length q b := fun b hb => ⟨by have := hF.same.size; omega, fun i hi e => by have := (hW.new i hi).1; omega⟩
 have hlt3 := hF.lt (i := 1) rfl
 have hlt4 := hF.lt (i := 0) rfl
 have hK : Rk w N0 b4 b3 q la fa lb fb Aa Ba Ab Bb ca ea cb eb (fun _ _ => 0) := ⟨hF.heap (i := 0) rfl, (hF.rep hLa.old).weaken (fun b hb _ => hsk b hb.2), (hF.rep hNa.old).weaken (fun b hb _ => hsk b hb.2), (hF.rep hLb.old).weaken (fun b hb _ => hsk b hb.2), (hF.rep hNb.old).weaken (fun b hb _ => hsk b hb.2), ⟨by rw [← K7]; exact hF.heap (i := 1) rfl, hW.row, hW.inj, fun i hi e => (hW.new i hi).2 (by simp [e])⟩, ⟨by omega, by omega, fun i hi => by rw [hN0]; exact Da (hW.row i hi)⟩, fun i hi e => (hW.new i hi).2 (by simp [e])⟩
 have hqn := hW.new
 refine Ea (Md (Pk isAgg60 sizeOf60 rfl hF.F 3 rfl rfl) ?_)
 refine Ya (Hw _ _ la fa Aa Ba ca ea (hF.rep hLa) (hF.rep hNa) hRa) (Fb CE rfl rfl) ?_
 rintro _ w ⟨Ak, ck, rfl, hk_, hE⟩
 have hKa : Rep (fun b => N0 ≤ b) w (.slice (((Yb fa).map fun i : Nat => (i : Int)).map Kf)) [.slice Ak (Yb fa).length ck] := hk_.weaken fun b hb _ => Nat.le_trans hNw hb.1
 replace hF := hF.ext hE
 replace hK := hK.ext hE
 replace hNw := Nat.le_trans hNw hE.size
 clear hE hk_
 refine Ca (Mf underlying39 rfl) (Ca (Ib rfl) (Ga (Va ?_)))
 refine Xc (fun μ σ w => ∃ (s : Nat), ∃ (P : Nat → Nat → Int), μ = (Yb fa).length - s ∧ (s ≤ (Yb fa).length) ∧ (Rk w N0 b4 b3 q la fa lb fb Aa Ba Ab Bb ca ea cb eb P) ∧ (∀ x y, x < fa.length → y < fb.length → Pr fa fb (s) (0) x y → P x y = ((td (Ub la fa) (Ub lb fb) x y : Nat) : Int)) ∧ (Rep (fun b => N0 ≤ b) w (.slice (((Yb fa).map fun i : Nat => (i : Int)).map Kf)) [.slice Ak (Yb fa).length ck]) ∧ (N0 ≤ w.heap.size) ∧ AllEq σ [(2, .pointer (some ⟨b1, 0, none⟩)), (3, .pointer (some ⟨b2, 0, none⟩)), (6, .pointer (some ⟨b4, 0, none⟩)), (48, .slice (Ak) ((Yb fa).length) (ck)), (49, .int .i64 (((Yb fa).length : Nat))), (50, .int .i64 ((s : Int)))] ∧ FR w0 [] [(b4, .cells #[.slice Aa la.length ca, .slice Ba fa.length ea, .slice Ab lb.length cb, .slice Bb fb.length eb, .slice (some ⟨b3, 0, none⟩) la.length la.length] 130), (b3, .cells (Yj la.length lb.length (la.length) q) 39), (b2, .cells #[.slice Ab lb.length cb, .slice Bb fb.length eb] 60), (b1, .cells #[.slice Aa la.length ca, .slice Ba fa.length ea] 60)] w) _ ⟨0, fun _ _ => 0, rfl, (Nat.zero_le _), (hK), (fun x y hx hy h => absurd h Y7), (hKa), (hNw), PA, hF⟩ ?_
 clear hF; rintro μ σ w ⟨s, P, rfl, hs_, hK, hkn, hKa, hNw, hs, hF⟩
 refine Cg.slots hs ?_
 clear hs; intro σ
 refine Ma (Ca (Yl rfl rfl) (Ga (Ia ?_)))
 refine Jc rfl rfl (fun hc2 => ?_) (fun hc2 => ?_)
 refine Wa (Ha (Ia (Va (Ia ?_))))
 obtain ⟨k, hkk⟩ : ∃ z, z = (Yb fa)[s] := ⟨_, rfl⟩
 refine Ea ?_
 obtain ⟨ad0, hA0, hk0, hx0⟩ := hKa.int_elem (i := s) (by simp only [List.length_map]; omega)
 rw [List.getElem_map, ← hkk] at hk0
 refine Ja (v := .pointer (some (ad0.add (s * 1)))) (Ra (i := (s : Int)) Qe rfl hA0 rfl by_Om by_Om) (Ja (v := .int .i64 ((k : Nat))) (Db isAgg3 rfl hk0) (Ca (Ic rfl) (Dc (Md (Pk isAgg60 sizeOf60 rfl hF.F 2 rfl rfl) ?_))))
 refine Ya (Hw _ _ lb fb Ab Bb cb eb (hF.rep hLb) (hF.rep hNb) hRb) (Fb CE rfl rfl) ?_
 rintro _ w ⟨Al, cl, rfl, hk_, hE⟩
 have hKb : Rep (fun b => N0 ≤ b) w (.slice (((Yb fb).map fun i : Nat => (i : Int)).map Kf)) [.slice Al (Yb fb).length cl] := hk_.weaken fun b hb _ => Nat.le_trans hNw hb.1
 replace hF := hF.ext hE
 replace hK := hK.ext hE
 replace hKa := hKa.ext hE
 replace hNw := Nat.le_trans hNw hE.size
 clear hE hk_
 refine Ca (Mf underlying39 rfl) (Ca (Ib rfl) (Ga (Va ?_)))
 refine Xc (fun μ σ w => ∃ (t : Nat), ∃ (P : Nat → Nat → Int), μ = (Yb fb).length - t ∧ (t ≤ (Yb fb).length) ∧ (Rk w N0 b4 b3 q la fa lb fb Aa Ba Ab Bb ca ea cb eb P) ∧ (∀ x y, x < fa.length → y < fb.length → Pr fa fb (s) (t) x y → P x y = ((td (Ub la fa) (Ub lb fb) x y : Nat) : Int)) ∧ (Rep (fun b => N0 ≤ b) w (.slice (((Yb fa).map fun i : Nat => (i : Int)).map Kf)) [.slice Ak (Yb fa).length ck]) ∧ (Rep (fun b => N0 ≤ b) w (.slice (((Yb fb).map fun i : Nat => (i : Int)).map Kf)) [.slice Al (Yb fb).length cl]) ∧ (N0 ≤ w.heap.size) ∧ AllEq σ [(2, .pointer (some ⟨b1, 0, none⟩)), (3, .pointer (some ⟨b2, 0, none⟩)), (6, .pointer (some ⟨b4, 0, none⟩)), (9, .int .i64 ((k : Nat))), (48, .slice (Ak) ((Yb fa).length) (ck)), (49, .int .i64 (((Yb fa).length : Nat))), (50, .int .i64 ((s : Int))), (55, .slice (Al) ((Yb fb).length) (cl)), (56, .int .i64 (((Yb fb).length : Nat))), (57, .int .i64 ((t : Int)))] ∧ FR w0 [] [(b4, .cells #[.slice Aa la.length ca, .slice Ba fa.length ea, .slice Ab lb.length cb, .slice Bb fb.length eb, .slice (some ⟨b3, 0, none⟩) la.length la.length] 130), (b3, .cells (Yj la.length lb.length (la.length) q) 39), (b2, .cells #[.slice Ab lb.length cb, .slice Bb fb.length eb] 60), (b1, .cells #[.slice Aa la.length ca, .slice Ba fa.length ea] 60)] w) _ ⟨0, P, rfl, (Nat.zero_le _), (hK), (hkn), (hKa), (hKb), (hNw), ⟨rfl, rfl, rfl, rfl, rfl, rfl, rfl, rfl, rfl, rfl, trivial⟩, hF⟩ ?_
 clear hF; rintro μ σ w ⟨t, P, rfl, ht_, hK, hkn, hKa, hKb, hNw, hs, hF⟩
 refine Cg.slots hs ?_
 clear hs; intro σ
 refine Ma (Ca (Yl rfl rfl) (Ga (Ia ?_)))
 refine Jc rfl rfl (fun hc3 => ?_) (fun hc3 => ?_)
 refine Wa (Ha (Ia (Va (Ia ?_))))
 obtain ⟨l, hll⟩ : ∃ z, z = (Yb fb)[t] := ⟨_, rfl⟩
 refine Ea ?_
 obtain ⟨ad1, hA1, hk1, hx1⟩ := hKb.int_elem (i := t) (by simp only [List.length_map]; omega)
 rw [List.getElem_map, ← hll] at hk1
 refine Ja (v := .pointer (some (ad1.add (t * 1)))) (Ra (i := (t : Int)) Qe rfl hA1 rfl by_Om by_Om) (Ja (v := .int .i64 ((l : Nat))) (Db isAgg3 rfl hk1) (Ca (Ic rfl) (Ga ?_)))
 have hk_lt := (Xf.1 (List.getElem_mem (l := Yb fa) (n := s) by_Om)).1
 have hl_lt := (Xf.1 (List.getElem_mem (l := Yb fb) (n := t) by_Om)).1
 rw [← hkk] at hk_lt
 rw [← hll] at hl_lt
 obtain ⟨u, hu⟩ : ∃ z, z = Yf fa k := ⟨_, rfl⟩
 obtain ⟨v, hv⟩ : ∃ z, z = Yf fb l := ⟨_, rfl⟩
 have hfu : (u : Int) = fa[k] := by rw [hu]; exact hRa.2.2.at hk_lt hk_lt
 have hfv : (v : Int) = fb[l] := by rw [hv]; exact hRb.2.2.at hl_lt hl_lt
 have huk : u ≤ k := by rw [hu]; exact Nat.min_le_right _ _
 have hvl : v ≤ l := by rw [hv]; exact Nat.min_le_right _ _
 obtain ⟨n, hn⟩ : ∃ z, z = k + 1 - u := ⟨_, rfl⟩
 obtain ⟨m, hm⟩ : ∃ z, z = l + 1 - v := ⟨_, rfl⟩
 have hca : ∀ i, u ≤ i → i < u + n → u ≤ Yf fa i := fun i h1 h2 => by by_cases e : i = k; (subst e; omega); (have := hRa.2.2.nest (Nat.le_refl _) la k hk_lt i (by show Yf fa k ≤ i; omega) by_Om; have e1 : (Ub la fa).lf k = Yf fa k := rfl; have e2 : (Ub la fa).lf i = Yf fa i := rfl; omega)
 have hcb : ∀ j, v ≤ j → j < v + m → v ≤ Yf fb j := fun i h1 h2 => by by_cases e : i = l; (subst e; omega); (have := hRb.2.2.nest (Nat.le_refl _) lb l hl_lt i (by show Yf fb l ≤ i; omega) by_Om; have e1 : (Ub lb fb).lf l = Yf fb l := rfl; have e2 : (Ub lb fb).lf i = Yf fb i := rfl; omega)
 have hP0 : ∀ i j, u ≤ i → i < u + n → v ≤ j → j < v + m → ¬ (Yf fa i = u ∧ Yf fb j = v) → P i j = ((td (Ub la fa) (Ub lb fb) i j : Nat) : Int) := fun i j h1 h2 h3 h4 hne => hkn i j by_Om by_Om (M2 hRa.2.2 hRb.2.2 (u := s) (v := t) by_Om by_Om (by rw [← hkk, ← hu]; exact h1) (by rw [← hkk]; omega) (by rw [← hll, ← hv]; exact h3) (by rw [← hll]; omega) (by rw [← hkk, ← hll, ← hu, ← hv]; exact hne))
 refine Dd [] (.free 0 (.free 1 (.free 2 (.free 3 (.free 4 (.free 5 (.free 6 (.free 7 (.free 8 (.free 9 (.free 10 (.free 11 (.free 12 (.free 13 (.free 14 (.act 15 .nil)))))))))))))))) hF ?_
 clear hF; intro w hF hE
 replace hK := hK.ext hE
 replace hKa := hKa.ext hE
 replace hKb := hKb.ext hE
 replace hNw := Nat.le_trans hNw hE.size
 clear hE
 refine ⟨fun wq => FR w0 [] _ wq, hF, ?_⟩
 refine Cb rfl (Qd rfl) (Cb rfl (Ac Gf rfl) (Eo rfl (Di isAgg39 rfl C0 3 rfl rfl) (Cb rfl (Ib rfl) ?_)))
 obtain ⟨ad2, hA2, hk2, hx2⟩ := hNa.int_elem (i := k) by_Om
 rw [← hfu] at hk2
 refine Qa rfl (v := .pointer (some (ad2.add (k * 1)))) (fun w hC => Ra (i := (k : Nat)) Qe rfl hA2 rfl by_Om by_Om) (Qa rfl (v := .int .i64 ((u : Nat))) (fun w hC => Db isAgg3 rfl (hC.cell0 hk2)) (Cb rfl (Ib rfl) (Cb rfl (Bj (((u + n : Nat) : Int)) rfl rfl) (Cb rfl (Ac Gf rfl) (Eo rfl (Di isAgg39 rfl C0 2 rfl rfl) (Cb rfl (Ib rfl) ?_))))))
 obtain ⟨ad3, hA3, hk3, hx3⟩ := hNb.int_elem (i := l) by_Om
 rw [← hfv] at hk3
 refine Qa rfl (v := .pointer (some (ad3.add (l * 1)))) (fun w hC => Ra (i := (l : Nat)) Qe rfl hA3 rfl by_Om by_Om) (Qa rfl (v := .int .i64 ((v : Nat))) (fun w hC => Db isAgg3 rfl (hC.cell0 hk3)) (Cb rfl (Ib rfl) (Cb rfl (Bj (((v + m : Nat) : Int)) rfl rfl) ?_)))
 refine Ie rfl (M4 _ N0 b4 b3 q la fa lb fb Aa Ba Ab Bb ca ea cb eb P hK u n v m hNw by_Om by_Om by_Om by_Om hRa.2.2 hRb.2.2 by_Om by_Om hca hcb hP0) (Tr HH rfl rfl rfl rfl rfl rfl) ?_
 rintro _ w ⟨gb, gc, f, P', rfl, -, -, -, hK', hPr, hPo, -, -, hE⟩
 have hrw : ∀ b ∈ Rows q la.length, ¬ N0 ≤ b := fun b hb h => by obtain ⟨i, hi, rfl⟩ := Ai.1 hb; have := hK.lt.2.2 i hi; omega
 replace hF := hF.touch hE (fun b hb => by obtain ⟨i, hi, rfl⟩ := Ai.1 hb; refine ⟨fun h => absurd (hqn i hi).1 by_Om, fun z hz e => (hqn i hi).2 ?_⟩; rw [← e]; simp only [List.mem_cons, List.not_mem_nil, or_false] at hz; rcases hz with rfl | rfl | rfl | rfl <;> simp)
 replace hKa := hKa.same hE hrw
 replace hKb := hKb.same hE hrw
 replace hNw := Nat.le_trans hNw hE.size
 clear hK
 have hK := hK'
 clear hE hK'
 refine ⟨hF, ?_⟩
 refine Bc (Ob (Ha (Ea (Ca (Bj (((t + 1 : Nat) : Int)) rfl rfl) (Ca (Ib rfl) (Za ?_))))))
 refine Ec ⟨_, ?_, t + 1, P', rfl, by_Om, (hK), (fun x y hx hy hxy => by (by_cases hr : Rt fa fb u n v m x y); (exact hPr x y hr); (rw [hPo x y hr]; rcases F6 by_Om by_Om hxy with h1 | ⟨h1, h2⟩; (exact hkn x y hx hy h1); (exfalso; rw [← hkk, ← hu] at h1; rw [← hll, ← hv] at h2; have q1 := F5 hRa.2.2 (k := k) (by rw [hkk]; exact List.getElem_mem _) hx (by rw [h1, hu]); have q2 := F5 hRb.2.2 (k := l) (by rw [hll]; exact List.getElem_mem _) hy (by rw [h2, hv]); exact hr ⟨by omega, by omega, by omega, by omega, h1, h2⟩))), (hKa), (hKb), (hNw), ⟨rfl, rfl, rfl, rfl, rfl, rfl, rfl, rfl, rfl, rfl, trivial⟩, hF⟩
 omega
 refine Lc (Hc rfl ?_)
 refine Ob (Ha (Ea (Ca (Bj (((s + 1 : Nat) : Int)) rfl rfl) (Ca (Ib rfl) (Za ?_)))))
 refine Ec ⟨_, ?_, s + 1, P, rfl, by_Om, (hK), (fun x y hx hy h => hkn x y hx hy (by obtain rfl : t = (Yb fb).length := by_Om; exact NA by_Om hy hRb.2.2 h)), (hKa), (hNw), PA, hF⟩
 omega
 refine Lc (Hc rfl ?_)
 refine Ha (Ma (Ca (Qd rfl) (Ca (X7 rfl) (Ca (Gc rfl) (Ga ?_)))))
 refine Zb (Xb (Ua (We (v := .pointer _) (x := .bool true) rfl rfl rfl) ?_))
 obtain rfl : s = (Yb fa).length := by omega
 exact ⟨N0, b4, b3, q, P, rfl, hK, fun x y hx hy => hkn x y by_Om by_Om (H_ hRa.2.2 by_Om), hNw, fun i hi => (hqn i hi).1, hF.same⟩
end Go.Scarf
namespace Go.Scarf
open Go.RowKit Go.Proofs Go.Proofs.Tryz
theorem U6 (w0 : World) (N0 rb pb : Nat) (q : Nat → Nat) (la : List Str) (fa : List Int) (lb : List Str) (fb : List Int) (Aa Ba Ab Bb : Option Addr) (k1 k2 k3 k4 : Nat) (P0 : Nat → Nat → Int) (hK : Rk w0 N0 rb pb q la fa lb fb Aa Ba Ab Bb k1 k2 k3 k4 P0) (hN0 : N0 ≤ w0.heap.size) (hRa : Ig la fa) (hRb : Ig lb fb) (hP : ∀ x y, x < la.length → y < lb.length → P0 x y = ((td (Ub la fa) (Ub lb fb) x y : Nat) : Int)) :
    Calls prog 84 #[.pointer (some ⟨rb, 0, none⟩), .int .i64 0, .int .i64 (la.length : Nat), .int .i64 0, .int .i64 (lb.length : Nat)] w0 (Nd fun v w' => ∃ (gb gc : Nat) (f : Nat → Int), v = .pointer (some ⟨gb, 0, none⟩) ∧ w'.heap[gb]? = some (.cells #[.int .i64 ((lb.length + 1 : Nat) : Int), .slice (some ⟨gc, 0, none⟩) ((la.length + 1) * (lb.length + 1)) ((la.length + 1) * (lb.length + 1))] 134) ∧ w'.heap[gc]? = some (.cells (Xa ((la.length + 1) * (lb.length + 1)) f) 3) ∧ f (gi lb.length la.length lb.length) = ((Fp la fa lb fb : Nat) : Int) ∧ Same (Rows q la.length) w0 w') := by
  have h := M4 w0 N0 rb pb q la fa lb fb Aa Ba Ab Bb k1 k2 k3 k4 P0 hK 0 la.length 0 lb.length hN0 hRa.1 hRb.1 hRa.2.1 hRb.2.1 hRa.2.2 hRb.2.2 by_Om by_Om (fun i _ _ => Nat.zero_le _) (fun j _ _ => Nat.zero_le _) (fun i j _ h1 _ h2 _ => hP i j by_Om by_Om)
  simp only [Nat.zero_add] at h
  refine h.mono ?_
  rintro e w' ⟨v, he, gb, gc, f, P, hv, hg, hc, hf, -, -, -, -, -, hs⟩
  refine ⟨v, he, gb, gc, f, hv, hg, hc, ?_, hs⟩
  rw [hf]
  unfold N5 Fp
  rw [Nat.zero_add, Nat.zero_add]
theorem F4 (S S' : Nat → Prop) (w0 : World) (la : List Str) (fa : List Int) (Aa Ba : Option Addr) (ca ea : Nat) (hLa : Rep S w0 (Lf la) [.slice Aa la.length ca]) (hNa : Rep S w0 (.slice (fa.map Kf)) [.slice Ba fa.length ea]) (lb : List Str) (fb : List Int) (Ab Bb : Option Addr) (cb eb : Nat) (hLb : Rep S' w0 (Lf lb) [.slice Ab lb.length cb]) (hNb : Rep S' w0 (.slice (fb.map Kf)) [.slice Bb fb.length eb]) (hRa : Ig la fa) (hRb : Ig lb fb) : Calls prog 56 #[.agg #[.slice Aa la.length ca, .slice Ba fa.length ea], .agg #[.slice Ab lb.length cb, .slice Bb fb.length eb]] w0 (Nd fun v w' => v = .tuple #[.int .i64 ((Fp la fa lb fb : Nat) : Int), .int .i64 0] ∧ Same [] w0 w') := by
 have hLla := hLa.slice_len
 have hNla := hNa.slice_len
 rw [List.length_map] at hLla hNla
 have hLlb := hLb.slice_len
 have hNlb := hNb.slice_len
 rw [List.length_map] at hLlb hNlb
 have hR1 := hRa.1
 have hR2 := hRa.2.1
 have hR3 := hRb.1
 have hR4 := hRb.2.1
 refine Ka func56 rfl ntmps56 Kb (Td _ _) ?_
 have hF := FR.start w0 []
 refine Ma ?_
 refine Ij hF rfl ?_
 clear hF; rintro b1 w hb1 hF -
 refine Ij hF rfl ?_
 clear hF; rintro b2 w hb2 hF -
 refine Ca (Ic rfl) (Ca (Ic rfl) (Dc (Md (Pk isAgg60 sizeOf60 rfl hF.F 1 rfl rfl) (Md (Pk isAgg60 sizeOf60 rfl hF.F 0 rfl rfl) ?_))))
 refine Ya (K0 _ _ _ la fa Aa Ba ca ea (hF.rep hLa) (hF.rep hNa) lb fb Ab Bb cb eb (hF.rep hLb) (hF.rep hNb) hRa hRb) (Mb XL rfl rfl rfl) ?_
 rintro _ w ⟨N0, rb, pb, q, P, rfl, hK, hP, hNw, hqn, hE⟩
 have hqn0 : ∀ i, i < la.length → w0.heap.size ≤ q i := fun i hi => Nat.le_trans hF.same.size (hqn i hi)
 have hqn1 : ∀ i, i < la.length → ∀ z ∈ [b2, b1], q i ≠ z := fun i hi z hz e => by have := hqn i hi; simp only [List.mem_cons, List.not_mem_nil, or_false] at hz; rcases hz with rfl | rfl; (have := hF.lt (i := 0) rfl; omega); (have := hF.lt (i := 1) rfl; omega)
 replace hF := hF.ext hE
 clear hE hqn
 refine Ca (Wm rfl) (Ca (QN rfl rfl) (Ca (Wq rfl rfl) (Ca (X7 rfl) (Ca (Gc rfl) (Ga (Ia (Ma (Ca (Ld rfl) (Ca (Lp (b := true) rfl) (Ga ?_))))))))))
 refine Uw rfl (Ia ?_)
 refine Dd [] (.free 0 (.free 1 (.free 2 (.free 3 (.free 4 (.free 5 (.free 6 (.free 7 .nil)))))))) hF ?_
 clear hF; intro w hF hE
 replace hK := hK.ext hE
 replace hNw := Nat.le_trans hNw hE.size
 clear hE
 refine ⟨fun wq => FR w0 [] _ wq, hF, ?_⟩
 refine Cb rfl (Ac Zd rfl) (Eo rfl (Di isAgg25 rfl C0 1 rfl rfl) (Cb rfl (Mf underlying25 rfl) (Cb rfl (Ac Zd rfl) (Eo rfl (Di isAgg25 rfl C0 0 rfl rfl) (Cb rfl (Mf underlying25 rfl) (Cb rfl (Ic rfl) (Cb rfl (Ic rfl) (Bc (Ha (Ma (Ca (Qd rfl) (Ca (Ib rfl) ?_))))))))))))
 refine Ca (Ib rfl) ?_
 refine Ya (U6 _ N0 rb pb q la fa lb fb Aa Ba Ab Bb ca ea cb eb P hK hNw hRa hRb hP) (Tr HH rfl rfl rfl rfl rfl rfl) ?_
 rintro _ w ⟨gb, gc, f, rfl, hg, hc, hfv, hE⟩
 replace hF := hF.touch hE (fun b hb => by obtain ⟨i, hi, rfl⟩ := Ai.1 hb; refine ⟨fun h => absurd (hqn0 i hi) by_Om, fun z hz e => hqn1 i hi z.1 ?_ e.symm⟩; simp only [List.mem_cons, List.not_mem_nil, or_false] at hz; rcases hz with rfl | rfl <;> simp)
 clear hE
 refine Ca (Ib rfl) (Ca (Rw ((la.length : Int) - 1) rfl rfl) (Ca (Ib rfl) (Ca (Rw ((lb.length : Int) - 1) rfl rfl) ?_)))
 refine Ya (Ko _ gb gc la.length lb.length la.length lb.length _ _ by_Om by_Om hg (Nat.le_refl _) (Nat.le_refl _) by_Om by_Om) (Fc Qo rfl rfl rfl rfl) ?_
 rintro _ w ⟨rfl, hE⟩
 replace hF := hF.ext hE
 replace hg := (hE.block gb (Da hg) Fa).trans hg
 replace hc := (hE.block gc (Da hc) Fa).trans hc
 clear hE
 refine Ca (Ze rfl) ?_
 refine Ja (v := .int .i64 ((Fp la fa lb fb : Nat))) (Db isAgg3 rfl (by rw [Hb hc, Hj (Bo (Nat.le_refl _) (Nat.le_refl _)), hfv])) ?_
 refine Ca (Ic rfl) (Ca (Ic rfl) (Ga ?_))
 refine Zb (Xb (Ua (We (v := .int .i64 ((Fp la fa lb fb : Nat))) (x := .int .i64 0) rfl rfl rfl) ?_))
 exact ⟨rfl, hF.same⟩
end Go.Scarf
