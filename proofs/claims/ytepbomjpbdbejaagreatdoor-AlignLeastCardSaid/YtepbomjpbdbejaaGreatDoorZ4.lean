/- A part of the proof. -/
import Derived.Test.YtepbomjpbdbejaaGreatDoorZ1
import Derived.Test.YtepbomjpbdbejaaGreatDoorMapI
import Derived.Sort.OwnSortedInts
import Derived.Test.YtepbomjpbdbejaaGreatDoorShelf
set_option linter.all false
set_option maxHeartbeats 8000000
set_option maxRecDepth 10000
namespace Go.Scarf
open Go.RowKit Go.Proofs Go.Proofs.Tryz
def L_ (A B : Nodes) (u v p q : Nat) : Int := ((fd A B u (u + p) v (v + q) : Nat) : Int)
theorem I5 (A B : Nodes) (u v p : Nat) : L_ A B u v p 0 = (p : Int) := by unfold L_; rw [Xl by_Om]; omega
theorem JC (A B : Nodes) (u v q : Nat) : L_ A B u v 0 q = (q : Int) := by unfold L_; rw [Jh by_Om]; omega
theorem M0 {f : Nat → Int} {m p q p0 q0 : Nat} {b : Int} (hq : q ≤ m) (h0 : q0 ≤ m) (h : ¬ (p = p0 ∧ q = q0)) : Af f (gi m p0 q0) b (gi m p q) = f (gi m p q) := Rx fun e => h (UQ hq h0 e)
theorem MI {f : Nat → Int} {m x : Nat} (h : ∀ p', p' ≤ x → f (gi m p' 0) = (p' : Int)) : ∀ p', p' ≤ x + 1 → Af f (gi m (x + 1) 0) ((x + 1 : Nat) : Int) (gi m p' 0) = (p' : Int) := fun p' hp => by
  by_cases e : p' = x + 1
  · subst e; exact Dt _ _ _
  · rw [M0 by_Om by_Om by_Om]; exact h p' by_Om
theorem KK {f : Nat → Int} {m y : Nat} (hy : y + 1 ≤ m) (h : ∀ q', q' ≤ y → f (gi m 0 q') = (q' : Int)) : ∀ q', q' ≤ y + 1 → Af f (gi m 0 (y + 1)) ((y + 1 : Nat) : Int) (gi m 0 q') = (q' : Int) := fun q' hq => by
  by_cases e : q' = y + 1
  · subst e; exact Dt _ _ _
  · rw [M0 by_Om by_Om by_Om]; exact h q' by_Om
theorem SC {f : Nat → Int} {m n y : Nat} (hy : y + 1 ≤ m) (h : ∀ p', p' ≤ n → f (gi m p' 0) = (p' : Int)) {b : Int} {x : Nat} : ∀ p', p' ≤ n → Af f (gi m x (y + 1)) b (gi m p' 0) = (p' : Int) := fun p' hp => by
  rw [M0 by_Om by_Om by_Om]; exact h p' hp
def Rt (fa fb : List Int) (u n v m i j : Nat) : Prop := u ≤ i ∧ i < u + n ∧ v ≤ j ∧ j < v + m ∧ Sg fa i = u ∧ Sg fb j = v
def Fok (A B : Nodes) (fa fb : List Int) (u n v m x y : Nat) (P0 P : Nat → Nat → Int) : Prop :=
  (∀ i j, Rt fa fb u n v m i j → (i < u + x ∨ (i = u + x ∧ j < v + y)) → P i j = ((td A B i j : Nat) : Int)) ∧ (∀ i j, ¬ Rt fa fb u n v m i j → P i j = P0 i j)
section
variable {A B : Nodes} {fa fb : List Int} {u n v m x y : Nat} {P0 P : Nat → Nat → Int}
theorem Fok.start : Fok A B fa fb u n v m 0 0 P0 P0 := ⟨fun i j h h2 => by have := h.1; have := h.2.2.1; omega, fun _ _ _ => rfl⟩
theorem Fok.next (h : Fok A B fa fb u n v m x m P0 P) : Fok A B fa fb u n v m (x + 1) 0 P0 P := ⟨fun i j hr h2 => h.1 i j hr (by have := hr.2.2.2.1; have := hr.2.2.1; omega), h.2⟩
theorem Fok.skip (h : Fok A B fa fb u n v m x y P0 P) (hn : ¬ (Sg fa (u + x) = u ∧ Sg fb (v + y) = v)) : Fok A B fa fb u n v m x (y + 1) P0 P := ⟨fun i j hr h2 => by
  by_cases e : i = u + x ∧ j = v + y
  · obtain ⟨rfl, rfl⟩ := e; exact absurd hr.2.2.2.2 hn
  · exact h.1 i j hr by_Om, h.2⟩
theorem Fok.put (h : Fok A B fa fb u n v m x y P0 P) (hr : Rt fa fb u n v m (u + x) (v + y)) {b : Int} (hb : b = ((td A B (u + x) (v + y) : Nat) : Int)) : Fok A B fa fb u n v m x (y + 1) P0 (Eh P (u + x) (v + y) b) := by
  refine ⟨fun i j hri h2 => ?_, fun i j hri => ?_⟩
  · by_cases e : i = u + x ∧ j = v + y
    · obtain ⟨rfl, rfl⟩ := e; rw [Ai]; exact hb
    · rw [Jp e]; exact h.1 i j hri by_Om
  · rw [Jp (fun e => by obtain ⟨rfl, rfl⟩ := e; exact hri hr)]; exact h.2 i j hri
def Gok (A B : Nodes) (u n v m x y : Nat) (f : Nat → Int) : Prop :=
  (∀ p', p' ≤ n → f (gi m p' 0) = (p' : Int)) ∧ (∀ p' q', p' ≤ x → q' ≤ m → f (gi m p' q') = L_ A B u v p' q') ∧ (∀ q', q' ≤ y → f (gi m (x + 1) q') = L_ A B u v (x + 1) q')
theorem Gok.start {f : Nat → Int} (hc : ∀ p', p' ≤ n → f (gi m p' 0) = (p' : Int)) (hr : ∀ q', q' ≤ m → f (gi m 0 q') = (q' : Int)) (hn : 0 < n) : Gok A B u n v m 0 0 f := by
  refine ⟨hc, fun p' q' hp hq => ?_, fun q' hq => ?_⟩
  · obtain rfl : p' = 0 := by omega
    rw [hr q' hq, JC]
  · obtain rfl : q' = 0 := by omega
    rw [hc _ by_Om, I5]
theorem Gok.put {f : Nat → Int} (h : Gok A B u n v m x y f) (hy : y + 1 ≤ m) {b : Int} (hb : b = L_ A B u v (x + 1) (y + 1)) : Gok A B u n v m x (y + 1) (Af f (gi m (x + 1) (y + 1)) b) := by
  refine ⟨SC hy h.1, fun p' q' hp hq => ?_, fun q' hq => ?_⟩
  · rw [M0 hq hy by_Om]; exact h.2.1 p' q' hp hq
  · by_cases e : q' = y + 1
    · subst e; rw [Dt]; exact hb
    · rw [M0 by_Om hy by_Om]; exact h.2.2 q' by_Om
theorem Gok.next {f : Nat → Int} (h : Gok A B u n v m x m f) (hx : x + 1 < n) : Gok A B u n v m (x + 1) 0 f := by
  refine ⟨h.1, fun p' q' hp hq => ?_, fun q' hq => ?_⟩
  · by_cases e : p' = x + 1
    · subst e; exact h.2.2 q' hq
    · exact h.2.1 p' q' by_Om hq
  · obtain rfl : q' = 0 := by omega
    rw [h.1 _ by_Om, I5]
def Gdone (A B : Nodes) (u n v m x : Nat) (f : Nat → Int) : Prop := (∀ p', p' ≤ n → f (gi m p' 0) = (p' : Int)) ∧ (∀ p' q', p' ≤ x → q' ≤ m → f (gi m p' q') = L_ A B u v p' q')
theorem Gdone.start {f : Nat → Int} (hc : ∀ p', p' ≤ n → f (gi m p' 0) = (p' : Int)) (hr : ∀ q', q' ≤ m → f (gi m 0 q') = (q' : Int)) : Gdone A B u n v m 0 f := by
  refine ⟨hc, fun p' q' hp hq => ?_⟩
  obtain rfl : p' = 0 := by omega
  rw [hr q' hq, JC]
theorem Gdone.open_ {f : Nat → Int} (h : Gdone A B u n v m x f) (hx : x < n) : Gok A B u n v m x 0 f := ⟨h.1, h.2, fun q' hq => by
  obtain rfl : q' = 0 := by omega
  rw [h.1 _ by_Om, I5]⟩
theorem Gok.close {f : Nat → Int} (h : Gok A B u n v m x m f) : Gdone A B u n v m (x + 1) f := ⟨h.1, fun p' q' hp hq => by
  by_cases e : p' = x + 1
  · subst e; exact h.2.2 q' hq
  · exact h.2.1 p' q' by_Om hq⟩
theorem DB (hk : u + x ≤ 512) (hl : v + y ≤ 512) : fd A B u (u + x) v (v + y) ≤ 1024 := by
  have := (Tm A B _ u (u + x) v (v + y) (Nat.le_refl _)).1
  omega
theorem LF (h1 : A.lf (u + x) = u) (h2 : B.lf (v + y) = v) : L_ A B u v (x + 1) (y + 1) = min (1 + min ((fd A B u (u + x) v (v + (y + 1)) : Nat) : Int) ((fd A B u (u + (x + 1)) v (v + y) : Nat) : Int)) (((fd A B u (u + x) v (v + y) : Nat) : Int) + ((turn A B (u + x) (v + y) : Nat) : Int)) ∧ td A B (u + x) (v + y) = fd A B u (u + (x + 1)) v (v + (y + 1)) := by
  have q := QM A B (x := u + x) (y := v + y)
  rw [h1, h2] at q
  have q2 : fd A B u (u + (x + 1)) v (v + (y + 1)) = min (min (fd A B u (u + x) v (v + (y + 1))) (fd A B u (u + (x + 1)) v (v + y)) + 1) (fd A B u (u + x) v (v + y) + turn A B (u + x) (v + y)) := q
  refine ⟨by unfold L_; rw [q2]; omega, ?_⟩
  unfold td
  rw [h1, h2]
  rfl
theorem F0 (h1 : u ≤ A.lf (u + x)) (h2 : v ≤ B.lf (v + y)) : L_ A B u v (x + 1) (y + 1) = min (1 + min ((fd A B u (u + x) v (v + (y + 1)) : Nat) : Int) ((fd A B u (u + (x + 1)) v (v + y) : Nat) : Int)) (((fd A B u (A.lf (u + x)) v (B.lf (v + y)) : Nat) : Int) + ((td A B (u + x) (v + y) : Nat) : Int)) := by
  have q := XG A B (i := u) (x := u + x) (j := v) (y := v + y) h1 h2
  have q2 : fd A B u (u + (x + 1)) v (v + (y + 1)) = min (min (fd A B u (u + x) v (v + (y + 1))) (fd A B u (u + (x + 1)) v (v + y)) + 1) (fd A B u (A.lf (u + x)) v (B.lf (v + y)) + td A B (u + x) (v + y)) := q
  unfold L_; rw [q2]; omega
end
def Rows (q : Nat → Nat) (n : Nat) : List Nat := (List.range n).map q
theorem Ej {q : Nat → Nat} {n b : Nat} : b ∈ Rows q n ↔ ∃ i, i < n ∧ q i = b := by simp [Rows]
theorem S7 (w0 : World) (N0 rb pb : Nat) (q : Nat → Nat) (la : List Str) (fa : List Int) (lb : List Str) (fb : List Int) (Aa Ba Ab Bb : Option Addr) (k1 k2 k3 k4 : Nat) (P0 : Nat → Nat → Int) (hK : Rk w0 N0 rb pb q la fa lb fb Aa Ba Ab Bb k1 k2 k3 k4 P0) (u n v m : Nat) (hN0 : N0 ≤ w0.heap.size) (hka : la.length = fa.length) (hkb : lb.length = fb.length) (hla5 : la.length ≤ 512) (hlb5 : lb.length ≤ 512) (hoa : lfOk fa fa.length) (hob : lfOk fb fb.length) (hun : u + n ≤ la.length) (hvm : v + m ≤ lb.length) (hca : ∀ i, u ≤ i → i < u + n → u ≤ Sg fa i) (hcb : ∀ j, v ≤ j → j < v + m → v ≤ Sg fb j) (hP0 : ∀ i j, u ≤ i → i < u + n → v ≤ j → j < v + m → ¬ (Sg fa i = u ∧ Sg fb j = v) → P0 i j = ((td (Wb la fa) (Wb lb fb) i j : Nat) : Int)) : Calls prog 84 #[.pointer (some ⟨rb, 0, none⟩), .int .i64 ((u : Nat) : Int), .int .i64 ((u + n : Nat) : Int), .int .i64 ((v : Nat) : Int), .int .i64 ((v + m : Nat) : Int)] w0 (Rd fun v_ w' => ∃ (gb cb' : Nat) (f : Nat → Int) (P : Nat → Nat → Int), v_ = .pointer (some ⟨gb, 0, none⟩) ∧ w'.heap[gb]? = some (.cells #[.int .i64 ((m + 1 : Nat) : Int), .slice (some ⟨cb', 0, none⟩) ((n + 1) * (m + 1)) ((n + 1) * (m + 1))] 134) ∧ w'.heap[cb']? = some (.cells (Gb ((n + 1) * (m + 1)) f) 3) ∧ f (gi m n m) = L_ (Wb la fa) (Wb lb fb) u v n m ∧ Rk w' N0 rb pb q la fa lb fb Aa Ba Ab Bb k1 k2 k3 k4 P ∧ (∀ i j, Rt fa fb u n v m i j → P i j = ((td (Wb la fa) (Wb lb fb) i j : Nat) : Int)) ∧ (∀ i j, ¬ Rt fa fb u n v m i j → P i j = P0 i j) ∧ w0.heap.size ≤ gb ∧ w0.heap.size ≤ cb' ∧ Same (Rows q la.length) w0 w') := by
 refine Ma func84 rfl ntmps84 Jb (MB _ _ _ _ _) ?_
 have hF := FR.start w0 (Rows q la.length)
 refine Ka (Ca (Z_ rfl) (Cc (Ca (Hb rfl) (Ca (Hb rfl) (Ca (Zu ((n : Nat)) rfl rfl) (Ca (Hb rfl) (Ca (Hb rfl) (Ca (Zu ((m : Nat)) rfl rfl) ?_))))))))
 refine Db (VF _ n m by_Om by_Om) (Qb YP rfl rfl rfl) ?_
 rintro _ w ⟨gb, cb, rfl, hg_, hc_, hgN, hcN, hgc, hE⟩
 replace hF := hF.ext hE
 replace hK := hK.ext hE
 have hgs := hgN
 have hcs := hcN
 replace hF := (hF.adopt hc_ hcN Ga).adopt hg_ hgN (by intro z hz; obtain rfl := List.mem_singleton.1 hz; exact fun e => hgc e.symm)
 have hcbN : N0 ≤ cb := by omega
 have hgbN : N0 ≤ gb := by omega
 clear hE hg_ hc_
 refine Ca (Z_ rfl) (Ea (Ia (Ka (Ca (Hb rfl) (Ca (Gc rfl) (Ea (Va ?_)))))))
 refine Uc (fun μ σ w => ∃ (x : Nat), ∃ (f : Nat → Int), μ = n - x ∧ (x ≤ n) ∧ (∀ p', p' ≤ x → f (gi m p' 0) = (p' : Int)) ∧ (Rk w N0 rb pb q la fa lb fb Aa Ba Ab Bb k1 k2 k3 k4 P0) ∧ AllEq σ [(0, .pointer (some ⟨rb, 0, none⟩)), (1, .int .i64 ((u : Nat))), (2, .int .i64 (((u + n : Nat) : Int))), (3, .int .i64 ((v : Nat))), (4, .int .i64 (((v + m : Nat) : Int))), (11, .pointer (some ⟨gb, 0, none⟩)), (12, .int .i64 (((u + x : Nat) : Int)))] ∧ FR w0 (Rows q la.length) [(gb, .cells #[.int .i64 (((m + 1 : Nat) : Int)), .slice (some ⟨cb, 0, none⟩) (((n + 1) * (m + 1))) (((n + 1) * (m + 1)))] 134), (cb, .cells (Gb (((n + 1) * (m + 1))) (f)) 3)] w) _ ⟨0, (fun _ => 0), rfl, (Nat.zero_le _), (fun p' hp => by obtain rfl : p' = 0 := by_Om; rfl), (hK), HK, hF⟩ ?_
 clear hF; rintro μ σ w ⟨x, f, rfl, hx, hc_, hK, hs, hF⟩
 refine Cg.slots hs ?_
 clear hs; intro σ
 refine Ia (Ka (Ca (Hb rfl) (Ca (Hb rfl) (Ca (Nk rfl rfl) (Ea ?_)))))
 refine Pc rfl rfl (fun hc0 => ?_) (fun hc0 => ?_)
 refine Wa (Ha (Ia (Va (Da (Ca (De rfl) (Ca (Hb rfl) (Ca (Hb rfl) (Ca (Zu ((x : Nat)) rfl rfl) ?_))))))))
 refine Db (Tp _ gb cb n m (x + 1) (0) _ _ by_Om by_Om (hF.heap (i := 0) rfl) by_Om by_Om by_Om by_Om) (Dc Yp rfl rfl rfl rfl) ?_
 rintro _ w ⟨rfl, hE⟩
 replace hF := hF.ext hE
 replace hK := hK.ext hE
 clear hE
 refine Ca (Hb rfl) (Ca (Hb rfl) (Ca (Zu ((x : Nat)) rfl rfl) (Ca (Qi (((x + 1 : Nat) : Int)) rfl rfl) (Ca (Of rfl) ?_))))
 refine Bf 1 (l := [.int .i64 (((x + 1 : Nat) : Int))]) (cs' := Gb (((n + 1) * (m + 1))) (Af (f) (gi m (x + 1) (0)) (((x + 1 : Nat) : Int)))) hF sizeOf3 rfl (v := .int .i64 (((x + 1 : Nat) : Int))) rfl rfl Od rfl (by rw [Lg]; simp only [List.length_singleton]; exact Nat.succ_le_of_lt (Mp by_Om by_Om)) (Zf _) ?_
 clear hF; intro w hF hE
 replace hK := hK.step hE (by simpa using hcbN)
 clear hE
 replace hF : FR w0 (Rows q la.length) [_, (cb, .cells (Gb (((n + 1) * (m + 1))) (Af (f) (gi m (x + 1) (0)) (((x + 1 : Nat) : Int)))) 3)] w := hF
 refine Ya (Mb (Ha (Da (Ca (Hb rfl) (Ca (Qi (((u + (x + 1) : Nat) : Int)) rfl rfl) (Ca (Gc rfl) (Ya ?_)))))))
 refine Ic ⟨_, ?_, x + 1, (Af (f) (gi m (x + 1) (0)) (((x + 1 : Nat) : Int))), rfl, by_Om, (MI hc_), (hK), HK, hF⟩
 omega
 refine Nc (Lc rfl ?_)
 refine Ha (Ia (Ka (Ca (Hb rfl) (Ca (Gc rfl) (Ea (Va ?_))))))
 refine Uc (fun μ σ w => ∃ (y : Nat), ∃ (f : Nat → Int), μ = m - y ∧ (y ≤ m) ∧ (∀ p', p' ≤ n → f (gi m p' 0) = (p' : Int)) ∧ (∀ q', q' ≤ y → f (gi m 0 q') = (q' : Int)) ∧ (Rk w N0 rb pb q la fa lb fb Aa Ba Ab Bb k1 k2 k3 k4 P0) ∧ AllEq σ [(0, .pointer (some ⟨rb, 0, none⟩)), (1, .int .i64 ((u : Nat))), (2, .int .i64 (((u + n : Nat) : Int))), (3, .int .i64 ((v : Nat))), (4, .int .i64 (((v + m : Nat) : Int))), (11, .pointer (some ⟨gb, 0, none⟩)), (13, .int .i64 (((v + y : Nat) : Int)))] ∧ FR w0 (Rows q la.length) [(gb, .cells #[.int .i64 (((m + 1 : Nat) : Int)), .slice (some ⟨cb, 0, none⟩) (((n + 1) * (m + 1))) (((n + 1) * (m + 1)))] 134), (cb, .cells (Gb (((n + 1) * (m + 1))) (f)) 3)] w) _ ⟨0, f, rfl, (Nat.zero_le _), (fun p' hp => hc_ p' by_Om), (fun q' hq => by obtain rfl : q' = 0 := by_Om; exact hc_ 0 by_Om), (hK), HK, hF⟩ ?_
 clear hF; rintro μ σ w ⟨y, f, rfl, hy, hc_, hr_, hK, hs, hF⟩
 refine Cg.slots hs ?_
 clear hs; intro σ
 refine Ia (Ka (Ca (Hb rfl) (Ca (Hb rfl) (Ca (Nk rfl rfl) (Ea ?_)))))
 refine Pc rfl rfl (fun hc1 => ?_) (fun hc1 => ?_)
 refine Wa (Ha (Ia (Va (Da (Ca (De rfl) (Ca (Hb rfl) (Ca (Hb rfl) (Ca (Zu ((y : Nat)) rfl rfl) ?_))))))))
 refine Db (Tp _ gb cb n m (0) (y + 1) _ _ by_Om by_Om (hF.heap (i := 0) rfl) by_Om by_Om by_Om by_Om) (Dc Yp rfl rfl rfl rfl) ?_
 rintro _ w ⟨rfl, hE⟩
 replace hF := hF.ext hE
 replace hK := hK.ext hE
 clear hE
 refine Ca (Hb rfl) (Ca (Hb rfl) (Ca (Zu ((y : Nat)) rfl rfl) (Ca (Qi (((y + 1 : Nat) : Int)) rfl rfl) (Ca (Of rfl) ?_))))
 refine Bf 1 (l := [.int .i64 (((y + 1 : Nat) : Int))]) (cs' := Gb (((n + 1) * (m + 1))) (Af (f) (gi m (0) (y + 1)) (((y + 1 : Nat) : Int)))) hF sizeOf3 rfl (v := .int .i64 (((y + 1 : Nat) : Int))) rfl rfl Od rfl (by rw [Lg]; simp only [List.length_singleton]; exact Nat.succ_le_of_lt (Mp by_Om by_Om)) (Zf _) ?_
 clear hF; intro w hF hE
 replace hK := hK.step hE (by simpa using hcbN)
 clear hE
 replace hF : FR w0 (Rows q la.length) [_, (cb, .cells (Gb (((n + 1) * (m + 1))) (Af (f) (gi m (0) (y + 1)) (((y + 1 : Nat) : Int)))) 3)] w := hF
 refine Ya (Mb (Ha (Da (Ca (Hb rfl) (Ca (Qi (((v + (y + 1) : Nat) : Int)) rfl rfl) (Ca (Gc rfl) (Ya ?_)))))))
 refine Ic ⟨_, ?_, y + 1, (Af (f) (gi m (0) (y + 1)) (((y + 1 : Nat) : Int))), rfl, by_Om, (SC by_Om hc_), (KK by_Om hr_), (hK), HK, hF⟩
 omega
 refine Nc (Lc rfl ?_)
 refine Ha (Ia (Ka (Ca (Hb rfl) (Ca (Gc rfl) (Ea (Va ?_))))))
 refine Uc (fun μ σ w => ∃ (x : Nat), ∃ (f : Nat → Int), ∃ (P : Nat → Nat → Int), μ = n - x ∧ (x ≤ n) ∧ (Gdone (Wb la fa) (Wb lb fb) u n v m x f) ∧ (Fok (Wb la fa) (Wb lb fb) fa fb u n v m x 0 P0 P) ∧ (Rk w N0 rb pb q la fa lb fb Aa Ba Ab Bb k1 k2 k3 k4 P) ∧ AllEq σ [(0, .pointer (some ⟨rb, 0, none⟩)), (1, .int .i64 ((u : Nat))), (2, .int .i64 (((u + n : Nat) : Int))), (3, .int .i64 ((v : Nat))), (4, .int .i64 (((v + m : Nat) : Int))), (11, .pointer (some ⟨gb, 0, none⟩)), (14, .int .i64 (((u + x : Nat) : Int)))] ∧ FR w0 (Rows q la.length) [(gb, .cells #[.int .i64 (((m + 1 : Nat) : Int)), .slice (some ⟨cb, 0, none⟩) (((n + 1) * (m + 1))) (((n + 1) * (m + 1)))] 134), (cb, .cells (Gb (((n + 1) * (m + 1))) (f)) 3)] w) _ ⟨0, f, P0, rfl, (Nat.zero_le _), (Gdone.start hc_ (fun q' hq => hr_ q' by_Om)), (Fok.start), (hK), HK, hF⟩ ?_
 clear hF; rintro μ σ w ⟨x, f, P, rfl, hx, hD_, hP, hK, hs, hF⟩
 refine Cg.slots hs ?_
 clear hs; intro σ
 refine Ia (Ka (Ca (Hb rfl) (Ca (Hb rfl) (Ca (Nk rfl rfl) (Ea ?_)))))
 refine Pc rfl rfl (fun hc2 => ?_) (fun hc2 => ?_)
 refine Wa (Ha (Ia (Va (Ka (Ca (Hb rfl) (Ca (Gc rfl) (Ea (Va ?_))))))))
 refine Uc (fun μ σ w => ∃ (y : Nat), ∃ (f : Nat → Int), ∃ (P : Nat → Nat → Int), μ = m - y ∧ (y ≤ m) ∧ (Gok (Wb la fa) (Wb lb fb) u n v m x y f) ∧ (Fok (Wb la fa) (Wb lb fb) fa fb u n v m x y P0 P) ∧ (Rk w N0 rb pb q la fa lb fb Aa Ba Ab Bb k1 k2 k3 k4 P) ∧ AllEq σ [(0, .pointer (some ⟨rb, 0, none⟩)), (1, .int .i64 ((u : Nat))), (2, .int .i64 (((u + n : Nat) : Int))), (3, .int .i64 ((v : Nat))), (4, .int .i64 (((v + m : Nat) : Int))), (11, .pointer (some ⟨gb, 0, none⟩)), (14, .int .i64 (((u + x : Nat) : Int))), (15, .int .i64 (((v + y : Nat) : Int)))] ∧ FR w0 (Rows q la.length) [(gb, .cells #[.int .i64 (((m + 1 : Nat) : Int)), .slice (some ⟨cb, 0, none⟩) (((n + 1) * (m + 1))) (((n + 1) * (m + 1)))] 134), (cb, .cells (Gb (((n + 1) * (m + 1))) (f)) 3)] w) _ ⟨0, f, P, rfl, (Nat.zero_le _), (Gdone.open_ hD_ by_Om), (hP), (hK), K_, hF⟩ ?_
 clear hF; rintro μ σ w ⟨y, f, P, rfl, hy, hG_, hP, hK, hs, hF⟩
 refine Cg.slots hs ?_
 clear hs; intro σ
 refine Ia (Ka (Ca (Hb rfl) (Ca (Hb rfl) (Ca (Nk rfl rfl) (Ea ?_)))))
 refine Pc rfl rfl (fun hc3 => ?_) (fun hc3 => ?_)
 refine Wa (Ha (Ia (Va (Ka (Ca (Hb rfl) (Ca (Hb rfl) (Ca (Zu ((x : Nat)) rfl rfl) (Ca (Hb rfl) (Ca (Hb rfl) (Ca (Zu ((y : Nat)) rfl rfl) (Ca (Gc rfl) (Ca (Gc rfl) ?_))))))))))))
 refine Ea (Ia ?_)
 have hbx : u + x < fa.length ∧ v + y < fb.length := by omega
 obtain ⟨d1, hd1⟩ : ∃ d, d = fd (Wb la fa) (Wb lb fb) u (u + x) v (v + (y + 1)) := ⟨_, rfl⟩
 obtain ⟨d2, hd2⟩ : ∃ d, d = fd (Wb la fa) (Wb lb fb) u (u + (x + 1)) v (v + y) := ⟨_, rfl⟩
 obtain ⟨d3, hd3⟩ : ∃ d, d = fd (Wb la fa) (Wb lb fb) u (u + x) v (v + y) := ⟨_, rfl⟩
 have hv1 : f (gi m x (y + 1)) = (d1 : Int) := by rw [hd1]; exact hG_.2.1 _ _ (Nat.le_refl _) by_Om
 have hv2 : f (gi m (x + 1) y) = (d2 : Int) := by rw [hd2]; exact hG_.2.2 _ (Nat.le_refl _)
 have hv3 : f (gi m x y) = (d3 : Int) := by rw [hd3]; exact hG_.2.1 _ _ (Nat.le_refl _) by_Om
 have hm1 : d1 ≤ 1024 := by rw [hd1]; exact DB by_Om by_Om
 have hm2 : d2 ≤ 1024 := by rw [hd2]; exact DB by_Om by_Om
 have hm3 : d3 ≤ 1024 := by rw [hd3]; exact DB by_Om by_Om
 obtain ⟨lu, hlu⟩ : ∃ z, z = Sg fa (u + x) := ⟨_, rfl⟩
 obtain ⟨lv, hlv⟩ : ∃ z, z = Sg fb (v + y) := ⟨_, rfl⟩
 have hla : fa[u + x] = (lu : Int) := by rw [hlu]; exact (hoa.at by_Om by_Om).symm
 have hlb : fb[v + y] = (lv : Int) := by rw [hlv]; exact (hob.at by_Om by_Om).symm
 have hlu1 : u ≤ lu ∧ lu ≤ u + x := ⟨by rw [hlu]; exact hca _ by_Om by_Om, by rw [hlu]; exact Nat.min_le_right _ _⟩
 have hlv1 : v ≤ lv ∧ lv ≤ v + y := ⟨by rw [hlv]; exact hcb _ by_Om by_Om, by rw [hlv]; exact Nat.min_le_right _ _⟩
 obtain ⟨ada, hAda⟩ := CL hK.Na by_Om
 obtain ⟨adb, hAdb⟩ := CL hK.Nb by_Om
 refine Id [] (.free 0 (.free 1 (.free 2 (.free 3 (.free 7 (.free 8 (.free 9 (.free 10 (.act 4 (.free 5 (.free 6 (.act 11 (.free 12 (.free 13 (.free 14 (.free 15 (.free 16 .nil))))))))))))))))) hF ?_
 clear hF; intro w hF hE
 replace hK := hK.ext hE
 clear hE
 refine ⟨fun wq => FR w0 (Rows q la.length) _ wq, hF, ?_⟩
 refine Xa rfl (De rfl) (Xa rfl (Hb rfl) (Xa rfl (Kr rfl rfl) (Xa rfl (Hb rfl) (Xa rfl (De rfl) (Xa rfl (Hb rfl) (Xa rfl (Hb rfl) (Xa rfl (Kr rfl rfl) ?_)))))))
 refine Ke rfl (Tp _ gb cb n m (x) (y + 1) _ _ by_Om by_Om (hF.heap (i := 0) rfl) by_Om by_Om by_Om by_Om) (Dc Yp rfl rfl rfl rfl) ?_
 rintro _ w ⟨rfl, hE⟩
 replace hF := hF.ext hE
 replace hK := hK.ext hE
 clear hE
 refine ⟨hF, ?_⟩
 refine Xa rfl (Of rfl) ?_
 refine Qa rfl (v := .int .i64 ((d1 : Nat))) (fun w hC => Cb isAgg3 rfl (by rw [← hv1]; exact hC.intCell 1 rfl (Mp by_Om by_Om))) ?_
 refine Ke rfl (Tp _ gb cb n m (x + 1) (y) _ _ by_Om by_Om (hF.heap (i := 0) rfl) by_Om by_Om by_Om by_Om) (Dc Yp rfl rfl rfl rfl) ?_
 rintro _ w ⟨rfl, hE⟩
 replace hF := hF.ext hE
 replace hK := hK.ext hE
 clear hE
 refine ⟨hF, ?_⟩
 refine Xa rfl (Of rfl) ?_
 refine Qa rfl (v := .int .i64 ((d2 : Nat))) (fun w hC => Cb isAgg3 rfl (by rw [← hv2]; exact hC.intCell 1 rfl (Mp by_Om by_Om))) ?_
 refine Qa rfl (v := .int .i64 (min ((d1 : Nat) : Int) ((d2 : Nat) : Int))) (fun w hC => FE rfl rfl) (Xa rfl (Jn rfl rfl) (Xa rfl (Gc rfl) (Jc (Ha (Ia ?_)))))
 refine Id [] (.free 0 (.free 1 (.free 2 (.free 3 (.free 4 (.free 5 (.free 6 (.free 7 (.free 8 (.free 9 (.free 10 (.free 11 (.free 12 (.free 13 (.free 14 (.free 15 (.free 16 (.free 17 .nil)))))))))))))))))) hF ?_
 clear hF; intro w hF hE
 replace hK := hK.ext hE
 clear hE
 refine ⟨fun wq => FR w0 (Rows q la.length) _ wq ∧ Rk wq N0 rb pb q la fa lb fb Aa Ba Ab Bb k1 k2 k3 k4 P, ⟨hF, hK⟩, ?_⟩
 refine Xa rfl (De rfl) (Xa rfl (Of rfl) (Xa rfl (Kc O8 rfl) (Xa rfl (Kc Vf rfl) (Qa rfl (v := .slice Ba fa.length k2) (fun w hC => Cb isAgg39 rfl hC.2.c1) (Xa rfl (Hb rfl) (Qa rfl (v := .pointer (some (ada.add ((u + x) * 1)))) (fun w hC => Oa (i := ((u + x : Nat) : Int)) Df rfl hAda rfl by_Om by_Om) ?_))))))
 refine Qa rfl (v := .int .i64 ((lu : Nat))) (fun w hC => Cb isAgg3 rfl (by rw [← hla]; exact PL hC.2.Na hAda by_Om)) ?_
 refine Xa rfl (De rfl) (Xa rfl (Of rfl) (Xa rfl (Kc Z9 rfl) (Xa rfl (Kc Vf rfl) (Qa rfl (v := .slice Bb fb.length k4) (fun w hC => Cb isAgg39 rfl hC.2.c3) (Xa rfl (Hb rfl) (Qa rfl (v := .pointer (some (adb.add ((v + y) * 1)))) (fun w hC => Oa (i := ((v + y : Nat) : Int)) Df rfl hAdb rfl by_Om by_Om) ?_))))))
 refine Qa rfl (v := .int .i64 ((lv : Nat))) (fun w hC => Cb isAgg3 rfl (by rw [← hlb]; exact PL hC.2.Nb hAdb by_Om)) ?_
 refine Xa rfl (Gc rfl) (Xa rfl (Gc rfl) (Jc (Ha (Ia (Ka (Ca (Hb rfl) (Ca (Hb rfl) (Ca (Fo rfl rfl) (Ca (Fd rfl) ?_)))))))))
 refine Cd (d := 113) rfl (fun hg0 => ?_) (fun hg0 => ?_)
 refine Ca (Hb rfl) (Ca (Hb rfl) (Ca (Fo rfl rfl) (Ca (Oc rfl rfl) (Ea ?_))))
 refine Pc rfl rfl (fun hc4 => ?_) (fun hc4 => ?_)
 refine Ia ?_
 obtain ⟨tt, htt⟩ : ∃ z, z = turn (Wb la fa) (Wb lb fb) (u + x) (v + y) := ⟨_, rfl⟩
 have htt1 : tt ≤ 1 := by rw [htt]; unfold turn; split <;> omega
 have hr1 : Sg fa (u + x) = u ∧ Sg fb (v + y) = v := by omega
 have hbest := LF (A := Wb la fa) (B := Wb lb fb) (u := u) (v := v) (x := x) (y := y) hr1.1 hr1.2
 rw [← hd1, ← hd2, ← hd3, ← htt] at hbest
 refine Id [] (.free 0 (.free 1 (.free 2 (.free 3 (.free 4 (.free 5 (.free 9 (.free 10 (.free 11 (.act 6 (.free 7 (.free 8 (.act 12 (.free 13 (.free 14 (.free 15 .nil)))))))))))))))) hF ?_
 clear hF; intro w hF hE
 replace hK := hK.ext hE
 clear hE
 refine ⟨fun wq => FR w0 (Rows q la.length) _ wq, hF, ?_⟩
 refine Xa rfl (Hb rfl) (Xa rfl (De rfl) (Xa rfl (Hb rfl) (Xa rfl (Kr rfl rfl) (Xa rfl (Hb rfl) (Xa rfl (Kr rfl rfl) (Xa rfl (De rfl) (Xa rfl (Hb rfl) (Xa rfl (Hb rfl) ?_))))))))
 refine Ke rfl (Tp _ gb cb n m (x) (y) _ _ by_Om by_Om (hF.heap (i := 0) rfl) by_Om by_Om by_Om by_Om) (Dc Yp rfl rfl rfl rfl) ?_
 rintro _ w ⟨rfl, hE⟩
 replace hF := hF.ext hE
 replace hK := hK.ext hE
 clear hE
 refine ⟨hF, ?_⟩
 refine Xa rfl (Of rfl) ?_
 refine Qa rfl (v := .int .i64 ((d3 : Nat))) (fun w hC => Cb isAgg3 rfl (by rw [← hv3]; exact hC.intCell 1 rfl (Mp by_Om by_Om))) ?_
 refine Ke rfl (Kf (ZQ _ N0 rb pb q la fa lb fb Aa Ba Ab Bb k1 k2 k3 k4 P hK (u + x) (v + y) by_Om by_Om by_Om by_Om) (by rw [← htt])) (Dc KR rfl rfl rfl rfl) ?_
 rintro _ w ⟨rfl, hE⟩
 replace hF := hF.ext hE
 replace hK := hK.ext hE
 clear hE
 refine ⟨hF, ?_⟩
 refine Xa rfl (Jn rfl rfl) (Qa rfl (v := .int .i64 (min ((1 : Int) + min ((d1 : Nat) : Int) ((d2 : Nat) : Int) : Int) (((d3 : Nat) : Int) + (tt : Nat) : Int))) (fun w hC => FE rfl rfl) (Xa rfl (Gc rfl) (Jc (Ha (Da (Ca (De rfl) (Ca (Of rfl) (Ca (Kc Dq rfl) (Ja (v := .slice (some ⟨pb, 0, none⟩) la.length la.length) (Cb isAgg36 rfl hK.c4) (Ca (Hb rfl) (Ja (v := .pointer (some ⟨pb, u + x, none⟩)) (Ub (i := ((u + x : Nat) : Int)) (u + x) Qh rfl rfl by_Om by_Om by_Om) (Ja (v := .slice (some ⟨q (u + x), 0, none⟩) (lb.length) (lb.length)) (Cb isAgg39 rfl (hK.grid.rowCell by_Om)) (Ca (Hb rfl) ?_)))))))))))))
 refine Ca (Hb rfl) (Ja (v := .pointer (some ⟨q (u + x), v + y, none⟩)) (Ub (i := ((v + y : Nat) : Int)) (v + y) Df rfl rfl by_Om by_Om by_Om) ?_)
 refine JK hF sizeOf3 rfl rfl (hK.grid.row (u + x) by_Om) by_Om (Ej.2 ⟨u + x, by omega, rfl⟩) (by intro z hz; have hqz := hK.lt.2.2 (u + x) by_Om; simp only [List.mem_cons, List.not_mem_nil, or_false] at hz; rcases hz with rfl | rfl <;> (simp only; omega)) ?_
 clear hF; intro w hF hE hnew
 replace hK := hK.put by_Om hE hnew
 clear hE hnew
 refine Ea (Da (Ca (De rfl) (Ca (Hb rfl) (Ca (Hb rfl) ?_))))
 refine Db (Tp _ gb cb n m (x + 1) (y + 1) _ _ by_Om by_Om (hF.heap (i := 0) rfl) by_Om by_Om by_Om by_Om) (Dc Yp rfl rfl rfl rfl) ?_
 rintro _ w ⟨rfl, hE⟩
 replace hF := hF.ext hE
 replace hK := hK.ext hE
 clear hE
 refine Ca (Hb rfl) (Ca (Of rfl) ?_)
 refine Bf 1 (l := [.int .i64 (min ((1 : Int) + min ((d1 : Nat) : Int) ((d2 : Nat) : Int) : Int) (((d3 : Nat) : Int) + (tt : Nat) : Int))]) (cs' := Gb (((n + 1) * (m + 1))) (Af (f) (gi m (x + 1) (y + 1)) (min ((1 : Int) + min ((d1 : Nat) : Int) ((d2 : Nat) : Int) : Int) (((d3 : Nat) : Int) + (tt : Nat) : Int)))) hF sizeOf3 rfl (v := .int .i64 (min ((1 : Int) + min ((d1 : Nat) : Int) ((d2 : Nat) : Int) : Int) (((d3 : Nat) : Int) + (tt : Nat) : Int))) rfl rfl Od rfl (by rw [Lg]; simp only [List.length_singleton]; exact Nat.succ_le_of_lt (Mp by_Om by_Om)) (Zf _) ?_
 clear hF; intro w hF hE
 replace hK := hK.step hE (by simpa using hcbN)
 clear hE
 replace hF : FR w0 (Rows q la.length) [_, (cb, .cells (Gb (((n + 1) * (m + 1))) (Af (f) (gi m (x + 1) (y + 1)) (min ((1 : Int) + min ((d1 : Nat) : Int) ((d2 : Nat) : Int) : Int) (((d3 : Nat) : Int) + (tt : Nat) : Int)))) 3)] w := hF
 refine Ya (Mb (Ha (Da (Ca (Hb rfl) (Ca (Qi (((v + (y + 1) : Nat) : Int)) rfl rfl) (Ca (Gc rfl) (Ya ?_)))))))
 refine Ic ⟨_, ?_, y + 1, (Af (f) (gi m (x + 1) (y + 1)) (min ((1 : Int) + min ((d1 : Nat) : Int) ((d2 : Nat) : Int) : Int) (((d3 : Nat) : Int) + (tt : Nat) : Int))), Eh P (u + x) (v + y) (min ((1 : Int) + min ((d1 : Nat) : Int) ((d2 : Nat) : Int) : Int) (((d3 : Nat) : Int) + (tt : Nat) : Int)), rfl, by_Om, (Gok.put hG_ by_Om (by rw [hbest.1])), (Fok.put hP ⟨by omega, by omega, by omega, by omega, hr1⟩ (by rw [hbest.2, ← hbest.1]; rfl)), (hK), K_, hF⟩
 omega
 have hr1 : ¬ (Sg fa (u + x) = u ∧ Sg fb (v + y) = v) := by omega
 obtain ⟨d4, hd4⟩ : ∃ d, d = fd (Wb la fa) (Wb lb fb) u (lu) v (lv) := ⟨_, rfl⟩
 obtain ⟨d5, hd5⟩ : ∃ d, d = td (Wb la fa) (Wb lb fb) (u + x) (v + y) := ⟨_, rfl⟩
 have hv4 : f (gi m (lu - u) (lv - v)) = (d4 : Int) := by have h := hG_.2.1 (lu - u) (lv - v) by_Om by_Om; rw [h, hd4, L_, show u + (lu - u) = lu by omega, show v + (lv - v) = lv by omega]
 have hv5 : P (u + x) (v + y) = (d5 : Int) := by rw [hP.2 _ _ (fun h => hr1 h.2.2.2.2), hd5]; exact hP0 _ _ by_Om by_Om by_Om by_Om hr1
 have hm4 : d4 ≤ 1024 := by rw [hd4]; have := (Tm (Wb la fa) (Wb lb fb) _ u lu v lv (Nat.le_refl _)).1; omega
 have hm5 : d5 ≤ 1024 := by rw [hd5]; unfold td; have := (Tm (Wb la fa) (Wb lb fb) _ (Sg fa (u + x)) (u + x + 1) (Sg fb (v + y)) (v + y + 1) (Nat.le_refl _)).1; have e1 : (Wb la fa).lf (u + x) = Sg fa (u + x) := rfl; have e2 : (Wb lb fb).lf (v + y) = Sg fb (v + y) := rfl; rw [e1, e2]; omega
 have hbest := F0 (A := Wb la fa) (B := Wb lb fb) (u := u) (v := v) (x := x) (y := y) (by show u ≤ Sg fa (u + x); omega) (by show v ≤ Sg fb (v + y); omega)
 have e1 : (Wb la fa).lf (u + x) = lu := hlu.symm
 have e2 : (Wb lb fb).lf (v + y) = lv := hlv.symm
 rw [e1, e2, ← hd1, ← hd2, ← hd4, ← hd5] at hbest
 refine Id [] (.free 0 (.free 1 (.free 2 (.free 3 (.free 4 (.free 5 (.free 6 (.free 7 (.free 8 (.free 9 (.free 13 (.free 14 (.free 15 (.free 16 (.free 17 (.free 18 (.free 19 (.free 20 (.free 21 (.free 22 (.act 10 (.free 11 (.free 12 (.free 23 (.free 24 (.free 25 .nil)))))))))))))))))))))))))) hF ?_
 clear hF; intro w hF hE
 replace hK := hK.ext hE
 clear hE
 refine ⟨fun wq => FR w0 (Rows q la.length) _ wq ∧ Rk wq N0 rb pb q la fa lb fb Aa Ba Ab Bb k1 k2 k3 k4 P, ⟨hF, hK⟩, ?_⟩
 refine Xa rfl (Hb rfl) (Xa rfl (De rfl) (Xa rfl (Hb rfl) (Xa rfl (Hb rfl) (Xa rfl (Kr rfl rfl) (Xa rfl (Kr rfl rfl) (Xa rfl (Hb rfl) (Xa rfl (Hb rfl) (Xa rfl (Kr rfl rfl) (Xa rfl (Kr rfl rfl) (Xa rfl (De rfl) (Xa rfl (Of rfl) (Xa rfl (Kc Dq rfl) (Qa rfl (v := .slice (some ⟨pb, 0, none⟩) la.length la.length) (fun w hC => Cb isAgg36 rfl hC.2.c4) ?_)))))))))))))
 refine Xa rfl (Hb rfl) (Qa rfl (v := .pointer (some ⟨pb, u + x, none⟩)) (fun w hC => Ub (i := ((u + x : Nat) : Int)) (u + x) Qh rfl rfl by_Om by_Om by_Om) (Qa rfl (v := .slice (some ⟨q (u + x), 0, none⟩) (lb.length) (lb.length)) (fun w hC => Cb isAgg39 rfl (hC.2.grid.rowCell by_Om)) (Xa rfl (Hb rfl) (Qa rfl (v := .pointer (some ⟨q (u + x), v + y, none⟩)) (fun w hC => Ub (i := ((v + y : Nat) : Int)) (v + y) Df rfl rfl by_Om by_Om by_Om) ?_))))
 refine Qa rfl (v := .int .i64 ((d5 : Nat))) (fun w hC => Cb isAgg3 rfl (by rw [← hv5]; exact hC.2.grid.cell by_Om by_Om)) ?_
 refine Ke rfl (Tp _ gb cb n m (lu - u) (lv - v) _ _ by_Om by_Om (hF.heap (i := 0) rfl) by_Om by_Om by_Om by_Om) (Dc Yp rfl rfl rfl rfl) ?_
 rintro _ w ⟨rfl, hE⟩
 replace hF := hF.ext hE
 replace hK := hK.ext hE
 clear hE
 refine ⟨⟨hF, hK⟩, ?_⟩
 refine Xa rfl (Of rfl) ?_
 refine Qa rfl (v := .int .i64 ((d4 : Nat))) (fun w hC => Cb isAgg3 rfl (by rw [← hv4]; exact hC.1.intCell 1 rfl (Mp by_Om by_Om))) ?_
 refine Xa rfl (Jn rfl rfl) (Qa rfl (v := .int .i64 (min ((1 : Int) + min ((d1 : Nat) : Int) ((d2 : Nat) : Int) : Int) (((d4 : Nat) : Int) + (d5 : Nat) : Int))) (fun w hC => FE rfl rfl) (Xa rfl (Gc rfl) (Jc (Ha (Da (Ca (De rfl) (Ca (Hb rfl) (Ca (Hb rfl) ?_))))))))
 refine Db (Tp _ gb cb n m (x + 1) (y + 1) _ _ by_Om by_Om (hF.heap (i := 0) rfl) by_Om by_Om by_Om by_Om) (Dc Yp rfl rfl rfl rfl) ?_
 rintro _ w ⟨rfl, hE⟩
 replace hF := hF.ext hE
 replace hK := hK.ext hE
 clear hE
 refine Ca (Hb rfl) (Ca (Of rfl) ?_)
 refine Bf 1 (l := [.int .i64 (min ((1 : Int) + min ((d1 : Nat) : Int) ((d2 : Nat) : Int) : Int) (((d4 : Nat) : Int) + (d5 : Nat) : Int))]) (cs' := Gb (((n + 1) * (m + 1))) (Af (f) (gi m (x + 1) (y + 1)) (min ((1 : Int) + min ((d1 : Nat) : Int) ((d2 : Nat) : Int) : Int) (((d4 : Nat) : Int) + (d5 : Nat) : Int)))) hF sizeOf3 rfl (v := .int .i64 (min ((1 : Int) + min ((d1 : Nat) : Int) ((d2 : Nat) : Int) : Int) (((d4 : Nat) : Int) + (d5 : Nat) : Int))) rfl rfl Od rfl (by rw [Lg]; simp only [List.length_singleton]; exact Nat.succ_le_of_lt (Mp by_Om by_Om)) (Zf _) ?_
 clear hF; intro w hF hE
 replace hK := hK.step hE (by simpa using hcbN)
 clear hE
 replace hF : FR w0 (Rows q la.length) [_, (cb, .cells (Gb (((n + 1) * (m + 1))) (Af (f) (gi m (x + 1) (y + 1)) (min ((1 : Int) + min ((d1 : Nat) : Int) ((d2 : Nat) : Int) : Int) (((d4 : Nat) : Int) + (d5 : Nat) : Int)))) 3)] w := hF
 refine Ya (Mb (Ha (Da (Ca (Hb rfl) (Ca (Qi (((v + (y + 1) : Nat) : Int)) rfl rfl) (Ca (Gc rfl) (Ya ?_)))))))
 refine Ic ⟨_, ?_, y + 1, (Af (f) (gi m (x + 1) (y + 1)) (min ((1 : Int) + min ((d1 : Nat) : Int) ((d2 : Nat) : Int) : Int) (((d4 : Nat) : Int) + (d5 : Nat) : Int))), P, rfl, by_Om, (Gok.put hG_ by_Om (by rw [hbest])), (Fok.skip hP hr1), (hK), K_, hF⟩
 omega
 refine Sa (Sa (Sa (Ca (Jd rfl rfl) (Ea (Bg rfl ?_)))))
 have hr1 : ¬ (Sg fa (u + x) = u ∧ Sg fb (v + y) = v) := by omega
 obtain ⟨d4, hd4⟩ : ∃ d, d = fd (Wb la fa) (Wb lb fb) u (lu) v (lv) := ⟨_, rfl⟩
 obtain ⟨d5, hd5⟩ : ∃ d, d = td (Wb la fa) (Wb lb fb) (u + x) (v + y) := ⟨_, rfl⟩
 have hv4 : f (gi m (lu - u) (lv - v)) = (d4 : Int) := by have h := hG_.2.1 (lu - u) (lv - v) by_Om by_Om; rw [h, hd4, L_, show u + (lu - u) = lu by omega, show v + (lv - v) = lv by omega]
 have hv5 : P (u + x) (v + y) = (d5 : Int) := by rw [hP.2 _ _ (fun h => hr1 h.2.2.2.2), hd5]; exact hP0 _ _ by_Om by_Om by_Om by_Om hr1
 have hm4 : d4 ≤ 1024 := by rw [hd4]; have := (Tm (Wb la fa) (Wb lb fb) _ u lu v lv (Nat.le_refl _)).1; omega
 have hm5 : d5 ≤ 1024 := by rw [hd5]; unfold td; have := (Tm (Wb la fa) (Wb lb fb) _ (Sg fa (u + x)) (u + x + 1) (Sg fb (v + y)) (v + y + 1) (Nat.le_refl _)).1; have e1 : (Wb la fa).lf (u + x) = Sg fa (u + x) := rfl; have e2 : (Wb lb fb).lf (v + y) = Sg fb (v + y) := rfl; rw [e1, e2]; omega
 have hbest := F0 (A := Wb la fa) (B := Wb lb fb) (u := u) (v := v) (x := x) (y := y) (by show u ≤ Sg fa (u + x); omega) (by show v ≤ Sg fb (v + y); omega)
 have e1 : (Wb la fa).lf (u + x) = lu := hlu.symm
 have e2 : (Wb lb fb).lf (v + y) = lv := hlv.symm
 rw [e1, e2, ← hd1, ← hd2, ← hd4, ← hd5] at hbest
 refine Id [] (.free 0 (.free 1 (.free 2 (.free 3 (.free 4 (.free 5 (.free 6 (.free 7 (.free 8 (.free 9 (.free 13 (.free 14 (.free 15 (.free 16 (.free 17 (.free 18 (.free 19 (.free 20 (.free 21 (.free 22 (.act 10 (.free 11 (.free 12 (.free 23 (.free 24 (.free 25 .nil)))))))))))))))))))))))))) hF ?_
 clear hF; intro w hF hE
 replace hK := hK.ext hE
 clear hE
 refine ⟨fun wq => FR w0 (Rows q la.length) _ wq ∧ Rk wq N0 rb pb q la fa lb fb Aa Ba Ab Bb k1 k2 k3 k4 P, ⟨hF, hK⟩, ?_⟩
 refine Xa rfl (Hb rfl) (Xa rfl (De rfl) (Xa rfl (Hb rfl) (Xa rfl (Hb rfl) (Xa rfl (Kr rfl rfl) (Xa rfl (Kr rfl rfl) (Xa rfl (Hb rfl) (Xa rfl (Hb rfl) (Xa rfl (Kr rfl rfl) (Xa rfl (Kr rfl rfl) (Xa rfl (De rfl) (Xa rfl (Of rfl) (Xa rfl (Kc Dq rfl) (Qa rfl (v := .slice (some ⟨pb, 0, none⟩) la.length la.length) (fun w hC => Cb isAgg36 rfl hC.2.c4) ?_)))))))))))))
 refine Xa rfl (Hb rfl) (Qa rfl (v := .pointer (some ⟨pb, u + x, none⟩)) (fun w hC => Ub (i := ((u + x : Nat) : Int)) (u + x) Qh rfl rfl by_Om by_Om by_Om) (Qa rfl (v := .slice (some ⟨q (u + x), 0, none⟩) (lb.length) (lb.length)) (fun w hC => Cb isAgg39 rfl (hC.2.grid.rowCell by_Om)) (Xa rfl (Hb rfl) (Qa rfl (v := .pointer (some ⟨q (u + x), v + y, none⟩)) (fun w hC => Ub (i := ((v + y : Nat) : Int)) (v + y) Df rfl rfl by_Om by_Om by_Om) ?_))))
 refine Qa rfl (v := .int .i64 ((d5 : Nat))) (fun w hC => Cb isAgg3 rfl (by rw [← hv5]; exact hC.2.grid.cell by_Om by_Om)) ?_
 refine Ke rfl (Tp _ gb cb n m (lu - u) (lv - v) _ _ by_Om by_Om (hF.heap (i := 0) rfl) by_Om by_Om by_Om by_Om) (Dc Yp rfl rfl rfl rfl) ?_
 rintro _ w ⟨rfl, hE⟩
 replace hF := hF.ext hE
 replace hK := hK.ext hE
 clear hE
 refine ⟨⟨hF, hK⟩, ?_⟩
 refine Xa rfl (Of rfl) ?_
 refine Qa rfl (v := .int .i64 ((d4 : Nat))) (fun w hC => Cb isAgg3 rfl (by rw [← hv4]; exact hC.1.intCell 1 rfl (Mp by_Om by_Om))) ?_
 refine Xa rfl (Jn rfl rfl) (Qa rfl (v := .int .i64 (min ((1 : Int) + min ((d1 : Nat) : Int) ((d2 : Nat) : Int) : Int) (((d4 : Nat) : Int) + (d5 : Nat) : Int))) (fun w hC => FE rfl rfl) (Xa rfl (Gc rfl) (Jc (Ha (Da (Ca (De rfl) (Ca (Hb rfl) (Ca (Hb rfl) ?_))))))))
 refine Db (Tp _ gb cb n m (x + 1) (y + 1) _ _ by_Om by_Om (hF.heap (i := 0) rfl) by_Om by_Om by_Om by_Om) (Dc Yp rfl rfl rfl rfl) ?_
 rintro _ w ⟨rfl, hE⟩
 replace hF := hF.ext hE
 replace hK := hK.ext hE
 clear hE
 refine Ca (Hb rfl) (Ca (Of rfl) ?_)
 refine Bf 1 (l := [.int .i64 (min ((1 : Int) + min ((d1 : Nat) : Int) ((d2 : Nat) : Int) : Int) (((d4 : Nat) : Int) + (d5 : Nat) : Int))]) (cs' := Gb (((n + 1) * (m + 1))) (Af (f) (gi m (x + 1) (y + 1)) (min ((1 : Int) + min ((d1 : Nat) : Int) ((d2 : Nat) : Int) : Int) (((d4 : Nat) : Int) + (d5 : Nat) : Int)))) hF sizeOf3 rfl (v := .int .i64 (min ((1 : Int) + min ((d1 : Nat) : Int) ((d2 : Nat) : Int) : Int) (((d4 : Nat) : Int) + (d5 : Nat) : Int))) rfl rfl Od rfl (by rw [Lg]; simp only [List.length_singleton]; exact Nat.succ_le_of_lt (Mp by_Om by_Om)) (Zf _) ?_
 clear hF; intro w hF hE
 replace hK := hK.step hE (by simpa using hcbN)
 clear hE
 replace hF : FR w0 (Rows q la.length) [_, (cb, .cells (Gb (((n + 1) * (m + 1))) (Af (f) (gi m (x + 1) (y + 1)) (min ((1 : Int) + min ((d1 : Nat) : Int) ((d2 : Nat) : Int) : Int) (((d4 : Nat) : Int) + (d5 : Nat) : Int)))) 3)] w := hF
 refine Ya (Mb (Ha (Da (Ca (Hb rfl) (Ca (Qi (((v + (y + 1) : Nat) : Int)) rfl rfl) (Ca (Gc rfl) (Ya ?_)))))))
 refine Ic ⟨_, ?_, y + 1, (Af (f) (gi m (x + 1) (y + 1)) (min ((1 : Int) + min ((d1 : Nat) : Int) ((d2 : Nat) : Int) : Int) (((d4 : Nat) : Int) + (d5 : Nat) : Int))), P, rfl, by_Om, (Gok.put hG_ by_Om (by rw [hbest])), (Fok.skip hP hr1), (hK), K_, hF⟩
 omega
 refine Nc (Lc rfl ?_)
 refine Mb (Ha (Da (Ca (Hb rfl) (Ca (Qi (((u + (x + 1) : Nat) : Int)) rfl rfl) (Ca (Gc rfl) (Ya ?_))))))
 refine Ic ⟨_, ?_, x + 1, (f), P, rfl, by_Om, ((by obtain rfl : y = m := by_Om; exact Gok.close hG_)), ((by obtain rfl : y = m := by_Om; exact Fok.next hP)), (hK), HK, hF⟩
 omega
 refine Nc (Lc rfl ?_)
 refine Ha (Ka (Ca (De rfl) (Ca (Z_ rfl) (Ea ?_))))
 refine Xd (v := .pointer _) rfl rfl ?_
 obtain rfl : x = n := by omega
 exact ⟨gb, cb, f, P, rfl, hF.heap (i := 0) rfl, hF.heap (i := 1) rfl, hD_.2 _ _ (Nat.le_refl _) (Nat.le_refl _), hK, fun i j h => hP.1 i j h (.inl h.2.1), hP.2, hgs, hcs, hF.same⟩
end Go.Scarf
namespace Go.Scarf
open Go.RowKit Go.Proofs Go.Proofs.Tryz
def Ko (lm : LN) (seen : Array Nat) : List Nat := seen.toList.map fun i => (lm.getD i (0, 0)).2
theorem Gz (lm : LN) (seen : Array Nat) (j : Nat) : Ko lm (seen.push j) = Ko lm seen ++ [(lm.getD j (0, 0)).2] := by simp [Ko]
theorem Uv (lm : LN) (seen : Array Nat) : (Ko lm seen).length = seen.size := by simp [Ko]
theorem EQ (lm : LN) (j : Nat) (h : j < (Mk lm).length) : (Mk lm)[j].2 = .int .i64 (((lm.getD j (0, 0)).2 : Nat) : Int) := by
  rw [Dp] at h
  simp [Mk, List.getD, h]
theorem Ok {S : Nat → Prop} {wx : World} : ∀ {q : List Int}, (∀ s ∈ q, -9223372036854775808 ≤ s ∧ s ≤ 9223372036854775807) → RepL S wx (q.map Ze) (q.map fun s => Value.int .i64 s)
  | [], _ => RepL.nil_mk
  | s :: q, h => RepL.cons_mk (Rep.lit_mk (v := .int .i64 s) (h s Ga)) (Ok fun x hx => h x (by simp [hx]))
theorem JN {w0 w : World} {pre post sb : List (Nat × Obj)} {A : Option Addr} {n c : Nat} {zs : List Int} (hn0 : n = zs.length) (hS : SlB 3 1 A n c (zs.map (Value.int .i64)) sb) (hF : FR w0 [] (pre ++ (sb ++ post)) w) (hl : n ≤ 1000000) :
    Calls prog 132 #[.slice A n c] w (Rd fun v w' => v = .tuple #[] ∧ ∃ sb', SlB 3 1 A n c ((zs.mergeSort fun x y => decide (x ≤ y)).map (Value.int .i64)) sb' ∧ FR w0 [] (pre ++ (sb' ++ post)) w') := by
  subst hn0
  rcases hS.2 with ⟨hn, hc, rfl⟩ | ⟨g, cur, rfl, rfl, h1, h2, h3, h4⟩
  · obtain rfl : zs = [] := List.eq_nil_of_length_eq_zero hn
    refine (Go.Proofs.Tryz.slices_Sort_int_none A c w).mono ?_
    rintro e w' ⟨rfl, rfl⟩
    exact ⟨_, rfl, rfl, [], by simpa using hS, hF⟩
  · have hb := hF.memHeap (p := (g, .cells cur 3)) Ga
    rw [Nat.mul_one] at h4
    refine (Go.Proofs.Tryz.slices_Sort_int g 0 c zs w (holds_of_blockI hb h4) (Fa hb) by_Om).mono ?_
    rintro e w' ⟨rfl, n, os, rfl⟩
    have hlm : (zs.mergeSort fun x y => decide (x ≤ y)).length = zs.length := List.length_mergeSort _
    have hnew := heap_sortedI (n := n) (os := os) (zs.mergeSort fun x y => decide (x ≤ y)).toArray hb
    have hg := grownBy_sortedI (w := w) (g := g) (n := n) (os := os) (zs.mergeSort fun x y => decide (x ≤ y)).toArray
    have hs : Same [g] w (Go.Sort.grow (Go.Sort.putRow (Value.int .i64) (Go.Sort.ahead w n) g 0 (zs.mergeSort fun x y => decide (x ≤ y)).toArray) os) := ⟨hg.os, hg.tape, hg.output, hg.size, fun b hb hn => hg.block b hb (fun e => hn (by simp at e; simp [e]))⟩
    refine ⟨_, rfl, rfl, _, ?_, hF.changeMid hs hnew⟩
    refine ⟨by simp [hlm], .inr ⟨g, _, rfl, rfl, h1, h2, by simp [Go.Sort.putCells, h3], ?_⟩⟩
    rw [Nat.mul_one, ← hlm]
    exact take_putCellsI cur _ (by rw [hlm]; omega)
theorem SJ (l : LN) (k : Int) (v : Nat) : (P6 l k v).length ≤ l.length + 1 := by
  unfold P6
  split
  · rw [List.length_set]; omega
  · simp
theorem Hv {lm : LN} {seen : Array Nat} (hn : seen.toList.Nodup) (hl : ∀ i ∈ seen.toList, i < lm.length) : seen.size ≤ lm.length := by
  have hp : seen.toList.Perm ((List.range lm.length).filter fun i => decide (i ∈ seen.toList)) := Gq hn (List.Pairwise.filter _ List.nodup_range) fun x => by
    rw [List.mem_filter, List.mem_range, decide_eq_true_eq]
    exact ⟨fun h => ⟨hl x h, h⟩, fun h => h.2⟩
  have h1 := hp.length_eq
  have h2 := List.length_filter_le (fun i => decide (i ∈ seen.toList)) (List.range lm.length)
  rw [List.length_range] at h2
  simp only [Array.length_toList] at h1
  omega
theorem Zy (S : Nat → Prop) (w0 : World) (la : List Str) (fa : List Int) (Aa Ba : Option Addr) (ca ea : Nat) (hLa : Rep S w0 (Gf la) [.slice Aa la.length ca]) (hNa : Rep S w0 (.slice (fa.map Ze)) [.slice Ba fa.length ea]) (hR : Yf la fa) : Calls prog 103 #[.agg #[.slice Aa la.length ca, .slice Ba fa.length ea]] w0 (Rd fun v w' => ∃ A c, v = .slice A (Hc fa).length c ∧ Rep (Btw w0 w') w' (.slice (((Hc fa).map fun i : Nat => (i : Int)).map Ze)) [.slice A (Hc fa).length c] ∧ Same [] w0 w') := by
 have hLla := hLa.slice_len
 have hNla := hNa.slice_len
 rw [List.length_map] at hLla hNla
 have hR5 := hR.2.1
 have hRl := hR.1
 refine Ma func103 rfl ntmps103 Jb (Ed _) ?_
 have hF := FR.start w0 []
 refine Ka ?_
 refine Sj hF rfl ?_
 clear hF; rintro b1 w hb1 hF -
 refine Ca (Il rfl) (Ea (Ia (Ka (Qd (Bm isAgg60 sizeOf60 rfl hF.F 0 rfl rfl) ?_))))
 refine Db (Yy _ _ la fa Aa Ba ca ea (hF.rep hLa) (hF.rep hNa)) (Eb CB rfl rfl) ?_
 rintro _ w ⟨b, rfl, hb, hE⟩
 obtain rfl : b = true := hb.2 hR
 replace hF := hF.ext hE
 clear hE
 refine Ca (Oo (b := true) rfl) (Ea (Wq rfl (Ka ?_)))
 refine Xr (v := fun b => .map (some b)) (o := Cj (Mk [])) hF (S9 underlying166) ?_
 clear hF; rintro b2 w hb2 hF -
 refine Ca (C1) (Ea (Ia (Ka (Ca (Kc Vf rfl) (Qd (Vi isAgg39 rfl hF.F 1 rfl rfl) (Ca (Qe underlying39 rfl) (Ca (Hb rfl) (Ea (Va ?_)))))))))
 refine Uc (fun μ σ w => ∃ (j : Nat), ∃ (lm : LN), μ = fa.length - j ∧ (j ≤ fa.length) ∧ (LastOk fa j lm ∧ lm.length ≤ j) ∧ AllEq σ [(3, .map (some b2)), (14, .slice Ba fa.length ea), (15, .int .i64 ((fa.length : Nat))), (16, .int .i64 ((j : Int)))] ∧ FR w0 [] [(b2, Cj (Mk lm)), (b1, .cells #[.slice Aa la.length ca, .slice Ba fa.length ea] 60)] w) _ ⟨0, [], rfl, (Nat.zero_le _), (⟨LastOk.nil fa, Nat.le_refl _⟩), Gt, hF⟩ ?_
 clear hF; rintro μ σ w ⟨j, lm, rfl, hj, hlm, hs, hF⟩
 refine Cg.slots hs ?_
 clear hs; intro σ
 refine Ka (Ca (Nk rfl rfl) (Ea (Ia ?_)))
 refine Pc rfl rfl (fun hc1 => ?_) (fun hc1 => ?_)
 refine Wa (Ha (Ia (Va (Ka (Ca (Hb rfl) ?_)))))
 obtain ⟨ad0, hA0, hk0, hx0⟩ := hNa.int_elem (i := j) by_Om
 refine Ja (v := .pointer (some (ad0.add (j * 1)))) (Oa (i := (j : Int)) Df rfl hA0 rfl by_Om by_Om) (Ja (v := .int .i64 (fa[j])) (Cb isAgg3 rfl (hF.cell0 hk0)) (Ca (Gc rfl) (Ca (Gc rfl) (Ea (Da (Ca (Z0) (Ca (Hb rfl) (Ca (Hb rfl) ?_))))))))
 refine PH 0 (l := lm) (key := fa[j]) (v := j) hF underlying166 underlying3 rfl rfl rfl rfl ?_
 clear hF; rintro w hF -
 replace hF : FR w0 [] [(b2, Cj (Mk (P6 lm (fa[j]) (j)))), _] w := hF
 refine Ya (Mb (Ha (Da (Ca (Qi (((j + 1 : Nat) : Int)) rfl rfl) (Ca (Hb rfl) (Ya ?_))))))
 refine Ic ⟨_, ?_, j + 1, P6 lm fa[j] j, rfl, by_Om, (⟨by have := hlm.1.step; rwa [Mm by_Om] at this, by have := SJ lm fa[j] j; omega⟩), Gt, hF⟩
 omega
 refine Nc (Lc rfl ?_)
 refine Ha (Ka (Ca (Il rfl) (Ea (Ia (Ia ?_)))))
 have hjn : j = fa.length := by omega
 rw [hjn] at hlm
 refine Da (Ca (Z0) ?_)
 refine Xr (v := fun b => .pointer (some ⟨b, 0, none⟩)) (o := .mapIter (some b2) ((Mk lm)).length #[] ((Mk lm)).length) hF (HJ underlying166 rfl (hF.heap (i := 0) rfl)) ?_
 clear hF; rintro b3 w hb3 hF -
 refine Ea (Va ?_)
 replace hF : FR w0 [] ([(b3, .mapIter (some b2) ((Mk lm)).length #[] ((Mk lm)).length), (b2, Cj (Mk lm)), (b1, .cells #[.slice Aa la.length ca, .slice Ba fa.length ea] 60)] ++ ([] ++ [])) w := hF
 refine Uc (fun μ σ w => ∃ (seen : Array Nat), ∃ (A : Option Addr), ∃ (c : Nat), ∃ (sb : List (Nat × Obj)), μ = L0 (Mk lm).length seen ∧ (seen.toList.Nodup) ∧ (∀ i ∈ seen.toList, i < lm.length) ∧ (SlB 3 1 A (Ko lm seen).length c (FG (Ko lm seen)) sb) ∧ AllEq σ [(6, .slice (A) ((Ko lm seen).length) (c)), (26, .pointer (some ⟨b3, 0, none⟩))] ∧ FR w0 [] ([(b3, .mapIter (some b2) (Mk lm).length (seen) (Mk lm).length), (b2, Cj (Mk lm)), (b1, .cells #[.slice Aa la.length ca, .slice Ba fa.length ea] 60)] ++ (sb ++ [])) w) _ ⟨#[], none, 0, [], rfl, Ga, Ga, (SlB.nil _ _), O7, hF⟩ ?_
 clear hF; rintro μ σ w ⟨seen, A, c, sb, rfl, hsn, hsl, hS, hs, hF⟩
 refine Cg.slots hs ?_
 clear hs; intro σ
 refine Ka ?_
 refine UN 0 (b := b2) (l := (Mk lm)) (seen := seen) hF rfl rfl (hF.heap (i := 1) rfl) (fun hall => ?_) (fun q w hq hn hF2 hE _ => ?_)
 refine Ca (Ar rfl rfl) (Ea (Ia (Bg rfl ?_)))
 refine Nc (Lc rfl ?_)
 refine Ha (Ka (Ca (Md rfl) ?_))
 refine Db (JN (pre := [(b3, .mapIter (some b2) (Mk lm).length (seen) (Mk lm).length), (b2, Cj (Mk lm)), (b1, .cells #[.slice Aa la.length ca, .slice Ba fa.length ea] 60)]) (post := []) (zs := (Ko lm seen).map fun i : Nat => (i : Int)) Ga (by have h := hS; unfold FG at h; rw [List.map_map]; exact h) hF (by have := Hv hsn hsl; have := hlm.2; rw [Uv]; omega)) (Eb SR rfl rfl) ?_
 rintro _ w ⟨rfl, sb2, hS2, hF⟩
 refine Cc (Ca (Md rfl) (Ca (Il rfl) (Ea ?_)))
 refine Xd (v := .slice _ _ _) rfl rfl ?_
 have hp := VG hsn hsl (fun i hi => by have := hall i (by rw [Dp]; exact hi); rw [← Array.contains_toList] at this; exact List.contains_iff_mem.1 this)
 have hk := C8 (hp.trans hlm.1.perm)
 have hk2 : (((Ko lm seen).map fun i : Nat => (i : Int)).mergeSort fun x y => decide (x ≤ y)) = (Hc fa).map fun i : Nat => (i : Int) := hk
 rw [hk2] at hS2
 have hlen : (Ko lm seen).length = (Hc fa).length := (hp.trans hlm.1.perm).length_eq
 rw [hlen] at hS2 ⊢
 refine ⟨_, _, rfl, ?_, hF.same⟩
 have hK : RX w0 [] w (((Hc fa).map fun i : Nat => (i : Int)).map Ze) _ := Ok (fun s hs => by obtain ⟨i, hi, rfl⟩ := List.mem_map.1 hs; have := (Ng.1 hi).1; have := hR.1; have := hR.2.1; omega)
 exact hS2.rep (pre := [_, _, _]) (post := []) hF hK Ga
 clear hF
 have hF : FR w0 [] ([(b3, .mapIter (some b2) ((Mk lm)).length ((seen).push q) ((Mk lm)).length), (b2, Cj (Mk lm)), (b1, .cells #[.slice Aa la.length ca, .slice Ba fa.length ea] 60)] ++ (sb ++ [])) w := hF2
 clear hE hF2
 refine Ca (Ar rfl rfl) (Ea (Ia (Ae rfl (Wa (Ha (Va (Ka (Ja (v := .tuple #[.int .i64 ((Mk lm)[q].1), .int .i64 (((lm.getD q (0, 0)).2 : Nat))]) (WH rfl hq (hF.heap (i := 0) rfl) (hF.heap (i := 1) rfl) (EQ lm q hq)) (Ca (Zn rfl rfl) (Ca (Gc rfl) (Ya ?_)))))))))))
 refine Ha (Da (Ca (Md rfl) (Ca (Hb rfl) ?_)))
 refine Xf 1 hF (Ua (cs := #[.int .i64 (((lm.getD q (0, 0)).2 : Nat))]) underlying39 sizeOf3 zeroValue3 Ra Ra Ib) ?_
 clear hF; rintro b4 w hb4 hF -
 refine Tq [(b4, .cells #[.int .i64 (((lm.getD q (0, 0)).2 : Nat))] 3), (b3, .mapIter (some b2) ((Mk lm)).length ((seen).push q) ((Mk lm)).length), (b2, Cj (Mk lm)), (b1, .cells #[.slice Aa la.length ca, .slice Ba fa.length ea] 60)] [] (news := [.int .i64 (((lm.getD q (0, 0)).2 : Nat))]) (len' := (Ko lm (seen.push q)).length) (ys := FG (Ko lm (seen.push q))) Ki hF hS rfl rfl (rfl) (fun _ => ⟨_, rfl, Xb (hF.cellsAll 0 rfl)⟩) (by simp [Value.oneCell']) (by have := Hv hsn hsl; simp only [maxLen, Uv]; omega) (by simp [Gz]) (by simp [FG, Gz]) (by have := Hv hsn hsl; simp only [Uv]; omega) ?_
 clear hF; intro A1 c1 o_1 w hS1_o hF hE hnew
 clear hE hnew
 refine Ca (Il rfl) (Ya (Mb ?_))
 refine Ic ⟨_, ?_, seen.push q, A1, c1, o_1, rfl, (by rw [Array.toList_push, List.nodup_append]; exact ⟨hsn, by simp, fun a ha b hb e => by simp only [List.mem_singleton] at hb; subst hb; subst e; rw [← Array.contains_toList] at hn; exact absurd (List.contains_iff_mem.2 ha) (by rw [hn]; simp)⟩), (by intro i hi; rw [Array.toList_push, List.mem_append, List.mem_singleton] at hi; rcases hi with hi | rfl; exact hsl i hi; rw [← Dp]; exact hq), (hS1_o), O7, hF.drop 1⟩
 exact Bx hq hn
end Go.Scarf
namespace Go.Scarf
open Go.RowKit Go.Proofs Go.Proofs.Tryz
def Ol (n m i : Nat) (q : Nat → Nat) : Array Value := ((List.range n).map fun k => if k < i then Value.slice (some ⟨q k, 0, none⟩) m m else Value.slice none 0 0).toArray
theorem TB (n m i : Nat) (q : Nat → Nat) : (Ol n m i q).size = n := by simp [Ol]
theorem T_ (n m : Nat) (q : Nat → Nat) : (List.replicate n (Value.slice none 0 0)).toArray = Ol n m 0 q := by
  apply Array.ext
  · simp [Ol]
  · intro i h1 h2; simp [Ol]
def Ve (q : Nat → Nat) (i b : Nat) : Nat → Nat := fun k => if k = i then b else q k
theorem YF {n m i b : Nat} {q : Nat → Nat} (hi : i < n) : Hj (Ol n m i q) i [.slice (some ⟨b, 0, none⟩) m m] = Ol n m (i + 1) (Ve q i b) := by
  rw [Hj, Hj]
  apply Array.ext
  · simp [Ol]
  · intro k h1 h2
    rw [Array.getElem_setIfInBounds (by simpa using h1)]
    by_cases e : i = k
    · subst e; simp [Ol, Ve]
    · have e' : ¬ k = i := fun h => e h.symm
      rw [if_neg e]
      by_cases hk : k < i
      · simp [Ol, Ve, hk, e', show k < i + 1 by omega]
      · simp [Ol, Ve, hk, e', show ¬ k < i + 1 by omega]
theorem AB (n m : Nat) (q : Nat → Nat) : Ol n m n q = ((List.range n).map fun i => Value.slice (some ⟨q i, 0, none⟩) m m).toArray := by
  unfold Ol
  congr 1
  exact List.map_congr_left fun k hk => by rw [if_pos (List.mem_range.1 hk)]
theorem FR.new_ids {w0 w : World} {Ds : List Nat} {bs_ : List (Nat × Obj)} {b : Nat} {o : Obj} (hF : FR w0 Ds ((b, o) :: bs_) w) : b ∉ bs_.map (·.1) := fun h => by
  obtain ⟨z, hz, e⟩ := List.mem_map.1 h
  exact (List.pairwise_cons.1 hF.desc).1 z hz e
structure RowsOk (w0 w : World) (i m : Nat) (q : Nat → Nat) (ids : List Nat) : Prop where
  row : ∀ k, k < i → w.heap[q k]? = some (.cells (Gb m fun _ => 0) 3)
  inj : ∀ k l, k < i → l < i → q k = q l → k = l
  new : ∀ k, k < i → w0.heap.size ≤ q k ∧ q k ∉ ids
theorem RowsOk.step {w0 w w' : World} {i m : Nat} {q : Nat → Nat} {ids E : List Nat} (h : RowsOk w0 w i m q ids) (hs : Same E w w') (he : ∀ b ∈ E, b ∈ ids) : RowsOk w0 w' i m q ids :=
  ⟨fun k hk => (hs.block _ (Fa (h.row k hk)) (fun hm => (h.new k hk).2 (he _ hm))).trans (h.row k hk), h.inj, h.new⟩
theorem RowsOk.put {w0 w : World} {i m b : Nat} {q : Nat → Nat} {ids : List Nat} (h : RowsOk w0 w i m q ids) (hb : w.heap[b]? = some (.cells (Gb m fun _ => 0) 3)) (h1 : w0.heap.size ≤ b) (h2 : b ∉ ids) (h3 : ∀ k, k < i → q k ≠ b) : RowsOk w0 w (i + 1) m (Ve q i b) ids := by
  have e : ∀ k, Ve q i b k = if k = i then b else q k := fun _ => rfl
  refine ⟨fun k hk => ?_, fun k l hk hl he => ?_, fun k hk => ?_⟩
  · rw [e]; split
    · exact hb
    · exact h.row k by_Om
  · rw [e, e] at he
    split at he <;> split at he
    · omega
    · exact absurd he.symm (h3 l by_Om)
    · exact absurd he (h3 k by_Om)
    · exact h.inj k l by_Om by_Om he
  · rw [e]; split
    · exact ⟨h1, h2⟩
    · exact h.new k by_Om
theorem Hy (fs : List Int) : (Hc fs).length ≤ fs.length := by
  have := List.length_filter_le (fun i => BL fs i) (List.range fs.length)
  rwa [List.length_range] at this
theorem G8 {fs : List Int} (h : lfOk fs fs.length) {k x : Nat} (hk : k ∈ Hc fs) (hx : x < fs.length) (e : Sg fs x = Sg fs k) : Sg fs k ≤ x ∧ x ≤ k := by
  obtain ⟨h1, h2⟩ := Ng.1 hk
  have e1 := h.at h1 h1
  have e2 := h.at hx hx
  refine ⟨by rw [← e]; exact Nat.min_le_right _ _, ?_⟩
  refine Classical.byContradiction fun hn => h2 x hx by_Om ?_
  rw [Mm hx, Mm h1]
  omega
theorem W4 (S S' : Nat → Prop) (w0 : World) (la : List Str) (fa : List Int) (Aa Ba : Option Addr) (ca ea : Nat) (hLa : Rep S w0 (Gf la) [.slice Aa la.length ca]) (hNa : Rep S w0 (.slice (fa.map Ze)) [.slice Ba fa.length ea]) (lb : List Str) (fb : List Int) (Ab Bb : Option Addr) (cb eb : Nat) (hLb : Rep S' w0 (Gf lb) [.slice Ab lb.length cb]) (hNb : Rep S' w0 (.slice (fb.map Ze)) [.slice Bb fb.length eb]) (hRa : Yf la fa) (hRb : Yf lb fb) : Calls prog 83 #[.agg #[.slice Aa la.length ca, .slice Ba fa.length ea], .agg #[.slice Ab lb.length cb, .slice Bb fb.length eb]] w0 (Rd fun v w' => ∃ (N0 rb pb : Nat) (q : Nat → Nat) (P : Nat → Nat → Int), v = .tuple #[.pointer (some ⟨rb, 0, none⟩), .bool true] ∧ Rk w' N0 rb pb q la fa lb fb Aa Ba Ab Bb ca ea cb eb P ∧ (∀ x y, x < la.length → y < lb.length → P x y = ((td (Wb la fa) (Wb lb fb) x y : Nat) : Int)) ∧ N0 ≤ w'.heap.size ∧ (∀ i, i < la.length → w0.heap.size ≤ q i) ∧ Same [] w0 w') := by
 have hLla := hLa.slice_len
 have hNla := hNa.slice_len
 rw [List.length_map] at hLla hNla
 have hLlb := hLb.slice_len
 have hNlb := hNb.slice_len
 rw [List.length_map] at hLlb hNlb
 have hR1 := hRa.1
 have hR2 := hRa.2.1
 have hR3 := hRb.1
 have hR4 := hRb.2.1
 have hkl1 := Hy fa
 have hkl2 := Hy fb
 refine Ma func83 rfl ntmps83 Jb (Vd _ _) ?_
 have hF := FR.start w0 []
 refine Ka ?_
 refine Sj hF rfl ?_
 clear hF; rintro b1 w hb1 hF -
 refine Sj hF rfl ?_
 clear hF; rintro b2 w hb2 hF -
 refine Ca (Z_ rfl) (Ca (Ec rfl) (Ea (Ia (Ka (Qd (Bm isAgg60 sizeOf60 rfl hF.F 1 rfl rfl) ?_)))))
 refine Db (Yy _ _ la fa Aa Ba ca ea (hF.rep hLa) (hF.rep hNa)) (Eb CB rfl rfl) ?_
 rintro _ w ⟨b, rfl, hb, hE⟩
 obtain rfl : b = true := hb.2 hRa
 replace hF := hF.ext hE
 clear hE
 refine Ca (Oo (b := true) rfl) (Ca (Fd rfl) (Qd (Bm isAgg60 sizeOf60 rfl hF.F 0 rfl rfl) ?_))
 refine Db (Yy _ _ lb fb Ab Bb cb eb (hF.rep hLb) (hF.rep hNb)) (Eb CB rfl rfl) ?_
 rintro _ w ⟨b, rfl, hb, hE⟩
 obtain rfl : b = true := hb.2 hRb
 replace hF := hF.ext hE
 clear hE
 refine Ca (Oo (b := true) rfl) (Ca (Jd rfl rfl) (Ea (Wq rfl (Ia ?_))))
 refine Uf (zs := []) (.free 0 (.free 1 (.free 2 (.free 3 (.free 4 (.act 5 (.free 6 (.act 7 (.free 8 .nil))))))))) hF ?_
 clear hF; intro w hF
 refine Zo rfl (Bm isAgg60 sizeOf60 rfl C0 1 rfl rfl) (Zo rfl (Bm isAgg60 sizeOf60 rfl C0 0 rfl rfl) (Xa rfl (Kc Je rfl) (Zo rfl (Vi isAgg25 rfl C0 1 rfl rfl) (Xa rfl (Qe underlying25 rfl) ?_))))
 refine Sq rfl (v := fun b => .slice (some ⟨b, 0, none⟩) la.length la.length) (o := .cells (List.replicate (la.length) (.slice none 0 0)).toArray 39) hF (U6 (z := .slice none 0 0) Wi Ib rfl rfl rfl by_Om Ra) ?_
 clear hF; rintro b3 w hb3 hF -
 refine ⟨hF.drop 1, ?_⟩
 refine Qa rfl (v := .agg #[.slice Aa la.length ca, .slice Ba fa.length ea, .slice Ab lb.length cb, .slice Bb fb.length eb, .slice (some ⟨b3, 0, none⟩) la.length la.length]) (fun w hC => by kernel_rfl) ?_
 refine Sq rfl (v := fun b => .pointer (some ⟨b, 0, none⟩)) (o := .cells #[.slice Aa la.length ca, .slice Ba fa.length ea, .slice Ab lb.length cb, .slice Bb fb.length eb, .slice (some ⟨b3, 0, none⟩) la.length la.length] 130) hF (EO (v := .agg #[.slice Aa la.length ca, .slice Ba fa.length ea, .slice Ab lb.length cb, .slice Bb fb.length eb, .slice (some ⟨b3, 0, none⟩) la.length la.length]) rfl) ?_
 clear hF; rintro b4 w hb4 hF -
 refine ⟨hF.drop 2, ?_⟩
 refine Xa rfl (Z_ rfl) (Jc (Ha (Ia (Ia ?_))))
 rw [T_ la.length lb.length (fun _ => 0)] at hF
 have hW : RowsOk w0 w 0 lb.length (fun _ => 0) [b4, b3, b2, b1] := ⟨fun k hk => absurd hk by_Om, fun k l hk => absurd hk by_Om, fun k hk => absurd hk by_Om⟩
 refine Da (Ca (De rfl) (Ca (Of rfl) (Ca (Kc Dq rfl) (Qd (Vi isAgg36 rfl hF.F 0 rfl rfl) (Ca (Qe underlying36 rfl) (Ca (Hb rfl) (Ea (Va ?_))))))))
 refine Uc (fun μ σ w => ∃ (i : Nat), ∃ (q : Nat → Nat), μ = la.length - i ∧ (i ≤ la.length) ∧ (RowsOk w0 w i lb.length q [b4, b3, b2, b1]) ∧ AllEq σ [(2, .pointer (some ⟨b1, 0, none⟩)), (3, .pointer (some ⟨b2, 0, none⟩)), (6, .pointer (some ⟨b4, 0, none⟩)), (32, .int .i64 ((la.length : Nat))), (33, .int .i64 ((i : Int)))] ∧ FR w0 [] [(b4, .cells #[.slice Aa la.length ca, .slice Ba fa.length ea, .slice Ab lb.length cb, .slice Bb fb.length eb, .slice (some ⟨b3, 0, none⟩) la.length la.length] 130), (b3, .cells (Ol la.length lb.length (i) q) 39), (b2, .cells #[.slice Ab lb.length cb, .slice Bb fb.length eb] 60), (b1, .cells #[.slice Aa la.length ca, .slice Ba fa.length ea] 60)] w) _ ⟨0, fun _ => 0, rfl, (Nat.zero_le _), (hW), Jr, hF⟩ ?_
 clear hF; rintro μ σ w ⟨i, q, rfl, hi, hW, hs, hF⟩
 refine Cg.slots hs ?_
 clear hs; intro σ
 refine Ka (Ca (Nk rfl rfl) (Ea (Ia ?_)))
 refine Pc rfl rfl (fun hc1 => ?_) (fun hc1 => ?_)
 refine Wa (Ha (Ia (Va (Ka (Ca (Hb rfl) (Ca (Gc rfl) (Ea ?_)))))))
 refine Id [10] (.free 0 (.free 1 (.free 2 (.free 3 (.free 4 (.free 5 (.free 6 (.free 7 (.act 8 (.free 9 (.act 10 .nil))))))))))) hF ?_
 clear hF; intro w hF hE
 replace hW := hW.step hE Ga
 clear hE
 refine ⟨fun wq => FR w0 [] [(b4, .cells #[.slice Aa la.length ca, .slice Ba fa.length ea, .slice Ab lb.length cb, .slice Bb fb.length eb, .slice (some ⟨b3, 0, none⟩) la.length la.length] 130), (b2, .cells #[.slice Ab lb.length cb, .slice Bb fb.length eb] 60), (b1, .cells #[.slice Aa la.length ca, .slice Ba fa.length ea] 60)] wq, hF.sub (.cons_cons _ (.cons _ (.cons_cons _ (.cons_cons _ .slnil)))), ?_⟩
 refine Xa rfl (De rfl) (Xa rfl (Of rfl) (Xa rfl (Kc Dq rfl) (Zo rfl (Vi isAgg36 rfl C0 0 rfl rfl) (Xa rfl (Hb rfl) (Xa rfl (Kc Je rfl) (Zo rfl (Vi isAgg25 rfl C0 1 rfl rfl) (Xa rfl (Qe underlying25 rfl) ?_)))))))
 refine Sq rfl (v := fun b => .slice (some ⟨b, 0, none⟩) lb.length lb.length) (o := .cells (Gb (lb.length) fun _ => 0) 3) hF (Kk Ki Ib rfl rfl by_Om) ?_
 clear hF; intro b5 w hb5 hF hE
 have hq5 : ∀ k, k < i → q k ≠ b5 := fun k hk e => by have h1 := Fa (hW.row k hk); omega
 replace hW := hW.step hE Ga
 clear hE
 refine ⟨hF.sub (.cons _ (.cons_cons _ (.cons _ (.cons_cons _ (.cons_cons _ .slnil))))), ?_⟩
 refine Qa rfl (v := .pointer (some ⟨b3, i, none⟩)) (fun w hC => Ub (i := ((i : Nat) : Int)) (i) Qh rfl rfl by_Om by_Om by_Om) ?_
 refine Ad rfl 2 (l := [.slice (some ⟨b5, 0, none⟩) lb.length lb.length]) (cs' := Ol la.length lb.length (i + 1) (Ve q i b5)) hF sizeOf39 rfl rfl rfl Od rfl (by rw [TB]; simp only [List.length_singleton]; omega) (YF by_Om) ?_
 clear hF; intro w hF hE
 replace hW := hW.step hE Ga
 clear hE
 refine Jc (Mb (Ha (Da (Ca (Qi (((i + 1 : Nat) : Int)) rfl rfl) (Ca (Hb rfl) (Ya ?_))))))
 refine Ic ⟨_, ?_, i + 1, Ve q i b5, rfl, by_Om, (hW.put (hF.heap (i := 0) rfl) (hF.ge (i := 0) rfl) (show b5 ∉ [b4, b3, b2, b1] from FR.new_ids hF) (fun k hk e => hq5 k hk e)), Jr, hF.drop 1⟩
 omega
 refine Nc (Lc rfl ?_)
 refine Ha (Ia (Ia ?_))
 obtain rfl : i = la.length := by omega
 obtain ⟨N0, hN0⟩ : ∃ N, N = w.heap.size := ⟨_, rfl⟩
 have hNw : N0 ≤ w.heap.size := Nat.le_of_eq hN0
 have hb34 : b4 ≠ b3 := by have := (List.pairwise_cons.1 hF.desc).1 _ (List.mem_cons_self ..); exact fun e => this e.symm
 have hsk : ∀ b, b < w0.heap.size → Sk N0 la.length q b := fun b hb => ⟨by have := hF.same.size; omega, fun i hi e => by have := (hW.new i hi).1; omega⟩
 have hlt3 := hF.lt (i := 1) rfl
 have hlt4 := hF.lt (i := 0) rfl
 have hK : Rk w N0 b4 b3 q la fa lb fb Aa Ba Ab Bb ca ea cb eb (fun _ _ => 0) := ⟨hF.heap (i := 0) rfl, (hF.rep hLa.old).weaken (fun b hb _ => hsk b hb.2), (hF.rep hNa.old).weaken (fun b hb _ => hsk b hb.2), (hF.rep hLb.old).weaken (fun b hb _ => hsk b hb.2), (hF.rep hNb.old).weaken (fun b hb _ => hsk b hb.2), ⟨by rw [← AB]; exact hF.heap (i := 1) rfl, hW.row, hW.inj, fun i hi e => (hW.new i hi).2 (by simp [e])⟩, ⟨by omega, by omega, fun i hi => by rw [hN0]; exact Fa (hW.row i hi)⟩, fun i hi e => (hW.new i hi).2 (by simp [e])⟩
 have hqn := hW.new
 refine Da (Qd (Bm isAgg60 sizeOf60 rfl hF.F 3 rfl rfl) ?_)
 refine Db (Zy _ _ la fa Aa Ba ca ea (hF.rep hLa) (hF.rep hNa) hRa) (Eb NH rfl rfl) ?_
 rintro _ w ⟨Ak, ck, rfl, hk_, hE⟩
 have hKa : Rep (fun b => N0 ≤ b) w (.slice (((Hc fa).map fun i : Nat => (i : Int)).map Ze)) [.slice Ak (Hc fa).length ck] := hk_.weaken fun b hb _ => Nat.le_trans hNw hb.1
 replace hF := hF.ext hE
 replace hK := hK.ext hE
 replace hNw := Nat.le_trans hNw hE.size
 clear hE hk_
 refine Ca (Qe underlying39 rfl) (Ca (Hb rfl) (Ea (Va ?_)))
 refine Uc (fun μ σ w => ∃ (s : Nat), ∃ (P : Nat → Nat → Int), μ = (Hc fa).length - s ∧ (s ≤ (Hc fa).length) ∧ (Rk w N0 b4 b3 q la fa lb fb Aa Ba Ab Bb ca ea cb eb P) ∧ (∀ x y, x < fa.length → y < fb.length → Mu fa fb (s) (0) x y → P x y = ((td (Wb la fa) (Wb lb fb) x y : Nat) : Int)) ∧ (Rep (fun b => N0 ≤ b) w (.slice (((Hc fa).map fun i : Nat => (i : Int)).map Ze)) [.slice Ak (Hc fa).length ck]) ∧ (N0 ≤ w.heap.size) ∧ AllEq σ [(2, .pointer (some ⟨b1, 0, none⟩)), (3, .pointer (some ⟨b2, 0, none⟩)), (6, .pointer (some ⟨b4, 0, none⟩)), (48, .slice (Ak) ((Hc fa).length) (ck)), (49, .int .i64 (((Hc fa).length : Nat))), (50, .int .i64 ((s : Int)))] ∧ FR w0 [] [(b4, .cells #[.slice Aa la.length ca, .slice Ba fa.length ea, .slice Ab lb.length cb, .slice Bb fb.length eb, .slice (some ⟨b3, 0, none⟩) la.length la.length] 130), (b3, .cells (Ol la.length lb.length (la.length) q) 39), (b2, .cells #[.slice Ab lb.length cb, .slice Bb fb.length eb] 60), (b1, .cells #[.slice Aa la.length ca, .slice Ba fa.length ea] 60)] w) _ ⟨0, fun _ _ => 0, rfl, (Nat.zero_le _), (hK), (fun x y hx hy h => absurd h YB), (hKa), (hNw), MG, hF⟩ ?_
 clear hF; rintro μ σ w ⟨s, P, rfl, hs_, hK, hkn, hKa, hNw, hs, hF⟩
 refine Cg.slots hs ?_
 clear hs; intro σ
 refine Ka (Ca (Nk rfl rfl) (Ea (Ia ?_)))
 refine Pc rfl rfl (fun hc2 => ?_) (fun hc2 => ?_)
 refine Wa (Ha (Ia (Va (Ia ?_))))
 obtain ⟨k, hkk⟩ : ∃ z, z = (Hc fa)[s] := ⟨_, rfl⟩
 refine Da ?_
 obtain ⟨ad0, hA0, hk0, hx0⟩ := hKa.int_elem (i := s) (by simp only [List.length_map]; omega)
 rw [List.getElem_map, ← hkk] at hk0
 refine Ja (v := .pointer (some (ad0.add (s * 1)))) (Oa (i := (s : Int)) Df rfl hA0 rfl by_Om by_Om) (Ja (v := .int .i64 ((k : Nat))) (Cb isAgg3 rfl hk0) (Ca (Gc rfl) (Cc (Qd (Bm isAgg60 sizeOf60 rfl hF.F 2 rfl rfl) ?_))))
 refine Db (Zy _ _ lb fb Ab Bb cb eb (hF.rep hLb) (hF.rep hNb) hRb) (Eb NH rfl rfl) ?_
 rintro _ w ⟨Al, cl, rfl, hk_, hE⟩
 have hKb : Rep (fun b => N0 ≤ b) w (.slice (((Hc fb).map fun i : Nat => (i : Int)).map Ze)) [.slice Al (Hc fb).length cl] := hk_.weaken fun b hb _ => Nat.le_trans hNw hb.1
 replace hF := hF.ext hE
 replace hK := hK.ext hE
 replace hKa := hKa.ext hE
 replace hNw := Nat.le_trans hNw hE.size
 clear hE hk_
 refine Ca (Qe underlying39 rfl) (Ca (Hb rfl) (Ea (Va ?_)))
 refine Uc (fun μ σ w => ∃ (t : Nat), ∃ (P : Nat → Nat → Int), μ = (Hc fb).length - t ∧ (t ≤ (Hc fb).length) ∧ (Rk w N0 b4 b3 q la fa lb fb Aa Ba Ab Bb ca ea cb eb P) ∧ (∀ x y, x < fa.length → y < fb.length → Mu fa fb (s) (t) x y → P x y = ((td (Wb la fa) (Wb lb fb) x y : Nat) : Int)) ∧ (Rep (fun b => N0 ≤ b) w (.slice (((Hc fa).map fun i : Nat => (i : Int)).map Ze)) [.slice Ak (Hc fa).length ck]) ∧ (Rep (fun b => N0 ≤ b) w (.slice (((Hc fb).map fun i : Nat => (i : Int)).map Ze)) [.slice Al (Hc fb).length cl]) ∧ (N0 ≤ w.heap.size) ∧ AllEq σ [(2, .pointer (some ⟨b1, 0, none⟩)), (3, .pointer (some ⟨b2, 0, none⟩)), (6, .pointer (some ⟨b4, 0, none⟩)), (9, .int .i64 ((k : Nat))), (48, .slice (Ak) ((Hc fa).length) (ck)), (49, .int .i64 (((Hc fa).length : Nat))), (50, .int .i64 ((s : Int))), (55, .slice (Al) ((Hc fb).length) (cl)), (56, .int .i64 (((Hc fb).length : Nat))), (57, .int .i64 ((t : Int)))] ∧ FR w0 [] [(b4, .cells #[.slice Aa la.length ca, .slice Ba fa.length ea, .slice Ab lb.length cb, .slice Bb fb.length eb, .slice (some ⟨b3, 0, none⟩) la.length la.length] 130), (b3, .cells (Ol la.length lb.length (la.length) q) 39), (b2, .cells #[.slice Ab lb.length cb, .slice Bb fb.length eb] 60), (b1, .cells #[.slice Aa la.length ca, .slice Ba fa.length ea] 60)] w) _ ⟨0, P, rfl, (Nat.zero_le _), (hK), (hkn), (hKa), (hKb), (hNw), ⟨rfl, rfl, rfl, rfl, rfl, rfl, rfl, rfl, rfl, rfl, trivial⟩, hF⟩ ?_
 clear hF; rintro μ σ w ⟨t, P, rfl, ht_, hK, hkn, hKa, hKb, hNw, hs, hF⟩
 refine Cg.slots hs ?_
 clear hs; intro σ
 refine Ka (Ca (Nk rfl rfl) (Ea (Ia ?_)))
 refine Pc rfl rfl (fun hc3 => ?_) (fun hc3 => ?_)
 refine Wa (Ha (Ia (Va (Ia ?_))))
 obtain ⟨l, hll⟩ : ∃ z, z = (Hc fb)[t] := ⟨_, rfl⟩
 refine Da ?_
 obtain ⟨ad1, hA1, hk1, hx1⟩ := hKb.int_elem (i := t) (by simp only [List.length_map]; omega)
 rw [List.getElem_map, ← hll] at hk1
 refine Ja (v := .pointer (some (ad1.add (t * 1)))) (Oa (i := (t : Int)) Df rfl hA1 rfl by_Om by_Om) (Ja (v := .int .i64 ((l : Nat))) (Cb isAgg3 rfl hk1) (Ca (Gc rfl) (Ea ?_)))
 have hk_lt := (Ng.1 (List.getElem_mem (l := Hc fa) (n := s) by_Om)).1
 have hl_lt := (Ng.1 (List.getElem_mem (l := Hc fb) (n := t) by_Om)).1
 rw [← hkk] at hk_lt
 rw [← hll] at hl_lt
 obtain ⟨u, hu⟩ : ∃ z, z = Sg fa k := ⟨_, rfl⟩
 obtain ⟨v, hv⟩ : ∃ z, z = Sg fb l := ⟨_, rfl⟩
 have hfu : (u : Int) = fa[k] := by rw [hu]; exact hRa.2.2.at hk_lt hk_lt
 have hfv : (v : Int) = fb[l] := by rw [hv]; exact hRb.2.2.at hl_lt hl_lt
 have huk : u ≤ k := by rw [hu]; exact Nat.min_le_right _ _
 have hvl : v ≤ l := by rw [hv]; exact Nat.min_le_right _ _
 obtain ⟨n, hn⟩ : ∃ z, z = k + 1 - u := ⟨_, rfl⟩
 obtain ⟨m, hm⟩ : ∃ z, z = l + 1 - v := ⟨_, rfl⟩
 have hca : ∀ i, u ≤ i → i < u + n → u ≤ Sg fa i := fun i h1 h2 => by by_cases e : i = k; (subst e; omega); (have := hRa.2.2.nest (Nat.le_refl _) la k hk_lt i (by show Sg fa k ≤ i; omega) by_Om; have e1 : (Wb la fa).lf k = Sg fa k := rfl; have e2 : (Wb la fa).lf i = Sg fa i := rfl; omega)
 have hcb : ∀ j, v ≤ j → j < v + m → v ≤ Sg fb j := fun i h1 h2 => by by_cases e : i = l; (subst e; omega); (have := hRb.2.2.nest (Nat.le_refl _) lb l hl_lt i (by show Sg fb l ≤ i; omega) by_Om; have e1 : (Wb lb fb).lf l = Sg fb l := rfl; have e2 : (Wb lb fb).lf i = Sg fb i := rfl; omega)
 have hP0 : ∀ i j, u ≤ i → i < u + n → v ≤ j → j < v + m → ¬ (Sg fa i = u ∧ Sg fb j = v) → P i j = ((td (Wb la fa) (Wb lb fb) i j : Nat) : Int) := fun i j h1 h2 h3 h4 hne => hkn i j by_Om by_Om (U9 hRa.2.2 hRb.2.2 (u := s) (v := t) by_Om by_Om (by rw [← hkk, ← hu]; exact h1) (by rw [← hkk]; omega) (by rw [← hll, ← hv]; exact h3) (by rw [← hll]; omega) (by rw [← hkk, ← hll, ← hu, ← hv]; exact hne))
 refine Id [] (.free 0 (.free 1 (.free 2 (.free 3 (.free 4 (.free 5 (.free 6 (.free 7 (.free 8 (.free 9 (.free 10 (.free 11 (.free 12 (.free 13 (.free 14 (.act 15 .nil)))))))))))))))) hF ?_
 clear hF; intro w hF hE
 replace hK := hK.ext hE
 replace hKa := hKa.ext hE
 replace hKb := hKb.ext hE
 replace hNw := Nat.le_trans hNw hE.size
 clear hE
 refine ⟨fun wq => FR w0 [] _ wq, hF, ?_⟩
 refine Xa rfl (De rfl) (Xa rfl (Kc Vf rfl) (Zo rfl (Vi isAgg39 rfl C0 3 rfl rfl) (Xa rfl (Hb rfl) ?_)))
 obtain ⟨ad2, hA2, hk2, hx2⟩ := hNa.int_elem (i := k) by_Om
 rw [← hfu] at hk2
 refine Qa rfl (v := .pointer (some (ad2.add (k * 1)))) (fun w hC => Oa (i := (k : Nat)) Df rfl hA2 rfl by_Om by_Om) (Qa rfl (v := .int .i64 ((u : Nat))) (fun w hC => Cb isAgg3 rfl (hC.cell0 hk2)) (Xa rfl (Hb rfl) (Xa rfl (Qi (((u + n : Nat) : Int)) rfl rfl) (Xa rfl (Kc Vf rfl) (Zo rfl (Vi isAgg39 rfl C0 2 rfl rfl) (Xa rfl (Hb rfl) ?_))))))
 obtain ⟨ad3, hA3, hk3, hx3⟩ := hNb.int_elem (i := l) by_Om
 rw [← hfv] at hk3
 refine Qa rfl (v := .pointer (some (ad3.add (l * 1)))) (fun w hC => Oa (i := (l : Nat)) Df rfl hA3 rfl by_Om by_Om) (Qa rfl (v := .int .i64 ((v : Nat))) (fun w hC => Cb isAgg3 rfl (hC.cell0 hk3)) (Xa rfl (Hb rfl) (Xa rfl (Qi (((v + m : Nat) : Int)) rfl rfl) ?_)))
 refine Ke rfl (S7 _ N0 b4 b3 q la fa lb fb Aa Ba Ab Bb ca ea cb eb P hK u n v m hNw by_Om by_Om by_Om by_Om hRa.2.2 hRb.2.2 by_Om by_Om hca hcb hP0) (Ou KO rfl rfl rfl rfl rfl rfl) ?_
 rintro _ w ⟨gb, gc, f, P', rfl, -, -, -, hK', hPr, hPo, -, -, hE⟩
 have hrw : ∀ b ∈ Rows q la.length, ¬ N0 ≤ b := fun b hb h => by obtain ⟨i, hi, rfl⟩ := Ej.1 hb; have := hK.lt.2.2 i hi; omega
 replace hF := hF.touch hE (fun b hb => by obtain ⟨i, hi, rfl⟩ := Ej.1 hb; refine ⟨fun h => absurd (hqn i hi).1 by_Om, fun z hz e => (hqn i hi).2 ?_⟩; rw [← e]; simp only [List.mem_cons, List.not_mem_nil, or_false] at hz; rcases hz with rfl | rfl | rfl | rfl <;> simp)
 replace hKa := hKa.same hE hrw
 replace hKb := hKb.same hE hrw
 replace hNw := Nat.le_trans hNw hE.size
 clear hK
 have hK := hK'
 clear hE hK'
 refine ⟨hF, ?_⟩
 refine Jc (Mb (Ha (Da (Ca (Qi (((t + 1 : Nat) : Int)) rfl rfl) (Ca (Hb rfl) (Ya ?_))))))
 refine Ic ⟨_, ?_, t + 1, P', rfl, by_Om, (hK), (fun x y hx hy hxy => by (by_cases hr : Rt fa fb u n v m x y); (exact hPr x y hr); (rw [hPo x y hr]; rcases O_ by_Om by_Om hxy with h1 | ⟨h1, h2⟩; (exact hkn x y hx hy h1); (exfalso; rw [← hkk, ← hu] at h1; rw [← hll, ← hv] at h2; have q1 := G8 hRa.2.2 (k := k) (by rw [hkk]; exact List.getElem_mem _) hx (by rw [h1, hu]); have q2 := G8 hRb.2.2 (k := l) (by rw [hll]; exact List.getElem_mem _) hy (by rw [h2, hv]); exact hr ⟨by omega, by omega, by omega, by omega, h1, h2⟩))), (hKa), (hKb), (hNw), ⟨rfl, rfl, rfl, rfl, rfl, rfl, rfl, rfl, rfl, rfl, trivial⟩, hF⟩
 omega
 refine Nc (Lc rfl ?_)
 refine Mb (Ha (Da (Ca (Qi (((s + 1 : Nat) : Int)) rfl rfl) (Ca (Hb rfl) (Ya ?_)))))
 refine Ic ⟨_, ?_, s + 1, P, rfl, by_Om, (hK), (fun x y hx hy h => hkn x y hx hy (by obtain rfl : t = (Hc fb).length := by_Om; exact QF by_Om hy hRb.2.2 h)), (hKa), (hNw), MG, hF⟩
 omega
 refine Nc (Lc rfl ?_)
 refine Ha (Ka (Ca (De rfl) (Ca (Z_ rfl) (Ca (Ec rfl) (Ea ?_)))))
 refine Fc (Bc (Za (Ye (v := .pointer _) (x := .bool true) rfl rfl rfl) ?_))
 obtain rfl : s = (Hc fa).length := by omega
 exact ⟨N0, b4, b3, q, P, rfl, hK, fun x y hx hy => hkn x y by_Om by_Om (IF hRa.2.2 by_Om), hNw, fun i hi => (hqn i hi).1, hF.same⟩
end Go.Scarf
namespace Go.Scarf
open Go.RowKit Go.Proofs Go.Proofs.Tryz
theorem CA (w0 : World) (N0 rb pb : Nat) (q : Nat → Nat) (la : List Str) (fa : List Int) (lb : List Str) (fb : List Int) (Aa Ba Ab Bb : Option Addr) (k1 k2 k3 k4 : Nat) (P0 : Nat → Nat → Int) (hK : Rk w0 N0 rb pb q la fa lb fb Aa Ba Ab Bb k1 k2 k3 k4 P0) (hN0 : N0 ≤ w0.heap.size) (hRa : Yf la fa) (hRb : Yf lb fb) (hP : ∀ x y, x < la.length → y < lb.length → P0 x y = ((td (Wb la fa) (Wb lb fb) x y : Nat) : Int)) :
    Calls prog 84 #[.pointer (some ⟨rb, 0, none⟩), .int .i64 0, .int .i64 (la.length : Nat), .int .i64 0, .int .i64 (lb.length : Nat)] w0 (Rd fun v w' => ∃ (gb gc : Nat) (f : Nat → Int), v = .pointer (some ⟨gb, 0, none⟩) ∧ w'.heap[gb]? = some (.cells #[.int .i64 ((lb.length + 1 : Nat) : Int), .slice (some ⟨gc, 0, none⟩) ((la.length + 1) * (lb.length + 1)) ((la.length + 1) * (lb.length + 1))] 134) ∧ w'.heap[gc]? = some (.cells (Gb ((la.length + 1) * (lb.length + 1)) f) 3) ∧ f (gi lb.length la.length lb.length) = ((Nl la fa lb fb : Nat) : Int) ∧ Same (Rows q la.length) w0 w') := by
  have h := S7 w0 N0 rb pb q la fa lb fb Aa Ba Ab Bb k1 k2 k3 k4 P0 hK 0 la.length 0 lb.length hN0 hRa.1 hRb.1 hRa.2.1 hRb.2.1 hRa.2.2 hRb.2.2 by_Om by_Om (fun i _ _ => Nat.zero_le _) (fun j _ _ => Nat.zero_le _) (fun i j _ h1 _ h2 _ => hP i j by_Om by_Om)
  simp only [Nat.zero_add] at h
  refine h.mono ?_
  rintro e w' ⟨v, he, gb, gc, f, P, hv, hg, hc, hf, -, -, -, -, -, hs⟩
  refine ⟨v, he, gb, gc, f, hv, hg, hc, ?_, hs⟩
  rw [hf]
  unfold L_ Nl
  rw [Nat.zero_add, Nat.zero_add]
theorem I0 (S S' : Nat → Prop) (w0 : World) (la : List Str) (fa : List Int) (Aa Ba : Option Addr) (ca ea : Nat) (hLa : Rep S w0 (Gf la) [.slice Aa la.length ca]) (hNa : Rep S w0 (.slice (fa.map Ze)) [.slice Ba fa.length ea]) (lb : List Str) (fb : List Int) (Ab Bb : Option Addr) (cb eb : Nat) (hLb : Rep S' w0 (Gf lb) [.slice Ab lb.length cb]) (hNb : Rep S' w0 (.slice (fb.map Ze)) [.slice Bb fb.length eb]) (hRa : Yf la fa) (hRb : Yf lb fb) : Calls prog 56 #[.agg #[.slice Aa la.length ca, .slice Ba fa.length ea], .agg #[.slice Ab lb.length cb, .slice Bb fb.length eb]] w0 (Rd fun v w' => v = .tuple #[.int .i64 ((Nl la fa lb fb : Nat) : Int), .int .i64 0] ∧ Same [] w0 w') := by
 have hLla := hLa.slice_len
 have hNla := hNa.slice_len
 rw [List.length_map] at hLla hNla
 have hLlb := hLb.slice_len
 have hNlb := hNb.slice_len
 rw [List.length_map] at hLlb hNlb
 have hR1 := hRa.1
 have hR2 := hRa.2.1
 have hR3 := hRb.1
 have hR4 := hRb.2.1
 refine Ma func56 rfl ntmps56 Jb (Vd _ _) ?_
 have hF := FR.start w0 []
 refine Ka ?_
 refine Sj hF rfl ?_
 clear hF; rintro b1 w hb1 hF -
 refine Sj hF rfl ?_
 clear hF; rintro b2 w hb2 hF -
 refine Ca (Gc rfl) (Ca (Gc rfl) (Cc (Qd (Bm isAgg60 sizeOf60 rfl hF.F 1 rfl rfl) (Qd (Bm isAgg60 sizeOf60 rfl hF.F 0 rfl rfl) ?_))))
 refine Db (W4 _ _ _ la fa Aa Ba ca ea (hF.rep hLa) (hF.rep hNa) lb fb Ab Bb cb eb (hF.rep hLb) (hF.rep hNb) hRa hRb) (Qb BT rfl rfl rfl) ?_
 rintro _ w ⟨N0, rb, pb, q, P, rfl, hK, hP, hNw, hqn, hE⟩
 have hqn0 : ∀ i, i < la.length → w0.heap.size ≤ q i := fun i hi => Nat.le_trans hF.same.size (hqn i hi)
 have hqn1 : ∀ i, i < la.length → ∀ z ∈ [b2, b1], q i ≠ z := fun i hi z hz e => by have := hqn i hi; simp only [List.mem_cons, List.not_mem_nil, or_false] at hz; rcases hz with rfl | rfl; (have := hF.lt (i := 0) rfl; omega); (have := hF.lt (i := 1) rfl; omega)
 replace hF := hF.ext hE
 clear hE hqn
 refine Ca (Xm rfl) (Ca (BV rfl rfl) (Ca (Ar rfl rfl) (Ca (Z_ rfl) (Ca (Ec rfl) (Ea (Ia (Ka (Ca (Fd rfl) (Ca (Oo (b := true) rfl) (Ea ?_))))))))))
 refine Wq rfl (Ia ?_)
 refine Id [] (.free 0 (.free 1 (.free 2 (.free 3 (.free 4 (.free 5 (.free 6 (.free 7 .nil)))))))) hF ?_
 clear hF; intro w hF hE
 replace hK := hK.ext hE
 replace hNw := Nat.le_trans hNw hE.size
 clear hE
 refine ⟨fun wq => FR w0 [] _ wq, hF, ?_⟩
 refine Xa rfl (Kc Je rfl) (Zo rfl (Vi isAgg25 rfl C0 1 rfl rfl) (Xa rfl (Qe underlying25 rfl) (Xa rfl (Kc Je rfl) (Zo rfl (Vi isAgg25 rfl C0 0 rfl rfl) (Xa rfl (Qe underlying25 rfl) (Xa rfl (Gc rfl) (Xa rfl (Gc rfl) (Jc (Ha (Ka (Ca (De rfl) (Ca (Hb rfl) ?_))))))))))))
 refine Ca (Hb rfl) ?_
 refine Db (CA _ N0 rb pb q la fa lb fb Aa Ba Ab Bb ca ea cb eb P hK hNw hRa hRb hP) (Ou KO rfl rfl rfl rfl rfl rfl) ?_
 rintro _ w ⟨gb, gc, f, rfl, hg, hc, hfv, hE⟩
 replace hF := hF.touch hE (fun b hb => by obtain ⟨i, hi, rfl⟩ := Ej.1 hb; refine ⟨fun h => absurd (hqn0 i hi) by_Om, fun z hz e => hqn1 i hi z.1 ?_ e.symm⟩; simp only [List.mem_cons, List.not_mem_nil, or_false] at hz; rcases hz with rfl | rfl <;> simp)
 clear hE
 refine Ca (Hb rfl) (Ca (Zu ((la.length : Int) - 1) rfl rfl) (Ca (Hb rfl) (Ca (Zu ((lb.length : Int) - 1) rfl rfl) ?_)))
 refine Db (Tp _ gb gc la.length lb.length la.length lb.length _ _ by_Om by_Om hg (Nat.le_refl _) (Nat.le_refl _) by_Om by_Om) (Dc Yp rfl rfl rfl rfl) ?_
 rintro _ w ⟨rfl, hE⟩
 replace hF := hF.ext hE
 replace hg := (hE.block gb (Fa hg) Ga).trans hg
 replace hc := (hE.block gc (Fa hc) Ga).trans hc
 clear hE
 refine Ca (Of rfl) ?_
 refine Ja (v := .int .i64 ((Nl la fa lb fb : Nat))) (Cb isAgg3 rfl (by rw [Ob hc, El (Mp (Nat.le_refl _) (Nat.le_refl _)), hfv])) ?_
 refine Ca (Gc rfl) (Ca (Gc rfl) (Ea ?_))
 refine Fc (Bc (Za (Ye (v := .int .i64 ((Nl la fa lb fb : Nat))) (x := .int .i64 0) rfl rfl rfl) ?_))
 exact ⟨rfl, hF.same⟩
end Go.Scarf
