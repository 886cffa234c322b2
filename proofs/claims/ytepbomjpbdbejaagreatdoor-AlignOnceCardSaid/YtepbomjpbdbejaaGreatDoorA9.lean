/- A part of the proof. -/
import Derived.Test.YtepbomjpbdbejaaGreatDoorA7
import Derived.Test.YtepbomjpbdbejaaGreatDoorW19
import Derived.Test.YtepbomjpbdbejaaGreatDoorW10
set_option linter.all false
set_option maxHeartbeats 8000000
set_option maxRecDepth 10000
namespace Go.Scarf
open Go.RowKit Go.Proofs Go.Proofs.Tryz
def RiseN (n size : Nat) : Nat → Nat → List (Nat × Nat) → Prop
  | _, j, [] => j ≤ size
  | k, j, z :: m => k ≤ z.1 ∧ z.1 < n ∧ j ≤ z.2 ∧ z.2 < size ∧ RiseN n size (z.1 + 1) (z.2 + 1) m
def Ty : List (Nat × Nat) → Nat → Nat → Nat
  | [], j, _ => j
  | z :: m, j, k => if k ≤ z.1 then j else Ty m (z.2 + 1) k
theorem G8 {n size : Nat} : ∀ {m : List (Nat × Nat)} {k0 j k : Nat}, RiseN n size k0 j m → k ≤ k0 → Ty m j k = j
  | [], _, _, _, _, _ => rfl
  | z :: m, k0, j, k, h, hk => by rw [Ty, if_pos (by have := h.1; omega)]
theorem K6 {n size : Nat} : ∀ {m : List (Nat × Nat)} {k0 j k : Nat}, RiseN n size k0 j m → Ty m j k ≤ size
  | [], _, _, _, h => h
  | z :: m, k0, j, k, h => by
    obtain ⟨h1, h2, h3, h4, h5⟩ := h
    rw [Ty]
    split
    · omega
    · exact K6 h5
theorem Yv {n size : Nat} : ∀ {m : List (Nat × Nat)} {k0 j k : Nat} {f : Nat → Int}, RiseN n size k0 j m → k < k0 → Fk m f k = f k
  | [], _, _, _, _, _, _ => rfl
  | z :: m, k0, j, k, f, h, hk => by
    have h1 := h.1
    rw [Fk, Yv h.2.2.2.2 by_Om, On by_Om]
theorem Ms {n size : Nat} : ∀ {m : List (Nat × Nat)} {k0 j k : Nat} {gp : Nat → List Int}, RiseN n size k0 j m → k < k0 → k ≠ n → Ed n size m j gp k = gp k
  | [], _, _, _, _, _, _, hn => by rw [Ed, Vg hn]
  | z :: m, k0, j, k, gp, h, hk, hn => by
    have h1 := h.1
    rw [Ed, Ms h.2.2.2.2 by_Om hn, Vg by_Om]
theorem Z3 {n size : Nat} : ∀ (m : List (Nat × Nat)) (k0 j : Nat) (gp : Nat → List Int) (f : Nat → Int), RiseN n size k0 j m → k0 ≤ n → (∀ k, k0 ≤ k → gp k = []) → (∀ k, k0 ≤ k → f k = -1) →
    (∀ k, k0 ≤ k → k < n → ((∃ b : Nat, Fk m f k = (b : Int) ∧ Ed n size m j gp k = rng (Ty m j k) b ∧ Ty m j (k + 1) = b + 1 ∧ Ty m j k ≤ b) ∨ (Fk m f k = -1 ∧ Ed n size m j gp k = [] ∧ Ty m j (k + 1) = Ty m j k))) ∧
    Ed n size m j gp n = rng (Ty m j n) size ∧ Ty m j n ≤ size
  | [], k0, j, gp, f, h, hk0, hg, hf => by
    refine ⟨fun k hk hkn => .inr ⟨hf k hk, by rw [Ed, Vg by_Om]; exact hg k hk, rfl⟩, ?_, h⟩
    rw [Ed, Hj, hg n hk0]; rfl
  | z :: m, k0, j, gp, f, h, hk0, hg, hf => by
    obtain ⟨h1, h2, h3, h4, h5⟩ := h
    have hg' : ∀ k, z.1 + 1 ≤ k → Y5 gp z.1 (gp z.1 ++ rng j z.2) k = [] := fun k hk => by rw [Vg by_Om]; exact hg k by_Om
    have hf' : ∀ k, z.1 + 1 ≤ k → Je f z.1 (z.2 : Int) k = -1 := fun k hk => by rw [On by_Om]; exact hf k by_Om
    obtain ⟨i1, i2, i3⟩ := Z3 m (z.1 + 1) (z.2 + 1) _ _ h5 by_Om hg' hf'
    have ha : ∀ k, z.1 < k → Ty (z :: m) j k = Ty m (z.2 + 1) k := fun k hk => by rw [Ty, if_neg by_Om]
    refine ⟨fun k hk hkn => ?_, by rw [Ed, i2, ha n h2], by rw [ha n h2]; exact i3⟩
    rw [Fk, Ed]
    rcases Nat.lt_trichotomy k z.1 with hlt | heq | hgt
    · refine .inr ⟨?_, ?_, ?_⟩
      · rw [Yv h5 by_Om, On by_Om]; exact hf k hk
      · rw [Ms h5 by_Om by_Om, Vg by_Om]; exact hg k hk
      · rw [Ty, Ty, if_pos by_Om, if_pos by_Om]
    · subst heq
      refine .inl ⟨z.2, ?_, ?_, ?_, ?_⟩
      · rw [Yv h5 by_Om, Cp]
      · rw [Ms h5 by_Om by_Om, Hj, hg _ hk, Ty, if_pos by_Om]; rfl
      · rw [ha _ by_Om, G8 h5 (Nat.le_refl _)]
      · rw [Ty, if_pos by_Om]; exact h3
    · rw [ha k hgt, ha (k + 1) by_Om]
      exact i1 k by_Om hkn
theorem Sw {n size : Int} : ∀ (m : List (Int × Int)) (z : Int × Int), Om n z m = true → (∀ w, (z :: m).getLast? = some w → w.2 < size) → z.2 < size
  | [], z, _, h => h z rfl
  | u :: m, z, hr, h => by
    rw [Om] at hr
    simp only [Bool.and_eq_true, Bool.not_eq_true', Bool.or_eq_false_iff, decide_eq_false_iff_not] at hr
    have := Sw m u hr.2 (fun w hw => h w (by rw [List.getLast?_cons_cons]; exact hw))
    omega
theorem Ct {n : Nat} {size : Int} : ∀ (m : List (Int × Int)) (x y : Int), -1 ≤ x → -1 ≤ y → y < size → Om n (x, y) m = true → (∀ z, m.getLast? = some z → z.2 < size) → ∃ mp : List (Nat × Nat), m = Hc mp ∧ RiseN n size.toNat (x + 1).toNat (y + 1).toNat mp
  | [], x, y, hx, hy, hys, _, _ => ⟨[], rfl, by show (y + 1).toNat ≤ size.toNat; omega⟩
  | z :: m, x, y, hx, hy, hys, h, hl => by
    rw [Om] at h
    simp only [Bool.and_eq_true, Bool.not_eq_true', Bool.or_eq_false_iff, decide_eq_false_iff_not] at h
    obtain ⟨⟨h1, h2, h3⟩, h4⟩ := h
    have hz : z.2 < size := Sw m z h4 hl
    obtain ⟨mp, rfl, hr⟩ := Ct m z.1 z.2 by_Om by_Om hz h4 (fun w hw => by
      cases m with
      | nil => cases hw
      | cons u m => exact hl w (by rw [List.getLast?_cons_cons]; exact hw))
    refine ⟨(z.1.toNat, z.2.toNat) :: mp, ?_, ?_⟩
    · show z :: Hc mp = ((z.1.toNat : Int), (z.2.toNat : Int)) :: Hc mp
      rw [show ((z.1.toNat : Int), (z.2.toNat : Int)) = z from Prod.ext (by show (z.1.toNat : Int) = z.1; omega) (by show (z.2.toNat : Int) = z.2; omega)]
    · refine ⟨by show (x + 1).toNat ≤ z.1.toNat; omega, by show z.1.toNat < n; omega, by show (y + 1).toNat ≤ z.2.toNat; omega, by show z.2.toNat < size.toNat; omega, ?_⟩
      show RiseN n size.toNat (z.1.toNat + 1) (z.2.toNat + 1) mp
      rw [show z.1.toNat + 1 = (z.1 + 1).toNat by omega, show z.2.toNat + 1 = (z.2 + 1).toNat by omega]; exact hr
theorem RiseN.all {n size : Nat} : ∀ {m : List (Nat × Nat)} {k j : Nat}, RiseN n size k j m → ∀ z ∈ m, z.1 < n ∧ z.2 < size
  | [], _, _, _, z, hz => by cases hz
  | y :: m, _, _, h, z, hz => by
    rcases List.mem_cons.1 hz with rfl | hz
    · exact ⟨h.2.1, h.2.2.2.1⟩
    · exact RiseN.all h.2.2.2.2 z hz
theorem V4 {n size : Int} {m : List (Int × Int)} (h : Ul n m size = true) : ∃ (k s : Nat) (mp : List (Nat × Nat)), n = (k : Int) ∧ size = (s : Int) ∧ k ≤ 64 ∧ s ≤ 64 ∧ m = Hc mp ∧ RiseN k s 0 0 mp ∧ Ph k (Hc mp) = true ∧ Rl k (Hc mp) = true := by
  unfold Ul at h
  simp only [Bool.and_eq_true, Bool.not_eq_true', decide_eq_false_iff_not] at h
  obtain ⟨h1, h2, h3, h4⟩ := h
  have h1' := h1
  unfold Ph at h1'
  simp only [Bool.and_eq_true, decide_eq_true_eq] at h1'
  obtain ⟨k, rfl⟩ : ∃ k : Nat, n = (k : Int) := ⟨n.toNat, by omega⟩
  obtain ⟨s, rfl⟩ : ∃ k : Nat, size = (k : Int) := ⟨size.toNat, by omega⟩
  have hl : ∀ z, m.getLast? = some z → z.2 < (s : Int) := fun z hz => by
    rw [hz] at h4
    simp only [Bool.not_eq_true', decide_eq_false_iff_not] at h4
    omega
  obtain ⟨mp, rfl, hr⟩ := Ct (n := k) (size := (s : Int)) m (-1) (-1) by_Om by_Om by_Om h1'.1 hl
  refine ⟨k, s, mp, rfl, rfl, by omega, by omega, rfl, hr, h1, ?_⟩
  unfold Rl
  rw [h1]
  cases hg : (Hc mp).getLast? with
  | none => rfl
  | some z => have := hl z hg; simp only [Bool.true_and, Bool.not_eq_true', decide_eq_false_iff_not]; omega
theorem TE {a b i : Nat} (h : i < (rng a b).length) : (rng a b)[i] = (a : Int) + i := by
  simp [rng]
end Go.Scarf
namespace Go.Scarf
open Go.RowKit Go.Proofs Go.Proofs.Tryz
theorem Rep.gap_elem {S : Nat → Prop} {w : World} {N : Nat} {gp : Nat → List Int} {A : Option Addr} {len c : Nat} (h : Rep S w (Pr N gp) [.slice A len c]) {i : Nat} (hi : i < N) :
    ∃ ad B e, A = some ad ∧ w.cell? (ad.add (i * 1)) = some (.slice B (gp i).length e) ∧ Rep S w (.slice ((gp i).map Ke)) [.slice B (gp i).length e] := by
  obtain ⟨ad, v, hA, hc, hr⟩ := Rep.elem1 h (fun d hd => by obtain ⟨k, _, rfl⟩ := List.mem_map.1 hd; rfl) (i := i) (by simpa using hi)
  rw [List.getElem_map, List.getElem_range] at hr
  obtain ⟨B, e, he⟩ := Rep.slice_is hr
  rw [List.length_map] at he
  subst he
  exact ⟨ad, B, e, hA, hc, hr⟩
def PF (q : UInt8) : Tree := .node 3 [q] [] []
def DJ : List Tree := [PF 49, PF 50, PF 51]
def FJ : List Tree := [PF 49, PF 51]
theorem E4 (q : UInt8) : Ls (PF q) := ⟨KD _ (by simp [PF, Tv, Sq]), by simp [PF, Nc, Rc], by simp [PF, If, Yj, Vk]⟩
theorem Xo : G4 0 0 (DJ.map Jh) (FJ.map Jh) = Hc [(0, 0), (2, 1)] ∧ al Yl pN (DJ.map Jh) (FJ.map Jh) = 1 ∧ Cm DJ = 0 ∧ Cm FJ = 0 := ⟨by kernel_rfl, by kernel_rfl, by kernel_rfl, by kernel_rfl⟩
theorem Mq {w0 w : World} {bs_ : List (Nat × Obj)} (hG : Gl w0) (hF : FR w0 [] bs_ w) {a b : Nat} (i : Nat) (ha : bs_[i]? = some (a, .cells #[.int .i64 3, .string (bs [49]), .slice none 0 0, .slice none 0 0, .int .i64 3, .string (bs [50]), .slice none 0 0, .slice none 0 0, .int .i64 3, .string (bs [51]), .slice none 0 0, .slice none 0 0] 27)) (j : Nat) (hb : bs_[j]? = some (b, .cells #[.int .i64 3, .string (bs [49]), .slice none 0 0, .slice none 0 0, .int .i64 3, .string (bs [51]), .slice none 0 0, .slice none 0 0] 27)) :
    Calls prog 11 #[.slice (some ⟨a, 0, none⟩) 3 3, .slice (some ⟨b, 0, none⟩) 2 2] w (Kd fun v w' => ∃ (Az : Option Addr) (cz : Nat), v = .tuple #[.slice Az 2 cz, .int .i64 1, .int .i64 0] ∧ Rep (fun _ => True) w' (Tg (Hc [(0, 0), (2, 1)])) [.slice Az 2 cz] ∧ Same [] w w') := by
  have hx : RX w0 [] w [.slice (Ee DJ)] [.slice (some ⟨a, 0, none⟩) 3 3] := hF.rowX (ids := []) i ha (RX.append (ds := [_]) (RX.num [49] Fa) (RX.append (ds := [_]) (RX.num [50] Fa) (RX.num [51] Fa))) Fa rfl by_Om
  have hy : RX w0 [] w [.slice (Ee FJ)] [.slice (some ⟨b, 0, none⟩) 2 2] := hF.rowX (ids := []) j hb (RX.append (ds := [_]) (RX.num [49] Fa) (RX.num [51] Fa)) Fa rfl by_Om
  have h := JA _ _ w (hG.ext hF.same) DJ FJ _ _ 3 2 hx.rep hy.rep (fun z hz => by simp only [DJ, List.mem_cons, List.not_mem_nil, or_false] at hz; rcases hz with rfl | rfl | rfl <;> exact E4 _) (fun z hz => by simp only [FJ, List.mem_cons, List.not_mem_nil, or_false] at hz; rcases hz with rfl | rfl <;> exact E4 _) _ _ rfl rfl Xo.2.2.1 Xo.2.2.2
  rw [Xo.1, Xo.2.1] at h
  exact Sh h fun v w' ⟨Az, cz, hv, hr, hs⟩ => ⟨Az, cz, hv, hr.weaken fun _ _ _ => trivial, hs⟩
theorem Kk {w0 w : World} {bs_ : List (Nat × Obj)} (hF : FR w0 [] bs_ w) {b : Nat} (m : List (Nat × Nat)) (hm : ∀ z ∈ m, z.1 ≤ 1000 ∧ z.2 ≤ 1000) (hl : m.length ≤ 1000) (i : Nat) (hb : bs_[i]? = some (b, .cells (Rs (Hc m)).toArray 49)) : Rep (GJ w0 [] w) w (Tg (Hc m)) [.slice (some ⟨b, 0, none⟩) m.length m.length] :=
  (hF.rowX (ids := []) i hb (RX.plain fun _ => Yo fun z hz => by obtain ⟨y, hy, rfl⟩ := List.mem_map.1 hz; have := hm y hy; simp only; omega) Fa (by simp [Hc]) by_Om).rep
theorem Qi {w0 w : World} {bs_ : List (Nat × Obj)} (hF : FR w0 [] bs_ w) {b : Nat} (l : List Int) (hm : ∀ z ∈ l, -1000 ≤ z ∧ z ≤ 1000) (hl : l.length ≤ 1000) (i : Nat) (hb : bs_[i]? = some (b, .cells (l.map fun s => Value.int .i64 s).toArray 3)) : Rep (GJ w0 [] w) w (.slice (l.map Ke)) [.slice (some ⟨b, 0, none⟩) l.length l.length] :=
  (hF.rowX (ids := []) i hb (RX.plain fun _ => Lk fun z hz => by have := hm z hz; omega) Fa Fa by_Om).rep
theorem Is (w0 : World) (hG : Gl w0) : Calls prog 8 #[] w0 (Kd fun v w' => v = .bool true ∧ Same [] w0 w') := by
 refine Ka func8 rfl ntmps8 Jb (PB) ?_
 have hF := FR.start w0 []
 refine Ma (Ca (Gc rfl) (Dc ?_))
 refine Pb hF (Sf (v' := .agg #[.int .i64 3, .string (bs [49]), .slice none 0 0, .slice none 0 0]) (O1 1 by_Om by_Om _ (hG.ext hF.same)) Db) (Ib R1 rfl rfl) ?_
 clear hF; intro w hF
 refine Km hF zeroValue27 sizeOf27 rfl ?_
 clear hF; rintro b1 w hb1 hF -
 refine Ha (Ia ?_)
 refine Kg (zs := []) (.free 0 (.free 4 (.act 1 (.act 2 (.alt 3 (.act 5 (.act 6 (.act 7 (.free 8 (.free 9 (.free 10 (.free 11 (.free 12 (.free 13 (.free 14 .nil)))))))))) (.act 5 (.alt 3 (.act 6 (.act 7 (.free 8 (.free 9 (.free 10 (.free 11 (.free 12 (.free 13 (.free 14 .nil))))))))) (.act 6 (.act 3 (.act 7 (.free 8 (.free 9 (.free 10 (.free 11 (.free 12 (.free 13 (.free 14 .nil))))))))))))))))) hF ?_
 clear hF; intro w hF
 refine Tn rfl (Pk isAgg27 sizeOf27 rfl C0 0 rfl rfl) (Tn rfl (Pk isAgg27 sizeOf27 rfl C0 0 rfl rfl) ?_)
 refine Hp hF (Sf (v' := .agg #[.int .i64 3, .string (bs [50]), .slice none 0 0, .slice none 0 0]) (O1 2 by_Om by_Om _ (hG.ext hF.same)) Db) rfl (Ib R1 rfl rfl) ?_
 clear hF; intro w hF
 refine ⟨hF, ?_⟩
 refine Hp hF (Sf (v' := .agg #[.int .i64 3, .string (bs [51]), .slice none 0 0, .slice none 0 0]) (O1 3 by_Om by_Om _ (hG.ext hF.same)) Db) rfl (Ib R1 rfl rfl) ?_
 clear hF; intro w hF
 refine ⟨hF, ?_⟩
 refine Hi ?_ ?_
 refine Gd 3 rfl hF (Ta (cs := #[.int .i64 3, .string (bs [49]), .slice none 0 0, .slice none 0 0, .int .i64 3, .string (bs [50]), .slice none 0 0, .slice none 0 0, .int .i64 3, .string (bs [51]), .slice none 0 0, .slice none 0 0]) underlying22 sizeOf27 zeroValue27 Qa Qa Db) ?_
 clear hF; rintro b2 w hb2 hF -
 refine ⟨hF.drop 1, ?_⟩
 refine Hp hF (Sf (v' := .agg #[.int .i64 3, .string (bs [51]), .slice none 0 0, .slice none 0 0]) (O1 3 by_Om by_Om _ (hG.ext hF.same)) Db) rfl (Ib R1 rfl rfl) ?_
 clear hF; intro w hF
 refine ⟨hF.drop 1, ?_⟩
 refine Gd 2 rfl hF (Ta (cs := #[.int .i64 3, .string (bs [49]), .slice none 0 0, .slice none 0 0, .int .i64 3, .string (bs [51]), .slice none 0 0, .slice none 0 0]) underlying22 sizeOf27 zeroValue27 Qa Qa Db) ?_
 clear hF; rintro b3 w hb3 hF -
 refine ⟨hF.drop 2, ?_⟩
 refine De rfl (Mq hG hF 1 rfl 0 rfl) (Kb WC rfl rfl rfl) ?_
 rintro _ w ⟨Az, cz, rfl, hM, hE⟩
 replace hF := hF.ext hE
 clear hE
 refine ⟨hF.drop 2, ?_⟩
 refine Eb rfl (Hn rfl) (Eb rfl (O4 rfl rfl) (Eb rfl (At rfl rfl) (Eb rfl (At rfl rfl) (Eb rfl (Ji rfl) (Eb rfl (Qc rfl) (Eb rfl (Qc rfl) (Cc (Ga (Ma ?_)))))))))
 refine Ja (w' := w) (v := .agg #[.int .i64 0, .int .i64 1]) Db ?_
 refine Hf 1 hF (Ta (cs := #[.int .i64 0, .int .i64 1]) underlying29 sizeOf49 zeroValue49 Qa Qa Db) ?_
 clear hF; intro b4 w hb4 hF hE
 replace hM := hM.ext hE
 clear hE
 refine Cb (Mr _ _ 2 [(0, 1)] _ _ (Kk hF [(0, 1)] Fa Fa 0 rfl) Db by_Om Fa 3 by_Om Fa) (Bc G2 rfl rfl rfl rfl) ?_
 rintro _ w ⟨og, rfl, hO, hE⟩
 replace hM := hM.ext hE
 replace hF := hF.ext hE
 have hO : Rep (fun _ => True) w (Pr 3 (Ed 2 3 [(0, 1)] 0 fun _ => [])) [.slice (some ⟨og, 0, none⟩) 3 3] := hO.weaken fun _ _ _ => trivial
 clear hE
 refine Ca (Hn rfl) (Ca (O4 rfl rfl) (Ca (Dp rfl rfl) (Ca (Ji rfl) (Ca (Gc rfl) (Dc (Ca (Ae rfl) ?_))))))
 refine Cb (Mm _ _ 3 [(0, 0), (2, 1)] _ _ hM Db by_Om Fa Fa) (Kb L2 rfl rfl rfl) ?_
 rintro _ w ⟨oi, rfl, hI, hE⟩
 replace hM := hM.ext hE
 replace hO := hO.ext hE
 replace hF := hF.ext hE
 have hI : Rep (fun _ => True) w (.slice (((List.range 3).map (Fk [(0, 0), (2, 1)] fun _ => -1)).map Ke)) [.slice (some ⟨oi, 0, none⟩) 3 3] := hI.weaken fun _ _ _ => trivial
 clear hE
 refine Ca (Hn rfl) (Ca (O4 rfl rfl) (Ca (Dp rfl rfl) (Ca (Ji rfl) (Ca (Gc rfl) (Dc (Ca (Hb rfl) (Ja (v := .bool true) (Pe (Nh rfl rfl) Qa) (Ca (Ud rfl) (Ca (Hb rfl) (Ja (v := .bool true) (Pe (Nh rfl rfl) Qa) ?_))))))))))
 refine Ca (Xc rfl rfl) (Ca (Ud rfl) (Ca (Ae rfl) ?_))
 refine Ja (w' := w) (v := .agg #[.int .i64 0, .int .i64 0]) Db ?_
 refine Ja (w' := w) (v := .agg #[.int .i64 2, .int .i64 1]) Db ?_
 refine Hf 2 hF (Ta (cs := #[.int .i64 0, .int .i64 0, .int .i64 2, .int .i64 1]) underlying29 sizeOf49 zeroValue49 Qa Qa Db) ?_
 clear hF; intro b5 w hb5 hF hE
 replace hM := hM.ext hE
 replace hO := hO.ext hE
 replace hI := hI.ext hE
 clear hE
 refine Cb (Sf (v' := .bool true) (Iw _ _ _ (Hc [(0, 0), (2, 1)]) (Hc [(0, 0), (2, 1)]) _ _ _ _ hM (Kk hF [(0, 0), (2, 1)] Fa Fa 0 rfl)) (congrArg Value.bool (decide_eq_true rfl))) (Kb WA rfl rfl rfl) ?_
 rintro _ w ⟨rfl, hE⟩
 replace hF := hF.ext hE
 replace hM := hM.ext hE
 replace hO := hO.ext hE
 replace hI := hI.ext hE
 clear hE
 refine Ca (Xc rfl rfl) (Ca (Ud rfl) (Ca (Ud rfl) (Ca (Xc rfl rfl) (Ca (Ud rfl) (Ca (Ae rfl) (Ca (Ff underlying36 rfl) (Ja (v := .bool true) (Pe (Nh rfl rfl) Qa) (Ca (Xc rfl rfl) (Ca (Ud rfl) (Ca (Ae rfl) ?_))))))))))
 obtain ⟨ad0, B0, e0, hA0, hk0, hx0⟩ := hO.gap_elem (i := 0) by_Om
 refine Ja (v := .pointer (some (ad0.add (0 * 1)))) (Ra (i := 0) Fg rfl hA0 rfl Qa Qa) (Ja (v := .slice (B0) (((Ed 2 3 [(0, 1)] 0 fun _ => []) 0).length) (e0)) (Va isAgg39 rfl hk0) ?_)
 refine Hf 1 hF (Ta (cs := #[.int .i64 0]) underlying39 sizeOf3 zeroValue3 Qa Qa Db) ?_
 clear hF; intro b6 w hb6 hF hE
 replace hM := hM.ext hE
 replace hO := hO.ext hE
 replace hI := hI.ext hE
 replace hx0 := hx0.ext hE
 clear hE
 have hy_ := Qi (b := b6) hF [0] Fa Fa 0 rfl
 refine Cb (show Calls prog 19 #[.slice (B0) (((Ed 2 3 [(0, 1)] 0 fun _ => []) 0).length) (e0), .slice (some ⟨b6, 0, none⟩) 1 1] w (Kd fun v w' => v = .bool true ∧ Same [] w w') from Sf (v' := .bool true) (En _ _ _ ((Ed 2 3 [(0, 1)] 0 fun _ => []) 0) [0] _ _ _ _ hx0 hy_) (congrArg Value.bool (decide_eq_true Db))) (Kb Kr rfl rfl rfl) ?_
 rintro _ w ⟨rfl, hE⟩
 replace hF := hF.ext hE
 replace hM := hM.ext hE
 replace hO := hO.ext hE
 replace hI := hI.ext hE
 replace hx0 := hx0.ext hE
 clear hE
 clear hy_
 refine Ca (Xc rfl rfl) (Ca (Ud rfl) (Ca (Ae rfl) ?_))
 obtain ⟨ad1, B1, e1, hA1, hk1, hx1⟩ := hO.gap_elem (i := 1) by_Om
 refine Ja (v := .pointer (some (ad1.add (1 * 1)))) (Ra (i := 1) Fg rfl hA1 rfl Qa Qa) (Ja (v := .slice (B1) (((Ed 2 3 [(0, 1)] 0 fun _ => []) 1).length) (e1)) (Va isAgg39 rfl hk1) (Ca (Ff underlying39 rfl) ?_))
 refine Ja (v := .bool true) (Pe (Nh rfl rfl) Db) ?_
 refine Ca (Xc rfl rfl) (Ca (Ud rfl) (Ca (Ae rfl) ?_))
 obtain ⟨ad2, B2, e2, hA2, hk2, hx2⟩ := hO.gap_elem (i := 2) by_Om
 refine Ja (v := .pointer (some (ad2.add (2 * 1)))) (Ra (i := 2) Fg rfl hA2 rfl Qa Qa) (Ja (v := .slice (B2) (((Ed 2 3 [(0, 1)] 0 fun _ => []) 2).length) (e2)) (Va isAgg39 rfl hk2) ?_)
 refine Hf 1 hF (Ta (cs := #[.int .i64 2]) underlying39 sizeOf3 zeroValue3 Qa Qa Db) ?_
 clear hF; intro b7 w hb7 hF hE
 replace hM := hM.ext hE
 replace hO := hO.ext hE
 replace hI := hI.ext hE
 replace hx2 := hx2.ext hE
 clear hE
 have hy_ := Qi (b := b7) hF [2] Fa Fa 0 rfl
 refine Cb (show Calls prog 19 #[.slice (B2) (((Ed 2 3 [(0, 1)] 0 fun _ => []) 2).length) (e2), .slice (some ⟨b7, 0, none⟩) 1 1] w (Kd fun v w' => v = .bool true ∧ Same [] w w') from Sf (v' := .bool true) (En _ _ _ ((Ed 2 3 [(0, 1)] 0 fun _ => []) 2) [2] _ _ _ _ hx2 hy_) (congrArg Value.bool (decide_eq_true Db))) (Kb Kr rfl rfl rfl) ?_
 rintro _ w ⟨rfl, hE⟩
 replace hF := hF.ext hE
 replace hM := hM.ext hE
 replace hO := hO.ext hE
 replace hI := hI.ext hE
 replace hx2 := hx2.ext hE
 clear hE
 clear hy_
 refine Ca (Xc rfl rfl) (Ca (Ud rfl) (Ca (Ud rfl) (Ca (Xc rfl rfl) (Ca (Ud rfl) (Ca (Ae rfl) ?_)))))
 refine Hf 3 hF (Ta (cs := #[.int .i64 0, .int .i64 ((-1)), .int .i64 1]) underlying39 sizeOf3 zeroValue3 Qa Qa Db) ?_
 clear hF; intro b8 w hb8 hF hE
 replace hM := hM.ext hE
 replace hO := hO.ext hE
 replace hI := hI.ext hE
 replace hx2 := hx2.ext hE
 clear hE
 have hy_ := Qi (b := b8) hF [0, -1, 1] Fa Fa 0 rfl
 refine Cb (show Calls prog 19 #[.slice (some ⟨oi, 0, none⟩) 3 3, .slice (some ⟨b8, 0, none⟩) 3 3] w (Kd fun v w' => v = .bool true ∧ Same [] w w') from Sf (v' := .bool true) (En _ _ _ ((List.range 3).map (Fk [(0, 0), (2, 1)] fun _ => -1)) [0, -1, 1] _ _ _ _ hI hy_) (congrArg Value.bool (decide_eq_true Db))) (Kb Kr rfl rfl rfl) ?_
 rintro _ w ⟨rfl, hE⟩
 replace hF := hF.ext hE
 replace hM := hM.ext hE
 replace hO := hO.ext hE
 replace hI := hI.ext hE
 replace hx2 := hx2.ext hE
 clear hE
 clear hy_
 refine Ca (Xc rfl rfl) (Ca (Gc rfl) (Ha ?_))
 refine Le (v := .bool true) rfl rfl ?_
 exact ⟨rfl, hF.same⟩
 refine Hp hF (Sf (v' := .agg #[.int .i64 3, .string (bs [51]), .slice none 0 0, .slice none 0 0]) (O1 3 by_Om by_Om _ (hG.ext hF.same)) Db) rfl (Ib R1 rfl rfl) ?_
 clear hF; intro w hF
 refine ⟨hF, ?_⟩
 refine Hi ?_ ?_
 refine Gd 3 rfl hF (Ta (cs := #[.int .i64 3, .string (bs [49]), .slice none 0 0, .slice none 0 0, .int .i64 3, .string (bs [50]), .slice none 0 0, .slice none 0 0, .int .i64 3, .string (bs [51]), .slice none 0 0, .slice none 0 0]) underlying22 sizeOf27 zeroValue27 Qa Qa Db) ?_
 clear hF; rintro b9 w hb9 hF -
 refine ⟨hF.drop 1, ?_⟩
 refine Gd 2 rfl hF (Ta (cs := #[.int .i64 3, .string (bs [49]), .slice none 0 0, .slice none 0 0, .int .i64 3, .string (bs [51]), .slice none 0 0, .slice none 0 0]) underlying22 sizeOf27 zeroValue27 Qa Qa Db) ?_
 clear hF; rintro b10 w hb10 hF -
 refine ⟨hF.drop 2, ?_⟩
 refine De rfl (Mq hG hF 1 rfl 0 rfl) (Kb WC rfl rfl rfl) ?_
 rintro _ w ⟨Az, cz, rfl, hM, hE⟩
 replace hF := hF.ext hE
 clear hE
 refine ⟨hF.drop 2, ?_⟩
 refine Eb rfl (Hn rfl) (Eb rfl (O4 rfl rfl) (Eb rfl (At rfl rfl) (Eb rfl (At rfl rfl) (Eb rfl (Ji rfl) (Eb rfl (Qc rfl) (Eb rfl (Qc rfl) (Cc (Ga (Ma ?_)))))))))
 refine Ja (w' := w) (v := .agg #[.int .i64 0, .int .i64 1]) Db ?_
 refine Hf 1 hF (Ta (cs := #[.int .i64 0, .int .i64 1]) underlying29 sizeOf49 zeroValue49 Qa Qa Db) ?_
 clear hF; intro b11 w hb11 hF hE
 replace hM := hM.ext hE
 clear hE
 refine Cb (Mr _ _ 2 [(0, 1)] _ _ (Kk hF [(0, 1)] Fa Fa 0 rfl) Db by_Om Fa 3 by_Om Fa) (Bc G2 rfl rfl rfl rfl) ?_
 rintro _ w ⟨og, rfl, hO, hE⟩
 replace hM := hM.ext hE
 replace hF := hF.ext hE
 have hO : Rep (fun _ => True) w (Pr 3 (Ed 2 3 [(0, 1)] 0 fun _ => [])) [.slice (some ⟨og, 0, none⟩) 3 3] := hO.weaken fun _ _ _ => trivial
 clear hE
 refine Ca (Hn rfl) (Ca (O4 rfl rfl) (Ca (Dp rfl rfl) (Ca (Ji rfl) (Ca (Gc rfl) (Dc (Ca (Ae rfl) ?_))))))
 refine Cb (Mm _ _ 3 [(0, 0), (2, 1)] _ _ hM Db by_Om Fa Fa) (Kb L2 rfl rfl rfl) ?_
 rintro _ w ⟨oi, rfl, hI, hE⟩
 replace hM := hM.ext hE
 replace hO := hO.ext hE
 replace hF := hF.ext hE
 have hI : Rep (fun _ => True) w (.slice (((List.range 3).map (Fk [(0, 0), (2, 1)] fun _ => -1)).map Ke)) [.slice (some ⟨oi, 0, none⟩) 3 3] := hI.weaken fun _ _ _ => trivial
 clear hE
 refine Ca (Hn rfl) (Ca (O4 rfl rfl) (Ca (Dp rfl rfl) (Ca (Ji rfl) (Ca (Gc rfl) (Dc (Ca (Hb rfl) (Ja (v := .bool true) (Pe (Nh rfl rfl) Qa) (Ca (Ud rfl) (Ca (Hb rfl) (Ja (v := .bool true) (Pe (Nh rfl rfl) Qa) ?_))))))))))
 refine Ca (Xc rfl rfl) (Ca (Ud rfl) (Ca (Ae rfl) ?_))
 refine Ja (w' := w) (v := .agg #[.int .i64 0, .int .i64 0]) Db ?_
 refine Ja (w' := w) (v := .agg #[.int .i64 2, .int .i64 1]) Db ?_
 refine Hf 2 hF (Ta (cs := #[.int .i64 0, .int .i64 0, .int .i64 2, .int .i64 1]) underlying29 sizeOf49 zeroValue49 Qa Qa Db) ?_
 clear hF; intro b12 w hb12 hF hE
 replace hM := hM.ext hE
 replace hO := hO.ext hE
 replace hI := hI.ext hE
 clear hE
 refine Cb (Sf (v' := .bool true) (Iw _ _ _ (Hc [(0, 0), (2, 1)]) (Hc [(0, 0), (2, 1)]) _ _ _ _ hM (Kk hF [(0, 0), (2, 1)] Fa Fa 0 rfl)) (congrArg Value.bool (decide_eq_true rfl))) (Kb WA rfl rfl rfl) ?_
 rintro _ w ⟨rfl, hE⟩
 replace hF := hF.ext hE
 replace hM := hM.ext hE
 replace hO := hO.ext hE
 replace hI := hI.ext hE
 clear hE
 refine Ca (Xc rfl rfl) (Ca (Ud rfl) (Ca (Ud rfl) (Ca (Xc rfl rfl) (Ca (Ud rfl) (Ca (Ae rfl) (Ca (Ff underlying36 rfl) (Ja (v := .bool true) (Pe (Nh rfl rfl) Qa) (Ca (Xc rfl rfl) (Ca (Ud rfl) (Ca (Ae rfl) ?_))))))))))
 obtain ⟨ad3, B3, e3, hA3, hk3, hx3⟩ := hO.gap_elem (i := 0) by_Om
 refine Ja (v := .pointer (some (ad3.add (0 * 1)))) (Ra (i := 0) Fg rfl hA3 rfl Qa Qa) (Ja (v := .slice (B3) (((Ed 2 3 [(0, 1)] 0 fun _ => []) 0).length) (e3)) (Va isAgg39 rfl hk3) ?_)
 refine Hf 1 hF (Ta (cs := #[.int .i64 0]) underlying39 sizeOf3 zeroValue3 Qa Qa Db) ?_
 clear hF; intro b13 w hb13 hF hE
 replace hM := hM.ext hE
 replace hO := hO.ext hE
 replace hI := hI.ext hE
 replace hx3 := hx3.ext hE
 clear hE
 have hy_ := Qi (b := b13) hF [0] Fa Fa 0 rfl
 refine Cb (show Calls prog 19 #[.slice (B3) (((Ed 2 3 [(0, 1)] 0 fun _ => []) 0).length) (e3), .slice (some ⟨b13, 0, none⟩) 1 1] w (Kd fun v w' => v = .bool true ∧ Same [] w w') from Sf (v' := .bool true) (En _ _ _ ((Ed 2 3 [(0, 1)] 0 fun _ => []) 0) [0] _ _ _ _ hx3 hy_) (congrArg Value.bool (decide_eq_true Db))) (Kb Kr rfl rfl rfl) ?_
 rintro _ w ⟨rfl, hE⟩
 replace hF := hF.ext hE
 replace hM := hM.ext hE
 replace hO := hO.ext hE
 replace hI := hI.ext hE
 replace hx3 := hx3.ext hE
 clear hE
 clear hy_
 refine Ca (Xc rfl rfl) (Ca (Ud rfl) (Ca (Ae rfl) ?_))
 obtain ⟨ad4, B4, e4, hA4, hk4, hx4⟩ := hO.gap_elem (i := 1) by_Om
 refine Ja (v := .pointer (some (ad4.add (1 * 1)))) (Ra (i := 1) Fg rfl hA4 rfl Qa Qa) (Ja (v := .slice (B4) (((Ed 2 3 [(0, 1)] 0 fun _ => []) 1).length) (e4)) (Va isAgg39 rfl hk4) (Ca (Ff underlying39 rfl) ?_))
 refine Ja (v := .bool true) (Pe (Nh rfl rfl) Db) ?_
 refine Ca (Xc rfl rfl) (Ca (Ud rfl) (Ca (Ae rfl) ?_))
 obtain ⟨ad5, B5, e5, hA5, hk5, hx5⟩ := hO.gap_elem (i := 2) by_Om
 refine Ja (v := .pointer (some (ad5.add (2 * 1)))) (Ra (i := 2) Fg rfl hA5 rfl Qa Qa) (Ja (v := .slice (B5) (((Ed 2 3 [(0, 1)] 0 fun _ => []) 2).length) (e5)) (Va isAgg39 rfl hk5) ?_)
 refine Hf 1 hF (Ta (cs := #[.int .i64 2]) underlying39 sizeOf3 zeroValue3 Qa Qa Db) ?_
 clear hF; intro b14 w hb14 hF hE
 replace hM := hM.ext hE
 replace hO := hO.ext hE
 replace hI := hI.ext hE
 replace hx5 := hx5.ext hE
 clear hE
 have hy_ := Qi (b := b14) hF [2] Fa Fa 0 rfl
 refine Cb (show Calls prog 19 #[.slice (B5) (((Ed 2 3 [(0, 1)] 0 fun _ => []) 2).length) (e5), .slice (some ⟨b14, 0, none⟩) 1 1] w (Kd fun v w' => v = .bool true ∧ Same [] w w') from Sf (v' := .bool true) (En _ _ _ ((Ed 2 3 [(0, 1)] 0 fun _ => []) 2) [2] _ _ _ _ hx5 hy_) (congrArg Value.bool (decide_eq_true Db))) (Kb Kr rfl rfl rfl) ?_
 rintro _ w ⟨rfl, hE⟩
 replace hF := hF.ext hE
 replace hM := hM.ext hE
 replace hO := hO.ext hE
 replace hI := hI.ext hE
 replace hx5 := hx5.ext hE
 clear hE
 clear hy_
 refine Ca (Xc rfl rfl) (Ca (Ud rfl) (Ca (Ud rfl) (Ca (Xc rfl rfl) (Ca (Ud rfl) (Ca (Ae rfl) ?_)))))
 refine Hf 3 hF (Ta (cs := #[.int .i64 0, .int .i64 ((-1)), .int .i64 1]) underlying39 sizeOf3 zeroValue3 Qa Qa Db) ?_
 clear hF; intro b15 w hb15 hF hE
 replace hM := hM.ext hE
 replace hO := hO.ext hE
 replace hI := hI.ext hE
 replace hx5 := hx5.ext hE
 clear hE
 have hy_ := Qi (b := b15) hF [0, -1, 1] Fa Fa 0 rfl
 refine Cb (show Calls prog 19 #[.slice (some ⟨oi, 0, none⟩) 3 3, .slice (some ⟨b15, 0, none⟩) 3 3] w (Kd fun v w' => v = .bool true ∧ Same [] w w') from Sf (v' := .bool true) (En _ _ _ ((List.range 3).map (Fk [(0, 0), (2, 1)] fun _ => -1)) [0, -1, 1] _ _ _ _ hI hy_) (congrArg Value.bool (decide_eq_true Db))) (Kb Kr rfl rfl rfl) ?_
 rintro _ w ⟨rfl, hE⟩
 replace hF := hF.ext hE
 replace hM := hM.ext hE
 replace hO := hO.ext hE
 replace hI := hI.ext hE
 replace hx5 := hx5.ext hE
 clear hE
 clear hy_
 refine Ca (Xc rfl rfl) (Ca (Gc rfl) (Ha ?_))
 refine Le (v := .bool true) rfl rfl ?_
 exact ⟨rfl, hF.same⟩
 refine Gd 2 rfl hF (Ta (cs := #[.int .i64 3, .string (bs [49]), .slice none 0 0, .slice none 0 0, .int .i64 3, .string (bs [51]), .slice none 0 0, .slice none 0 0]) underlying22 sizeOf27 zeroValue27 Qa Qa Db) ?_
 clear hF; rintro b16 w hb16 hF -
 refine ⟨hF.drop 1, ?_⟩
 refine Gd 3 rfl hF (Ta (cs := #[.int .i64 3, .string (bs [49]), .slice none 0 0, .slice none 0 0, .int .i64 3, .string (bs [50]), .slice none 0 0, .slice none 0 0, .int .i64 3, .string (bs [51]), .slice none 0 0, .slice none 0 0]) underlying22 sizeOf27 zeroValue27 Qa Qa Db) ?_
 clear hF; rintro b17 w hb17 hF -
 refine ⟨hF.drop 2, ?_⟩
 refine De rfl (Mq hG hF 0 rfl 1 rfl) (Kb WC rfl rfl rfl) ?_
 rintro _ w ⟨Az, cz, rfl, hM, hE⟩
 replace hF := hF.ext hE
 clear hE
 refine ⟨hF.drop 2, ?_⟩
 refine Eb rfl (Hn rfl) (Eb rfl (O4 rfl rfl) (Eb rfl (At rfl rfl) (Eb rfl (At rfl rfl) (Eb rfl (Ji rfl) (Eb rfl (Qc rfl) (Eb rfl (Qc rfl) (Cc (Ga (Ma ?_)))))))))
 refine Ja (w' := w) (v := .agg #[.int .i64 0, .int .i64 1]) Db ?_
 refine Hf 1 hF (Ta (cs := #[.int .i64 0, .int .i64 1]) underlying29 sizeOf49 zeroValue49 Qa Qa Db) ?_
 clear hF; intro b18 w hb18 hF hE
 replace hM := hM.ext hE
 clear hE
 refine Cb (Mr _ _ 2 [(0, 1)] _ _ (Kk hF [(0, 1)] Fa Fa 0 rfl) Db by_Om Fa 3 by_Om Fa) (Bc G2 rfl rfl rfl rfl) ?_
 rintro _ w ⟨og, rfl, hO, hE⟩
 replace hM := hM.ext hE
 replace hF := hF.ext hE
 have hO : Rep (fun _ => True) w (Pr 3 (Ed 2 3 [(0, 1)] 0 fun _ => [])) [.slice (some ⟨og, 0, none⟩) 3 3] := hO.weaken fun _ _ _ => trivial
 clear hE
 refine Ca (Hn rfl) (Ca (O4 rfl rfl) (Ca (Dp rfl rfl) (Ca (Ji rfl) (Ca (Gc rfl) (Dc (Ca (Ae rfl) ?_))))))
 refine Cb (Mm _ _ 3 [(0, 0), (2, 1)] _ _ hM Db by_Om Fa Fa) (Kb L2 rfl rfl rfl) ?_
 rintro _ w ⟨oi, rfl, hI, hE⟩
 replace hM := hM.ext hE
 replace hO := hO.ext hE
 replace hF := hF.ext hE
 have hI : Rep (fun _ => True) w (.slice (((List.range 3).map (Fk [(0, 0), (2, 1)] fun _ => -1)).map Ke)) [.slice (some ⟨oi, 0, none⟩) 3 3] := hI.weaken fun _ _ _ => trivial
 clear hE
 refine Ca (Hn rfl) (Ca (O4 rfl rfl) (Ca (Dp rfl rfl) (Ca (Ji rfl) (Ca (Gc rfl) (Dc (Ca (Hb rfl) (Ja (v := .bool true) (Pe (Nh rfl rfl) Qa) (Ca (Ud rfl) (Ca (Hb rfl) (Ja (v := .bool true) (Pe (Nh rfl rfl) Qa) ?_))))))))))
 refine Ca (Xc rfl rfl) (Ca (Ud rfl) (Ca (Ae rfl) ?_))
 refine Ja (w' := w) (v := .agg #[.int .i64 0, .int .i64 0]) Db ?_
 refine Ja (w' := w) (v := .agg #[.int .i64 2, .int .i64 1]) Db ?_
 refine Hf 2 hF (Ta (cs := #[.int .i64 0, .int .i64 0, .int .i64 2, .int .i64 1]) underlying29 sizeOf49 zeroValue49 Qa Qa Db) ?_
 clear hF; intro b19 w hb19 hF hE
 replace hM := hM.ext hE
 replace hO := hO.ext hE
 replace hI := hI.ext hE
 clear hE
 refine Cb (Sf (v' := .bool true) (Iw _ _ _ (Hc [(0, 0), (2, 1)]) (Hc [(0, 0), (2, 1)]) _ _ _ _ hM (Kk hF [(0, 0), (2, 1)] Fa Fa 0 rfl)) (congrArg Value.bool (decide_eq_true rfl))) (Kb WA rfl rfl rfl) ?_
 rintro _ w ⟨rfl, hE⟩
 replace hF := hF.ext hE
 replace hM := hM.ext hE
 replace hO := hO.ext hE
 replace hI := hI.ext hE
 clear hE
 refine Ca (Xc rfl rfl) (Ca (Ud rfl) (Ca (Ud rfl) (Ca (Xc rfl rfl) (Ca (Ud rfl) (Ca (Ae rfl) (Ca (Ff underlying36 rfl) (Ja (v := .bool true) (Pe (Nh rfl rfl) Qa) (Ca (Xc rfl rfl) (Ca (Ud rfl) (Ca (Ae rfl) ?_))))))))))
 obtain ⟨ad6, B6, e6, hA6, hk6, hx6⟩ := hO.gap_elem (i := 0) by_Om
 refine Ja (v := .pointer (some (ad6.add (0 * 1)))) (Ra (i := 0) Fg rfl hA6 rfl Qa Qa) (Ja (v := .slice (B6) (((Ed 2 3 [(0, 1)] 0 fun _ => []) 0).length) (e6)) (Va isAgg39 rfl hk6) ?_)
 refine Hf 1 hF (Ta (cs := #[.int .i64 0]) underlying39 sizeOf3 zeroValue3 Qa Qa Db) ?_
 clear hF; intro b20 w hb20 hF hE
 replace hM := hM.ext hE
 replace hO := hO.ext hE
 replace hI := hI.ext hE
 replace hx6 := hx6.ext hE
 clear hE
 have hy_ := Qi (b := b20) hF [0] Fa Fa 0 rfl
 refine Cb (show Calls prog 19 #[.slice (B6) (((Ed 2 3 [(0, 1)] 0 fun _ => []) 0).length) (e6), .slice (some ⟨b20, 0, none⟩) 1 1] w (Kd fun v w' => v = .bool true ∧ Same [] w w') from Sf (v' := .bool true) (En _ _ _ ((Ed 2 3 [(0, 1)] 0 fun _ => []) 0) [0] _ _ _ _ hx6 hy_) (congrArg Value.bool (decide_eq_true Db))) (Kb Kr rfl rfl rfl) ?_
 rintro _ w ⟨rfl, hE⟩
 replace hF := hF.ext hE
 replace hM := hM.ext hE
 replace hO := hO.ext hE
 replace hI := hI.ext hE
 replace hx6 := hx6.ext hE
 clear hE
 clear hy_
 refine Ca (Xc rfl rfl) (Ca (Ud rfl) (Ca (Ae rfl) ?_))
 obtain ⟨ad7, B7, e7, hA7, hk7, hx7⟩ := hO.gap_elem (i := 1) by_Om
 refine Ja (v := .pointer (some (ad7.add (1 * 1)))) (Ra (i := 1) Fg rfl hA7 rfl Qa Qa) (Ja (v := .slice (B7) (((Ed 2 3 [(0, 1)] 0 fun _ => []) 1).length) (e7)) (Va isAgg39 rfl hk7) (Ca (Ff underlying39 rfl) ?_))
 refine Ja (v := .bool true) (Pe (Nh rfl rfl) Db) ?_
 refine Ca (Xc rfl rfl) (Ca (Ud rfl) (Ca (Ae rfl) ?_))
 obtain ⟨ad8, B8, e8, hA8, hk8, hx8⟩ := hO.gap_elem (i := 2) by_Om
 refine Ja (v := .pointer (some (ad8.add (2 * 1)))) (Ra (i := 2) Fg rfl hA8 rfl Qa Qa) (Ja (v := .slice (B8) (((Ed 2 3 [(0, 1)] 0 fun _ => []) 2).length) (e8)) (Va isAgg39 rfl hk8) ?_)
 refine Hf 1 hF (Ta (cs := #[.int .i64 2]) underlying39 sizeOf3 zeroValue3 Qa Qa Db) ?_
 clear hF; intro b21 w hb21 hF hE
 replace hM := hM.ext hE
 replace hO := hO.ext hE
 replace hI := hI.ext hE
 replace hx8 := hx8.ext hE
 clear hE
 have hy_ := Qi (b := b21) hF [2] Fa Fa 0 rfl
 refine Cb (show Calls prog 19 #[.slice (B8) (((Ed 2 3 [(0, 1)] 0 fun _ => []) 2).length) (e8), .slice (some ⟨b21, 0, none⟩) 1 1] w (Kd fun v w' => v = .bool true ∧ Same [] w w') from Sf (v' := .bool true) (En _ _ _ ((Ed 2 3 [(0, 1)] 0 fun _ => []) 2) [2] _ _ _ _ hx8 hy_) (congrArg Value.bool (decide_eq_true Db))) (Kb Kr rfl rfl rfl) ?_
 rintro _ w ⟨rfl, hE⟩
 replace hF := hF.ext hE
 replace hM := hM.ext hE
 replace hO := hO.ext hE
 replace hI := hI.ext hE
 replace hx8 := hx8.ext hE
 clear hE
 clear hy_
 refine Ca (Xc rfl rfl) (Ca (Ud rfl) (Ca (Ud rfl) (Ca (Xc rfl rfl) (Ca (Ud rfl) (Ca (Ae rfl) ?_)))))
 refine Hf 3 hF (Ta (cs := #[.int .i64 0, .int .i64 ((-1)), .int .i64 1]) underlying39 sizeOf3 zeroValue3 Qa Qa Db) ?_
 clear hF; intro b22 w hb22 hF hE
 replace hM := hM.ext hE
 replace hO := hO.ext hE
 replace hI := hI.ext hE
 replace hx8 := hx8.ext hE
 clear hE
 have hy_ := Qi (b := b22) hF [0, -1, 1] Fa Fa 0 rfl
 refine Cb (show Calls prog 19 #[.slice (some ⟨oi, 0, none⟩) 3 3, .slice (some ⟨b22, 0, none⟩) 3 3] w (Kd fun v w' => v = .bool true ∧ Same [] w w') from Sf (v' := .bool true) (En _ _ _ ((List.range 3).map (Fk [(0, 0), (2, 1)] fun _ => -1)) [0, -1, 1] _ _ _ _ hI hy_) (congrArg Value.bool (decide_eq_true Db))) (Kb Kr rfl rfl rfl) ?_
 rintro _ w ⟨rfl, hE⟩
 replace hF := hF.ext hE
 replace hM := hM.ext hE
 replace hO := hO.ext hE
 replace hI := hI.ext hE
 replace hx8 := hx8.ext hE
 clear hE
 clear hy_
 refine Ca (Xc rfl rfl) (Ca (Gc rfl) (Ha ?_))
 refine Le (v := .bool true) rfl rfl ?_
 exact ⟨rfl, hF.same⟩
end Go.Scarf
