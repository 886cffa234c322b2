/- A part of the proof. -/
import Derived.Test.YtepbomjpbdbejaaGreatDoorA4
set_option linter.all false
set_option maxHeartbeats 8000000
set_option maxRecDepth 10000
namespace Go.Scarf
open Go.RowKit Go.Proofs Go.Proofs.Tryz
def Ty : Nat → Nat → Nat → List TreeN → List TreeN → List (Int × Int)
  | 0, _, _, _, _ => []
  | f + 1, i, j, x :: xs, y :: ys =>
    if al Jg pN (x :: xs) (y :: ys) = pN x y + al Jg pN xs ys then ((i : Int), (j : Int)) :: Ty f (i + 1) (j + 1) xs ys
    else if al Jg pN (x :: xs) (y :: ys) = Jg x + al Jg pN xs (y :: ys) then Ty f (i + 1) j xs (y :: ys)
    else Ty f i (j + 1) (x :: xs) ys
  | _ + 1, _, _, _, _ => []
theorem Vm : ∀ (f g : Nat) (i j : Nat) (xs ys : List TreeN), xs.length + ys.length ≤ f → xs.length + ys.length ≤ g → Ty f i j xs ys = Ty g i j xs ys
  | 0, g, i, j, xs, ys, h, _ => by
    obtain rfl : xs = [] := List.eq_nil_of_length_eq_zero by_Om
    cases g <;> rfl
  | f + 1, 0, i, j, xs, ys, _, h => by
    obtain rfl : xs = [] := List.eq_nil_of_length_eq_zero by_Om
    rfl
  | f + 1, g + 1, i, j, [], ys, _, _ => rfl
  | f + 1, g + 1, i, j, x :: xs, [], _, _ => rfl
  | f + 1, g + 1, i, j, x :: xs, y :: ys, h1, h2 => by
    simp only [List.length_cons] at h1 h2
    rw [Ty, Ty, Vm f g (i + 1) (j + 1) xs ys by_Om by_Om, Vm f g (i + 1) j xs (y :: ys) (by simp only [List.length_cons]; omega) (by simp only [List.length_cons]; omega), Vm f g i (j + 1) (x :: xs) ys (by simp only [List.length_cons]; omega) (by simp only [List.length_cons]; omega)]
def Y0 (i j : Nat) (xs ys : List TreeN) : List (Int × Int) := Ty (xs.length + ys.length) i j xs ys
section
variable {la lb : List TreeN} {i j : Nat}
theorem Yt (h1 : i < la.length) (h2 : j < lb.length) : Y0 i j (la.drop i) (lb.drop j) =
    if al Jg pN (la.drop i) (lb.drop j) = pN la[i] lb[j] + al Jg pN (la.drop (i + 1)) (lb.drop (j + 1)) then ((i : Int), (j : Int)) :: Y0 (i + 1) (j + 1) (la.drop (i + 1)) (lb.drop (j + 1))
    else if al Jg pN (la.drop i) (lb.drop j) = Jg la[i] + al Jg pN (la.drop (i + 1)) (lb.drop j) then Y0 (i + 1) j (la.drop (i + 1)) (lb.drop j)
    else Y0 i (j + 1) (la.drop i) (lb.drop (j + 1)) := by
  unfold Y0
  rw [List.drop_eq_getElem_cons h1, List.drop_eq_getElem_cons h2]
  rw [show (la[i] :: la.drop (i + 1)).length + (lb[j] :: lb.drop (j + 1)).length = ((la.drop (i + 1)).length + (lb.drop (j + 1)).length + 1) + 1 by simp only [List.length_cons]; omega, Ty]
  rw [Vm _ ((la.drop (i + 1)).length + (lb.drop (j + 1)).length) (i + 1) (j + 1) _ _ by_Om by_Om,
    Vm _ ((la.drop (i + 1)).length + (lb[j] :: lb.drop (j + 1)).length) (i + 1) j _ _ (by simp only [List.length_cons]; omega) by_Om,
    Vm _ ((la[i] :: la.drop (i + 1)).length + (lb.drop (j + 1)).length) i (j + 1) _ _ (by simp only [List.length_cons]; omega) by_Om]
theorem Nu (h : ¬ (i < la.length ∧ j < lb.length)) : Y0 i j (la.drop i) (lb.drop j) = [] := by
  unfold Y0
  by_cases h1 : la.length ≤ i
  · rw [List.drop_eq_nil_of_le h1]
    generalize ([] : List TreeN).length + (lb.drop j).length = f
    cases f <;> rfl
  · rw [List.drop_eq_nil_of_le (show lb.length ≤ j by omega)]
    generalize (la.drop i).length + ([] : List TreeN).length = f
    cases f
    · rfl
    · cases la.drop i <;> rfl
theorem Iu (n m : Nat) : ∀ (f i j : Nat) (xs ys : List TreeN), i + xs.length ≤ n → j + ys.length ≤ m → ∀ z ∈ Ty f i j xs ys, (i : Int) ≤ z.1 ∧ z.1 < (n : Int) ∧ (j : Int) ≤ z.2 ∧ z.2 < (m : Int)
  | 0, _, _, _, _, _, _, z, hz => by cases hz
  | f + 1, i, j, [], _, _, _, z, hz => by cases hz
  | f + 1, i, j, _ :: _, [], _, _, z, hz => by cases hz
  | f + 1, i, j, x :: xs, y :: ys, h1, h2, z, hz => by
    simp only [List.length_cons] at h1 h2
    rw [Ty] at hz
    split at hz
    · rcases List.mem_cons.1 hz with rfl | hz
      · simp only; omega
      · have := Iu n m f (i + 1) (j + 1) xs ys by_Om by_Om z hz; omega
    · split at hz
      · have := Iu n m f (i + 1) j xs (y :: ys) by_Om (by simp only [List.length_cons]; omega) z hz; omega
      · have := Iu n m f i (j + 1) (x :: xs) ys (by simp only [List.length_cons]; omega) by_Om z hz; omega
end
theorem Zq {S : Nat → Prop} {w : World} : ∀ {m : List (Int × Int)}, (∀ z ∈ m, (-9223372036854775808 ≤ z.1 ∧ z.1 ≤ 9223372036854775807) ∧ (-9223372036854775808 ≤ z.2 ∧ z.2 ≤ 9223372036854775807)) → RepL S w (m.map Hu) (Xv m)
  | [], _ => by rw [List.map_nil, RepL]; rfl
  | z :: m, h => by
    rw [List.map_cons, RepL]
    exact ⟨Xi z, Xv m, rfl, CH (h z Ga).1 (h z Ga).2, Zq fun y hy => h y (by simp [hy])⟩
theorem D4 (l : List Tree) (A : Option Addr) (c : Nat) (S : Nat → Prop) (w0 : World) (hG : Gl w0) (hX : Rep S w0 (.slice (Dd l)) [.slice A l.length c]) (hok : ∀ x ∈ l, Pk x) :
    Calls prog 24 #[.slice A l.length c] w0 (Rd fun v w' => ∃ V, v = .tuple #[V, .int .i64 (Oi l)] ∧ Same [] w0 w') :=
  Zg (AD l A c S w0 hG hX hok) fun v w' h => by
    rcases h with ⟨_, rfl, hs⟩ | ⟨he, A', c', rfl, _, hs⟩
    · exact ⟨_, rfl, hs⟩
    · exact ⟨_, by rw [he], hs⟩
theorem J2 (l : List Tree) (la : List TreeN) (hl : la = l.map Fb) (he : Oi l = 0) (A : Option Addr) (c : Nat) (S : Nat → Prop) (w0 : World) (hG : Gl w0) (hX : Rep S w0 (.slice (Dd l)) [.slice A l.length c]) (hok : ∀ x ∈ l, Pk x) :
    Calls prog 24 #[.slice A l.length c] w0 (Rd fun v w' => ∃ (A' : Option Addr) (c' : Nat), v = .tuple #[.slice A' la.length c', .int .i64 0] ∧ Rep (Btw w0 w') w' (.slice (la.map Pl)) [.slice A' la.length c'] ∧ Same [] w0 w') :=
  Zg (AD l A c S w0 hG hX hok) fun v w' h => by
    rcases h with ⟨h, _⟩ | ⟨_, A', c', rfl, hr, hs⟩
    · exact absurd he h
    · subst hl; exact ⟨A', c', by rw [List.length_map], by rw [List.length_map]; exact hr, hs⟩
def Lr (a b : List Tree) : Int := if Oi a = 1 ∨ Oi b = 1 then 1 else if Oi a = 0 ∧ Oi b = 0 then 0 else 6
theorem At {l : List Tree} (h : Oi l = 0) : (∀ x ∈ l, Zb x = true) ∧ l.length ≤ 64 ∧ Hx l ≤ 512 := by
  unfold Oi at h
  split at h
  · rename_i ha
    split at h
    · cases h
    · split at h
      · cases h
      · exact ⟨fun x hx => List.all_eq_true.1 ha x hx, by omega, by omega⟩
  · cases h
theorem Nz {l : List Tree} (h : Oi l = 0) (hok : ∀ x ∈ l, Pk x) : (∀ x ∈ l.map Fb, Yf x.1 x.2) ∧ ∀ x ∈ l.map Fb, Jg x ≤ 512 := by
  have hy := At h
  constructor
  · intro x hx
    obtain ⟨t, ht, rfl⟩ := List.mem_map.1 hx
    exact Xk (hy.1 t ht) (hok t ht).2.1
  · intro x hx
    obtain ⟨t, ht, rfl⟩ := List.mem_map.1 hx
    have h1 := Jo (hy.1 t ht)
    have h2 := (hok t ht).2.1
    show (Be t).length ≤ 512
    omega
def CT (N1 cb pb rb n : Nat) (q r : Nat → Nat) : Prop := cb < N1 ∧ pb < N1 ∧ rb < N1 ∧ ∀ i, i < n + 1 → q i < N1 ∧ r i < N1
section
variable {w w' : World} {N0 N1 cb pb rb : Nat} {la lb : List TreeN} {Aa Ab : Option Addr} {k1 k2 k3 k4 : Nat} {q r : Nat → Nat} {P R : Nat → Nat → Int}
theorem Ck.lt (h : Ck w N0 cb pb rb la lb Aa Ab k1 k2 k3 k4 q r P R) : CT w.heap.size cb pb rb la.length q r := by
  obtain ⟨_, h1, _⟩ := h.pair.top
  obtain ⟨_, h2, _⟩ := h.rest.top
  exact ⟨Fa h.cell, Fa h1, Fa h2, fun i hi => ⟨Fa (h.pair.row i hi), Fa (h.rest.row i hi)⟩⟩
theorem Ck.apart (h : Ck w N0 cb pb rb la lb Aa Ab k1 k2 k3 k4 q r P R) (hl : CT N1 cb pb rb la.length q r) {E : List Nat} (hs : Same E w w') (he : ∀ b ∈ E, N1 ≤ b) : Ck w' N0 cb pb rb la lb Aa Ab k1 k2 k3 k4 q r P R := by
  have hlo := h.lo
  have nl : ∀ x, x < N1 → x ∉ E := fun x hx hm => by have := he x hm; omega
  exact h.keep hs (fun b hb => by have := he b hb; have := hl.1; omega) (nl _ hl.1) (nl _ hl.2.1) (nl _ hl.2.2.1) (fun i hi => nl _ (hl.2.2.2 i hi).1) (fun i hi => nl _ (hl.2.2.2 i hi).2)
end
theorem WN (S S' : Nat → Prop) (w0 : World) (hG : Gl w0) (x y : List Tree) (A B : Option Addr) (c e : Nat) (hX : Rep S w0 (.slice (Dd x)) [.slice A x.length c]) (hY : Rep S' w0 (.slice (Dd y)) [.slice B y.length e]) (hokx : ∀ z ∈ x, Pk z) (hoky : ∀ z ∈ y, Pk z) (hne : ¬ (Oi x = 0 ∧ Oi y = 0)) : Calls prog 11 #[.slice A x.length c, .slice B y.length e] w0 (Rd fun v w' => v = .tuple #[.slice none 0 0, .int .i64 0, .int .i64 (Lr x y)] ∧ Same [] w0 w') := by
 refine Ma func11 rfl ntmps11 Jb (Vd _ _) ?_
 have hF := FR.start w0 []
 refine Ka (Ca (Il rfl) (Ca (Gc rfl) (Ca (Gc rfl) (Cc (Ca (Md rfl) ?_)))))
 refine Db (D4 x _ _ _ _ (hG.ext hF.same) (hF.rep hX) hokx) (Eb OD rfl rfl) ?_
 rintro _ w ⟨V0, rfl, hE⟩
 replace hF := hF.ext hE
 clear hE
 refine Ca (Xm rfl) (Ca (KU rfl rfl) (Ca (Zn rfl rfl) (Ca (C1) (Ca (Gc rfl) (Cc (Ca (Md rfl) ?_))))))
 refine Db (D4 y _ _ _ _ (hG.ext hF.same) (hF.rep hY) hoky) (Eb OD rfl rfl) ?_
 rintro _ w ⟨V1, rfl, hE⟩
 replace hF := hF.ext hE
 clear hE
 refine Ca (Xm rfl) (Ca (KU rfl rfl) (Ca (Zn rfl rfl) (Ca (C1) (Ca (Gc rfl) (Ea (Ia (Va (Ka (Ca (Hb rfl) (Ca (Fo rfl rfl) (Ca (Fd rfl) ?_)))))))))))
 refine Cd (d := 28) rfl (fun hg0 => ?_) (fun hg0 => ?_)
 refine Sa (Sa (Ca (Oc rfl rfl) (Ca (Ec rfl) (Ea (Ae rfl (Ka (Ca (Il rfl) (Ca (Gc rfl) (Ca (Gc rfl) (Ea ?_))))))))))
 refine Fc (Bc (Za (Ex (v := .slice _ _ _) (x := .int .i64 0) (y := .int .i64 1) rfl rfl rfl rfl) ?_))
 exact ⟨by rw [Lr, if_pos (by simp_all)], hF.same⟩
 refine Ca (Hb rfl) (Ca (Fo rfl rfl) (Ca (Jd rfl rfl) (Ca (Ec rfl) (Ea ?_))))
 refine Pc rfl rfl (fun hc0 => ?_) (fun hc0 => ?_)
 refine Ka (Ca (Il rfl) (Ca (Gc rfl) (Ca (Gc rfl) (Ea ?_))))
 refine Fc (Bc (Za (Ex (v := .slice _ _ _) (x := .int .i64 0) (y := .int .i64 1) rfl rfl rfl rfl) ?_))
 exact ⟨by rw [Lr, if_pos (by simp_all)], hF.same⟩
 refine Ka (Ca (Hb rfl) (Ca (Ux rfl rfl) (Ca (Fd rfl) ?_)))
 refine Cd (d := 35) rfl (fun hg1 => ?_) (fun hg1 => ?_)
 refine Sa (Sa (Ca (Oc rfl rfl) (Ca (Ec rfl) (Ea (Ae rfl (Ka (Ca (Il rfl) (Ca (Gc rfl) (Ca (Gc rfl) (Ea ?_))))))))))
 refine Fc (Bc (Za (Ex (v := .slice _ _ _) (x := .int .i64 0) (y := .int .i64 6) rfl rfl rfl rfl) ?_))
 exact ⟨by rw [Lr, if_neg (by simp_all), if_neg (by simp_all)], hF.same⟩
 refine Ca (Hb rfl) (Ca (Ux rfl rfl) (Ca (Jd rfl rfl) (Ca (Ec rfl) (Ea ?_))))
 refine Pc rfl rfl (fun hc1 => ?_) (fun hc1 => ?_)
 refine Ka (Ca (Il rfl) (Ca (Gc rfl) (Ca (Gc rfl) (Ea ?_))))
 refine Fc (Bc (Za (Ex (v := .slice _ _ _) (x := .int .i64 0) (y := .int .i64 6) rfl rfl rfl rfl) ?_))
 exact ⟨by rw [Lr, if_neg (by simp_all), if_neg (by simp_all)], hF.same⟩
 exact absurd hne (by simp_all)
theorem M8 (S S' : Nat → Prop) (w0 : World) (hG : Gl w0) (x y : List Tree) (A B : Option Addr) (c e : Nat) (hX : Rep S w0 (.slice (Dd x)) [.slice A x.length c]) (hY : Rep S' w0 (.slice (Dd y)) [.slice B y.length e]) (hokx : ∀ z ∈ x, Pk z) (hoky : ∀ z ∈ y, Pk z) (la lb : List TreeN) (hla : la = x.map Fb) (hlb : lb = y.map Fb) (hex : Oi x = 0) (hey : Oi y = 0) : Calls prog 11 #[.slice A x.length c, .slice B y.length e] w0 (Rd fun v w' => ∃ (Az : Option Addr) (cz : Nat), v = .tuple #[.slice Az (Y0 0 0 la lb).length cz, .int .i64 ((al Jg pN la lb : Nat) : Int), .int .i64 0] ∧ Rep (Btw w0 w') w' (Kh (Y0 0 0 la lb)) [.slice Az (Y0 0 0 la lb).length cz] ∧ Same [] w0 w') := by
 have hRa : (∀ x ∈ la, Yf x.1 x.2) ∧ ∀ x ∈ la, Jg x ≤ 512 := by rw [hla]; exact Nz hex hokx
 have hRb : (∀ x ∈ lb, Yf x.1 x.2) ∧ ∀ x ∈ lb, Jg x ≤ 512 := by rw [hlb]; exact Nz hey hoky
 have hll : la.length ≤ 64 ∧ lb.length ≤ 64 := by rw [hla, hlb, List.length_map, List.length_map]; exact ⟨(At hex).2.1, (At hey).2.1⟩
 refine Ma func11 rfl ntmps11 Jb (Vd _ _) ?_
 have hF := FR.start w0 []
 refine Ka (Ca (Il rfl) (Ca (Gc rfl) (Ca (Gc rfl) (Cc (Ca (Md rfl) ?_)))))
 refine Db (J2 x la hla hex _ _ _ _ (hG.ext hF.same) (hF.rep hX) hokx) (Eb OD rfl rfl) ?_
 rintro _ w ⟨T0, t0, rfl, hT0, hE⟩
 replace hF := hF.ext hE
 clear hE
 refine Ca (Xm rfl) (Ca (TA rfl rfl) (Ca (Zn rfl rfl) (Ca (Il rfl) (Ca (Gc rfl) (Cc (Ca (Md rfl) ?_))))))
 refine Db (J2 y lb hlb hey _ _ _ _ (hG.ext hF.same) (hF.rep hY) hoky) (Eb OD rfl rfl) ?_
 rintro _ w ⟨T1, t1, rfl, hT1, hE⟩
 replace hF := hF.ext hE
 replace hT0 := hT0.ext hE
 clear hE
 refine Ca (Xm rfl) (Ca (TA rfl rfl) (Ca (Zn rfl rfl) (Ca (Il rfl) (Ca (Gc rfl) (Ea (Ia (Va (Ka (Ca (Hb rfl) (Ja (v := .bool false) (Sd (Rg rfl rfl) Ra) (Ca (Fd rfl) ?_)))))))))))
 refine Ca (Hb rfl) (Ja (v := .bool false) (Sd (Rg rfl rfl) Ra) (Ca (Jd rfl rfl) (Ca (Ec rfl) (Ea (Bg rfl (Ka (Ca (Hb rfl) (Ja (v := .bool false) (Sd (Bq rfl rfl) Ra) (Ca (Fd rfl) (Ca (Hb rfl) (Ja (v := .bool false) (Sd (Bq rfl rfl) Ra) ?_)))))))))))
 refine Ca (Jd rfl rfl) (Ca (Ec rfl) (Ea (Bg rfl (Wa (Mb (Ha (Ka (Ca (Md rfl) (Ca (Md rfl) ?_)))))))))
 obtain ⟨N0, hN0⟩ : ∃ N, N = w.heap.size := ⟨_, rfl⟩
 refine Db (YG _ _ _ la lb T0 T1 t0 t1 hT0 hT1 hll hRa.1 hRb.1 hRa.2 hRb.2) (Qb KT rfl rfl rfl) ?_
 rintro _ w ⟨cb, pb, rb, k3, k4, q, r, P, R, rfl, hK, hR0, hP0, hE⟩
 rw [← hN0] at hK
 replace hF := hF.ext hE
 have hlt := hK.lt
 obtain ⟨N1, hN1⟩ : ∃ N, N = w.heap.size := ⟨_, rfl⟩
 rw [← hN1] at hlt
 have hNw : N1 ≤ w.heap.size := Nat.le_of_eq hN1
 clear hE hN0 hN1 hT0 hT1
 have hmx : ∀ x y, al Jg pN (la.drop x) (lb.drop y) ≤ 65536 := fun x y => Nat.le_trans (CK (fun z hz => hRa.2 z (List.mem_of_mem_drop hz)) (fun z hz => hRb.2 z (List.mem_of_mem_drop hz))) (by simp only [List.length_drop]; omega)
 have hRq : ∀ a b, a ≤ la.length → b ≤ lb.length → 0 ≤ R a b ∧ R a b ≤ 1000000 := fun a b ha hb => by have h1 := hmx a b; rw [hR0 a b ha hb]; omega
 have hPq : ∀ a b (h1 : a < la.length) (h2 : b < lb.length), 0 ≤ P a b ∧ P a b ≤ 1000000 := fun a b h1 h2 => by have h3 : pN la[a] lb[b] ≤ la[a].1.length + lb[b].1.length := (Xn (ls := la[a].1) (fs := la[a].2) (gs := lb[b].1) (hs := lb[b].2)).1; have h4 : la[a].1.length ≤ 512 := hRa.2 _ (List.getElem_mem h1); have h5 : lb[b].1.length ≤ 512 := hRb.2 _ (List.getElem_mem h2); rw [hP0 a b h1 h2]; omega
 refine Ca (Z_ rfl) (Cc (Ca (Il rfl) (Ea (Ia (Ka (Ca (Gc rfl) (Ca (Gc rfl) (Ya ?_))))))))
 refine Ha (Va ?_)
 refine Uc (fun μ σ w => ∃ (i : Nat), ∃ (j : Nat), ∃ (Ao : Option Addr), ∃ (co : Nat), ∃ (so : List (Nat × Obj)), ∃ (acc : List (Int × Int)), μ = la.length + lb.length - (i + j) ∧ (i ≤ la.length) ∧ (j ≤ lb.length) ∧ (SlB 49 2 Ao acc.length co (Xv acc) so) ∧ (Ck w N0 cb pb rb la lb T0 T1 t0 t1 k3 k4 q r P R) ∧ (N1 ≤ w.heap.size) ∧ (∀ z ∈ so, N1 ≤ z.1) ∧ (acc ++ Y0 i j (la.drop i) (lb.drop j) = Y0 0 0 la lb) ∧ (acc.length ≤ i) ∧ AllEq σ [(7, .slice T0 la.length t0), (9, .slice T1 lb.length t1), (11, .pointer (some ⟨cb, 0, none⟩)), (12, .slice Ao acc.length co), (13, .int .i64 ((i : Int))), (14, .int .i64 ((j : Int)))] ∧ FR w0 [] ([] ++ (so ++ [])) w) _ ⟨0, 0, none, 0, [], [], rfl, (Nat.zero_le _), (Nat.zero_le _), (SlB.nil _ _), (hK), (hNw), Ga, Ga, (Nat.zero_le _), MG, hF⟩ ?_
 clear hF; rintro μ σ w ⟨i, j, Ao, co, so, acc, rfl, hi, hj, hSo, hK, hNw, hso, hac, hal, hs, hF⟩
 refine Cg.slots hs ?_
 clear hs; intro σ
 refine Ia (Ka (Ca (Hb rfl) (Ca (Md rfl) (Ca (Qe underlying51 rfl) (Ca (Nk rfl rfl) (Ca (Fd rfl) ?_))))))
 refine Cd (d := 46) rfl (fun hg0 => ?_) (fun hg0 => ?_)
 refine Ca (Hb rfl) (Ca (Md rfl) (Ca (Qe underlying51 rfl) (Ca (Nk rfl rfl) (Ca (Oc rfl rfl) (Ea ?_)))))
 refine Pc rfl rfl (fun hc2 => ?_) (fun hc2 => ?_)
 refine Wa (Ha (Va (Ka (Ca (De rfl) (Ca (Of rfl) (Ca (Kc Wf rfl) (Ja (v := .slice (some ⟨rb, 0, none⟩) (la.length + 1) (k4)) (Cb isAgg36 rfl hK.c3) (Ca (Hb rfl) (Ja (v := .pointer (some ⟨rb, i, none⟩)) (Ub (i := ((i : Nat) : Int)) (i) Qh rfl rfl by_Om by_Om by_Om) (Ja (v := .slice (some ⟨r (i), 0, none⟩) (lb.length + 1) (lb.length + 1)) (Cb isAgg39 rfl (hK.rest.rowCell by_Om)) (Ca (Hb rfl) (Ja (v := .pointer (some ⟨r (i), j, none⟩)) (Ub (i := ((j : Nat) : Int)) (j) Df rfl rfl by_Om by_Om by_Om) ?_))))))))))))
 refine Ja (v := .int .i64 (R i j)) (Cb isAgg3 rfl (hK.rest.cell by_Om by_Om)) (Ea (Va (Ka (Ca (De rfl) (Ca (Hb rfl) (Ca (Hb rfl) ?_))))))
 refine Db (Xu _ N0 cb pb rb la lb T0 T1 t0 t1 k3 k4 q r P R hK i j hll by_Om by_Om (hPq i j by_Om by_Om) (hRq (i + 1) (j + 1) by_Om by_Om)) (Dc M9 rfl rfl rfl rfl) ?_
 rintro _ w ⟨rfl, hE⟩
 replace hF := hF.ext hE
 replace hK := hK.ext hE
 replace hNw := Nat.le_trans hNw hE.size
 clear hE
 refine Ca (Fo rfl rfl) (Ca (Ec rfl) (Ea ?_))
 refine Pc rfl rfl (fun hc3 => ?_) (fun hc3 => ?_)
 refine Ka (Ca (Md rfl) (Ca (Hb rfl) (Ca (Hb rfl) ?_)))
 refine Ja (w' := w) (v := .agg #[.int .i64 ((i : Int)), .int .i64 ((j : Int))]) Ib ?_
 refine Xf 1 hF (Ua (cs := #[.int .i64 ((i : Int)), .int .i64 ((j : Int))]) underlying29 sizeOf49 zeroValue49 Ra Ra Ib) ?_
 clear hF; intro b1 w hb1 hF hE
 replace hK := hK.ext hE
 replace hNw := Nat.le_trans hNw hE.size
 clear hE
 refine Tq [(b1, .cells #[.int .i64 ((i : Int)), .int .i64 ((j : Int))] 49)] [] (news := [.int .i64 ((i : Int)), .int .i64 ((j : Int))]) (len' := (acc ++ [((i : Int), (j : Int))]).length) (ys := Xv (acc ++ [((i : Int), (j : Int))])) CS hF hSo rfl rfl (rfl) (fun _ => ⟨_, rfl, Xb (hF.cellsAll 0 rfl)⟩) (by simp [Value.oneCell']) (by simp only [maxLen]; omega) Ga (by simp [Xv]) by_Om ?_
 clear hF; intro A1 c1 o_1 w hS1_o hF hE hnew
 replace hK := hK.apart hlt hE (fun b hb_ => by obtain ⟨z, hz, rfl⟩ := List.mem_map.1 hb_; exact hso z hz)
 replace hso := fun z hz => (hnew z hz).elim (fun h => by obtain ⟨z2, hz2, e⟩ := List.mem_map.1 h; rw [← e]; exact hso z2 hz2) (fun h => Nat.le_trans hNw h)
 replace hNw := Nat.le_trans hNw hE.size
 clear hE hnew
 refine Ca (Il rfl) (Ea (Da (Ca (Hb rfl) (Ca (Qi (((i + 1 : Nat) : Int)) rfl rfl) (Ca (Hb rfl) (Ca (Qi (((j + 1 : Nat) : Int)) rfl rfl) (Ca (Gc rfl) (Ca (Gc rfl) (Ya (Mb (Mb ?_)))))))))))
 refine Ic ⟨_, ?_, i + 1, j + 1, A1, c1, o_1, acc ++ [((i : Int), (j : Int))], rfl, by_Om, by_Om, (hS1_o), (hK), (hNw), (hso), (by rw [List.append_assoc, List.singleton_append, ← hac, Yt (la := la) (lb := lb) (i := i) (j := j) by_Om by_Om, if_pos (by have e1 := hR0 i j by_Om by_Om; have e2 := hR0 (i + 1) (j + 1) by_Om by_Om; have e3 := hP0 i j by_Om by_Om; omega)]), (by simp only [List.length_append, List.length_cons, List.length_nil]; omega), MG, hF.drop 1⟩
 omega
 refine Ka (Ca (De rfl) (Ca (Hb rfl) (Ca (Hb rfl) ?_)))
 refine Db (Ip _ N0 cb pb rb la lb T0 T1 t0 t1 k3 k4 q r P R hK i j hll by_Om by_Om (fun j h => hRa.2 _ (List.getElem_mem h)) (hRq (i + 1) j by_Om by_Om)) (Dc Kz rfl rfl rfl rfl) ?_
 rintro _ w ⟨rfl, hE⟩
 replace hF := hF.ext hE
 replace hK := hK.ext hE
 replace hNw := Nat.le_trans hNw hE.size
 clear hE
 refine Ca (Fo rfl rfl) (Ca (Ec rfl) (Ea ?_))
 refine Pc rfl rfl (fun hc4 => ?_) (fun hc4 => ?_)
 refine Da (Ca (Hb rfl) (Ca (Qi (((i + 1 : Nat) : Int)) rfl rfl) (Ca (Gc rfl) (Ya (Mb (Mb ?_))))))
 refine Ic ⟨_, ?_, i + 1, j, Ao, co, so, acc, rfl, by_Om, by_Om, (hSo), (hK), (hNw), (hso), (by rw [← hac, Yt (la := la) (lb := lb) (i := i) (j := j) by_Om by_Om, if_neg (by have e1 := hR0 i j by_Om by_Om; have e2 := hR0 (i + 1) (j + 1) by_Om by_Om; have e3 := hP0 i j by_Om by_Om; omega), if_pos (by have e1 := hR0 i j by_Om by_Om; have e2 := hR0 (i + 1) j by_Om by_Om; simp only [Jg]; omega)]), by_Om, MG, hF⟩
 omega
 refine Da (Ca (Hb rfl) (Ca (Qi (((j + 1 : Nat) : Int)) rfl rfl) (Ca (Gc rfl) (Ya (Mb (Mb ?_))))))
 refine Ic ⟨_, ?_, i, j + 1, Ao, co, so, acc, rfl, by_Om, by_Om, (hSo), (hK), (hNw), (hso), (by rw [← hac, Yt (la := la) (lb := lb) (i := i) (j := j) by_Om by_Om, if_neg (by have e1 := hR0 i j by_Om by_Om; have e2 := hR0 (i + 1) (j + 1) by_Om by_Om; have e3 := hP0 i j by_Om by_Om; omega), if_neg (by have e1 := hR0 i j by_Om by_Om; have e2 := hR0 (i + 1) j by_Om by_Om; simp only [Jg]; omega)]), by_Om, MG, hF⟩
 omega
 refine Nc (Lc rfl ?_)
 refine Ha (Ia ?_)
 refine Id [] (.free 0 (.free 1 (.free 2 (.free 3 (.free 4 (.free 5 (.free 6 (.free 7 (.free 8 (.free 9 (.free 10 (.free 11 .nil)))))))))))) hF ?_
 clear hF; intro w hF hE
 replace hK := hK.ext hE
 replace hNw := Nat.le_trans hNw hE.size
 clear hE
 refine ⟨fun wq => FR w0 [] [] wq ∧ Ck wq N0 cb pb rb la lb T0 T1 t0 t1 k3 k4 q r P R, ⟨hF.sub (List.nil_sublist _), hK⟩, ?_⟩
 refine Xa rfl (Md rfl) (Xa rfl (De rfl) (Xa rfl (Of rfl) (Xa rfl (Kc Wf rfl) (Qa rfl (v := .slice (some ⟨rb, 0, none⟩) (la.length + 1) (k4)) (fun w hC => Cb isAgg36 rfl hC.2.c3) (Qa rfl (v := .pointer (some ⟨rb, 0, none⟩)) (fun w hC => Ub (i := 0) 0 Qh rfl rfl Ra by_Om by_Om) (Qa rfl (v := .slice (some ⟨r 0, 0, none⟩) (lb.length + 1) (lb.length + 1)) (fun w hC => Cb isAgg39 rfl (hC.2.rest.rowCell by_Om)) (Qa rfl (v := .pointer (some ⟨r 0, 0, none⟩)) (fun w hC => Ub (i := 0) 0 Df rfl rfl Ra by_Om by_Om) (Qa rfl (v := .int .i64 (R 0 0)) (fun w hC => Cb isAgg3 rfl (hC.2.rest.cell by_Om by_Om)) (Xa rfl (Il rfl) (Xa rfl (Gc rfl) (Xa rfl (Gc rfl) (Jc (Ha ?_)))))))))))))
 refine Fc (Bc (Za (Ex (v := .slice _ _ _) (x := .int .i64 (R 0 0)) (y := .int .i64 0) rfl rfl rfl rfl) ?_))
 have he : acc = Y0 0 0 la lb := by rw [← hac, Nu by_Om, List.append_nil]
 have hin := Iu la.length lb.length (la.length + lb.length) 0 0 la lb by_Om by_Om
 rw [he] at hSo
 have hrep := hSo.rep (w0 := w0) (pre := []) (post := []) hF (RX.plain (ids := []) (fun S => Zq (m := Y0 0 0 la lb) (fun z hz => by have := hin z hz; omega))) Ga
 exact ⟨Ao, co, by rw [he, hR0 0 0 by_Om by_Om]; rfl, hrep, hF.same⟩
 refine Sa (Sa (Sa (Sa (Ca (Jd rfl rfl) (Ea (Bg rfl ?_))))))
 refine Nc (Lc rfl ?_)
 refine Ha (Ia ?_)
 refine Id [] (.free 0 (.free 1 (.free 2 (.free 3 (.free 4 (.free 5 (.free 6 (.free 7 (.free 8 (.free 9 (.free 10 (.free 11 .nil)))))))))))) hF ?_
 clear hF; intro w hF hE
 replace hK := hK.ext hE
 replace hNw := Nat.le_trans hNw hE.size
 clear hE
 refine ⟨fun wq => FR w0 [] [] wq ∧ Ck wq N0 cb pb rb la lb T0 T1 t0 t1 k3 k4 q r P R, ⟨hF.sub (List.nil_sublist _), hK⟩, ?_⟩
 refine Xa rfl (Md rfl) (Xa rfl (De rfl) (Xa rfl (Of rfl) (Xa rfl (Kc Wf rfl) (Qa rfl (v := .slice (some ⟨rb, 0, none⟩) (la.length + 1) (k4)) (fun w hC => Cb isAgg36 rfl hC.2.c3) (Qa rfl (v := .pointer (some ⟨rb, 0, none⟩)) (fun w hC => Ub (i := 0) 0 Qh rfl rfl Ra by_Om by_Om) (Qa rfl (v := .slice (some ⟨r 0, 0, none⟩) (lb.length + 1) (lb.length + 1)) (fun w hC => Cb isAgg39 rfl (hC.2.rest.rowCell by_Om)) (Qa rfl (v := .pointer (some ⟨r 0, 0, none⟩)) (fun w hC => Ub (i := 0) 0 Df rfl rfl Ra by_Om by_Om) (Qa rfl (v := .int .i64 (R 0 0)) (fun w hC => Cb isAgg3 rfl (hC.2.rest.cell by_Om by_Om)) (Xa rfl (Il rfl) (Xa rfl (Gc rfl) (Xa rfl (Gc rfl) (Jc (Ha ?_)))))))))))))
 refine Fc (Bc (Za (Ex (v := .slice _ _ _) (x := .int .i64 (R 0 0)) (y := .int .i64 0) rfl rfl rfl rfl) ?_))
 have he : acc = Y0 0 0 la lb := by rw [← hac, Nu by_Om, List.append_nil]
 have hin := Iu la.length lb.length (la.length + lb.length) 0 0 la lb by_Om by_Om
 rw [he] at hSo
 have hrep := hSo.rep (w0 := w0) (pre := []) (post := []) hF (RX.plain (ids := []) (fun S => Zq (m := Y0 0 0 la lb) (fun z hz => by have := hin z hz; omega))) Ga
 exact ⟨Ao, co, by rw [he, hR0 0 0 by_Om by_Om]; rfl, hrep, hF.same⟩
end Go.Scarf
namespace Go.Scarf
open Go.RowKit Go.Proofs Go.Proofs.Tryz
def Zh (N : Nat) (f : Nat → Value) : Array Value := ((List.range N).map f).toArray
theorem VA (N : Nat) (f : Nat → Value) : (Zh N f).size = N := by simp [Zh]
theorem Wv {N k : Nat} {f : Nat → Value} (h : k < N) : (Zh N f)[k]? = some (f k) := by simp [Zh, h]
def Ro (f : Nat → Value) (k : Nat) (v : Value) : Nat → Value := fun x => if x = k then v else f x
theorem S5 (f : Nat → Value) (k : Nat) (v : Value) : Ro f k v k = v := if_pos rfl
theorem SD {f : Nat → Value} {k x : Nat} {v : Value} (h : x ≠ k) : Ro f k v x = f x := if_neg h
theorem RE {f : Nat → Value} {k : Nat} {v : Value} (h : f k = v) : Ro f k v = f := by
  funext x
  unfold Ro
  split
  · rename_i e; rw [e, h]
  · rfl
theorem RF {N k : Nat} {f : Nat → Value} (u v : Value) : Hj (Zh N (Ro f k u)) k [v] = Zh N (Ro f k v) := by
  rw [Hj, Hj]
  apply Array.ext
  · simp [Zh]
  · intro i h1 h2
    rw [Array.getElem_setIfInBounds (by simpa using h1)]
    by_cases e : k = i
    · subst e; simp [Zh, Ro]
    · have e' : ¬ i = k := fun h => e h.symm
      simp [Zh, Ro, e, e']
theorem GG (N : Nat) : (List.replicate N (Value.slice none 0 0)).toArray = Zh N fun _ => .slice none 0 0 := by
  apply Array.ext
  · simp [Zh]
  · intro i h1 h2; simp [Zh]
def rng (j k : Nat) : List Int := (List.range' j (k - j)).map fun i : Nat => (i : Int)
theorem NI (j : Nat) : rng j j = [] := by simp [rng]
theorem L5 (j k : Nat) : (rng j k).length = k - j := by simp [rng]
theorem VH {j k : Nat} (h : j ≤ k) : rng j (k + 1) = rng j k ++ [(k : Int)] := by
  unfold rng
  rw [show k + 1 - j = k - j + 1 by omega, List.range'_1_concat, List.map_append, show j + (k - j) = k by omega]; rfl
theorem SN (j k : Nat) : rng j (max j k) = rng j k := by
  unfold rng
  rw [show max j k - j = k - j by omega]
theorem XH {j k : Nat} : ∀ z ∈ rng j k, (j : Int) ≤ z ∧ z < (k : Int) := fun z hz => by
  obtain ⟨i, hi, rfl⟩ := List.mem_map.1 hz
  have := List.mem_range'_1.1 hi
  omega
theorem UI (w0 : World) (N g ob jb vb tt j : Nat) (hd : Nat → Value) (acc : List Int) (A : Option Addr) (c : Nat) (sg : List (Nat × Obj)) (hg : g < N) (hN : N ≤ 65) (hto : tt ≤ 64) (hj1 : j ≤ 1000) (hlen : acc.length ≤ 100000) (hob : w0.heap[ob]? = some (.cells (Zh N hd) 39)) (hjb : w0.heap[jb]? = some (.cells #[.int .i64 (j : Nat)] 3)) (hvb : w0.heap[vb]? = some (.cells #[.slice (some ⟨ob, 0, none⟩) N N] 36)) (hh : hd g = .slice A acc.length c) (hS : SlB 3 1 A acc.length c (Ru acc) sg) (hsg : ∀ z ∈ sg, w0.heap[z.1]? = some z.2 ∧ z.1 ≠ ob ∧ z.1 ≠ jb ∧ z.1 ≠ vb) (hne : jb ≠ ob ∧ vb ≠ ob ∧ vb ≠ jb) : Calls prog 31 #[.int .i64 ((g : Nat) : Int), .int .i64 ((tt : Nat) : Int), .pointer (some ⟨jb, 0, none⟩), .pointer (some ⟨vb, 0, none⟩)] w0 (Rd fun v w' => ∃ (A' : Option Addr) (c' : Nat) (sg' : List (Nat × Obj)), v = .tuple #[] ∧ w'.heap[ob]? = some (.cells (Zh N (Ro hd g (.slice A' (acc ++ rng j tt).length c'))) 39) ∧ w'.heap[jb]? = some (.cells #[.int .i64 ((max j tt : Nat) : Int)] 3) ∧ w'.heap[vb]? = some (.cells #[.slice (some ⟨ob, 0, none⟩) N N] 36) ∧ SlB 3 1 A' (acc ++ rng j tt).length c' (Ru (acc ++ rng j tt)) sg' ∧ (∀ z ∈ sg', w'.heap[z.1]? = some z.2 ∧ z.1 ≠ ob ∧ z.1 ≠ jb ∧ z.1 ≠ vb ∧ (z.1 ∈ sg.map (·.1) ∨ w0.heap.size ≤ z.1)) ∧ Same ([ob, jb, vb] ++ sg.map (·.1)) w0 w') := by
 refine Ma func31 rfl ntmps31 Jb (NA _ _ _ _) ?_
 have hF : FR w0 ([ob, jb, vb] ++ sg.map (·.1)) ([(ob, .cells (Zh N (Ro hd g (.slice A acc.length c))) 39), (jb, .cells #[.int .i64 ((j : Nat))] 3), (vb, .cells #[.slice (some ⟨ob, 0, none⟩) N N] 36)] ++ (sg ++ [])) w0 := FR.open_ (fun z hz => by simp only [List.append_nil, List.mem_append, List.mem_cons, List.not_mem_nil, or_false] at hz ⊢; rcases hz with (rfl | rfl | rfl) | hz; (exact ⟨by rw [RE hh]; exact hob, by simp⟩); (exact ⟨hjb, by simp⟩); (exact ⟨hvb, by simp⟩); (exact ⟨(hsg z hz).1, .inr (List.mem_map_of_mem hz)⟩)) (by rw [List.append_nil, List.pairwise_append]; refine ⟨by simp [hne.1, hne.2.1, hne.2.2], hS.pw, fun z hz y hy => ?_⟩; have h := hsg y hy; simp only [List.mem_cons, List.not_mem_nil, or_false] at hz; rcases hz with rfl | rfl | rfl; (exact h.2.1); (exact h.2.2.1); (exact h.2.2.2))
 refine Va ?_
 refine Uc (fun μ σ w => ∃ (q : Nat), ∃ (Ax : Option Addr), ∃ (cx : Nat), ∃ (so : List (Nat × Obj)), ∃ (ac : List Int), μ = tt - q ∧ (j ≤ q ∧ (q ≤ tt ∨ q = j)) ∧ (SlB 3 1 Ax ac.length cx (Ru ac) so) ∧ (ac = acc ++ rng j q) ∧ (∀ z ∈ so, z.1 ∈ sg.map (·.1) ∨ w0.heap.size ≤ z.1) ∧ (w0.heap.size ≤ w.heap.size) ∧ AllEq σ [(0, .int .i64 ((g : Nat))), (1, .int .i64 ((tt : Nat))), (2, .pointer (some ⟨jb, 0, none⟩)), (3, .pointer (some ⟨vb, 0, none⟩))] ∧ FR w0 ([ob, jb, vb] ++ sg.map (·.1)) ([(ob, .cells (Zh N (Ro hd g (.slice Ax ac.length cx))) 39), (jb, .cells #[.int .i64 ((q : Nat))] 3), (vb, .cells #[.slice (some ⟨ob, 0, none⟩) N N] 36)] ++ (so ++ [])) w) _ ⟨j, A, c, sg, acc, rfl, by_Om, (hS), (by rw [NI, List.append_nil]), (fun z hz => .inl (List.mem_map_of_mem hz)), (hF.same.size), Gt, hF⟩ ?_
 clear hF; rintro μ σ w ⟨q, Ax, cx, so, ac, rfl, hq, hSo, hac, hso, hF0, hs, hF⟩
 refine Cg.slots hs ?_
 clear hs; intro σ
 refine Ia (Ka (Qd (Zr isAgg3 rfl hF.F 1 rfl rfl) (Ca (Hb rfl) (Ca (Nk rfl rfl) (Ea ?_)))))
 refine Pc rfl rfl (fun hc0 => ?_) (fun hc0 => ?_)
 refine Wa (Ha (Ia (Va ?_)))
 refine Id [10] (.free 0 (.free 1 (.free 2 (.free 3 (.free 4 (.free 5 (.free 6 (.act 7 (.act 8 (.free 9 (.act 10 .nil))))))))))) hF ?_
 clear hF; intro w hF hE
 replace hF0 := Nat.le_trans hF0 hE.size
 clear hE
 refine ⟨fun wq => FR w0 ([ob, jb, vb] ++ sg.map (·.1)) [(ob, .cells (Zh N (Ro hd g (.slice Ax ac.length cx))) 39), (jb, .cells #[.int .i64 ((q : Nat))] 3), (vb, .cells #[.slice (some ⟨ob, 0, none⟩) N N] 36)] wq, hF.sub (.cons_cons _ (.cons_cons _ (.cons_cons _ (List.nil_sublist _)))), ?_⟩
 refine Zo rfl (Vi isAgg36 rfl C0 2 rfl rfl) (Xa rfl (Hb rfl) (Zo rfl (Vi isAgg36 rfl C0 2 rfl rfl) (Xa rfl (Hb rfl) (Qa rfl (v := .pointer (some ⟨ob, g, none⟩)) (fun w hC => Ub (i := ((g : Nat) : Int)) (g) Qh rfl rfl by_Om by_Om by_Om) ?_))))
 refine Qa rfl (v := .slice Ax ac.length cx) (fun w hC => Cb isAgg39 rfl (by rw [Ob (hC.heap (i := 0) rfl), Wv hg, S5])) ?_
 refine Zo rfl (Zr isAgg3 rfl C0 1 rfl rfl) ?_
 refine Wd 1 rfl hF (Ua (cs := #[.int .i64 ((q : Nat))]) underlying39 sizeOf3 zeroValue3 Ra Ra Ib) ?_
 clear hF; intro b1 w hb1 hF hE
 replace hF0 := Nat.le_trans hF0 hE.size
 clear hE
 refine ⟨hF.sub (.cons _ (.cons_cons _ (.cons_cons _ (.cons_cons _ (List.nil_sublist _))))), ?_⟩
 refine Qc [(b1, .cells #[.int .i64 ((q : Nat))] 3), (ob, .cells (Zh N (Ro hd g (.slice Ax ac.length cx))) 39), (jb, .cells #[.int .i64 ((q : Nat))] 3), (vb, .cells #[.slice (some ⟨ob, 0, none⟩) N N] 36)] [] (news := [.int .i64 ((q : Nat))]) (len' := (ac ++ [(q : Int)]).length) (ys := Ru (ac ++ [(q : Int)])) rfl Ki hF hSo rfl rfl (rfl) (fun _ => ⟨_, rfl, Xb (hF.cellsAll 0 rfl)⟩) (by simp [Value.oneCell']) (by simp only [maxLen]; have := congrArg List.length hac; simp only [List.length_append, L5] at this; omega) Ga (by simp [Ru]) (by have := congrArg List.length hac; simp only [List.length_append, L5] at this; omega) ?_
 clear hF; intro A0 c0 o_0 w hS0_o hF hE hnew
 replace hso : ∀ z ∈ o_0, z.1 ∈ sg.map (·.1) ∨ w0.heap.size ≤ z.1 := fun z hz => (hnew z hz).elim (fun h => by obtain ⟨z2, hz2, e⟩ := List.mem_map.1 h; rw [← e]; exact hso z2 hz2) (fun h => .inr (Nat.le_trans hF0 h))
 replace hF0 := Nat.le_trans hF0 hE.size
 clear hE hnew
 refine ⟨hF.sub (.cons _ (.cons_cons _ (.cons_cons _ (.cons_cons _ (List.nil_sublist _))))), ?_⟩
 refine Qa rfl (v := .pointer (some ⟨ob, g, none⟩)) (fun w hC => Ub (i := ((g : Nat) : Int)) (g) Qh rfl rfl by_Om by_Om by_Om) ?_
 refine Ad rfl 1 (l := [.slice A0 ((ac ++ [(q : Int)]).length) c0]) (cs' := Zh N (Ro hd g (.slice A0 ((ac ++ [(q : Int)]).length) c0))) hF sizeOf39 rfl rfl rfl Od rfl (by rw [VA]; simp only [List.length_singleton]; omega) (RF _ _) ?_
 clear hF; intro w hF hE
 replace hF0 := Nat.le_trans hF0 hE.size
 clear hE
 replace hF : FR w0 ([ob, jb, vb] ++ sg.map (·.1)) ([(b1, .cells #[.int .i64 ((q : Nat))] 3), (ob, .cells (Zh N (Ro hd g (.slice A0 ((ac ++ [(q : Int)]).length) c0))) 39), (jb, .cells #[.int .i64 ((q : Nat))] 3), (vb, .cells #[.slice (some ⟨ob, 0, none⟩) N N] 36)] ++ (o_0 ++ [])) w := hF
 refine Jc (Mb (Ha (Da (Qd (Zr isAgg3 rfl hF.F 2 rfl rfl) (Ca (Qi (((q + 1 : Nat) : Int)) rfl rfl) ?_)))))
 refine Co (.int _ _) hF sizeOf3 rfl rfl WM.app Gn ?_
 clear hF; intro w hF hE
 replace hF0 := Nat.le_trans hF0 hE.size
 clear hE
 refine Ya ?_
 refine Ic ⟨_, ?_, q + 1, A0, c0, o_0, ac ++ [(q : Int)], rfl, by_Om, (hS0_o), (by rw [VH by_Om, hac, List.append_assoc]), (hso), (hF.same.size), Gt, hF.drop 1⟩
 omega
 refine Nc (Lc rfl ?_)
 refine Fe (Yc (Ef rfl) ?_)
 obtain rfl : q = max j tt := by omega
 rw [SN] at hac
 subst hac
 have hps := FR.apart (pre := [_, _, _]) (rest := so ++ []) (i := 0) hF rfl
 have hpj := FR.apart (pre := [_, _, _]) (rest := so ++ []) (i := 1) hF rfl
 have hpv := FR.apart (pre := [_, _, _]) (rest := so ++ []) (i := 2) hF rfl
 rw [List.append_nil] at hps hpj hpv
 exact ⟨Ax, cx, so, rfl, hF.heap (i := 0) rfl, hF.heap (i := 1) rfl, hF.heap (i := 2) rfl, hSo, fun z hz => ⟨(hF.own z (by simp [hz])).1, fun e => hps (e ▸ List.mem_map_of_mem hz), fun e => hpj (e ▸ List.mem_map_of_mem hz), fun e => hpv (e ▸ List.mem_map_of_mem hz), hso z hz⟩, hF.same⟩
end Go.Scarf
