/- A part of the proof. -/
import Derived.Test.YtepbomjpbdbejaaGreatDoorA4
set_option linter.all false
set_option maxHeartbeats 8000000
set_option maxRecDepth 10000
namespace Go.Scarf
open Go.RowKit Go.Proofs Go.Proofs.Tryz
def Uv : Nat → Nat → Nat → List TreeN → List TreeN → List (Int × Int)
  | 0, _, _, _, _ => []
  | f + 1, i, j, x :: xs, y :: ys =>
    if al Km pN (x :: xs) (y :: ys) = pN x y + al Km pN xs ys then ((i : Int), (j : Int)) :: Uv f (i + 1) (j + 1) xs ys
    else if al Km pN (x :: xs) (y :: ys) = Km x + al Km pN xs (y :: ys) then Uv f (i + 1) j xs (y :: ys)
    else Uv f i (j + 1) (x :: xs) ys
  | _ + 1, _, _, _, _ => []
theorem Xk : ∀ (f g : Nat) (i j : Nat) (xs ys : List TreeN), xs.length + ys.length ≤ f → xs.length + ys.length ≤ g → Uv f i j xs ys = Uv g i j xs ys
  | 0, g, i, j, xs, ys, h, _ => by
    obtain rfl : xs = [] := List.eq_nil_of_length_eq_zero by_Om
    cases g <;> rfl
  | f + 1, 0, i, j, xs, ys, _, h => by
    obtain rfl : xs = [] := List.eq_nil_of_length_eq_zero by_Om
    rfl
  | f + 1, g + 1, i, j, [], ys, _, _ => rfl
  | f + 1, g + 1, i, j, x :: xs, [], _, _ => rfl
  | f + 1, g + 1, i, j, x :: xs, y :: ys, h1, h2 => by
    simp only [List.length_cons] at h1 h2
    rw [Uv, Uv, Xk f g (i + 1) (j + 1) xs ys by_Om by_Om, Xk f g (i + 1) j xs (y :: ys) (by simp only [List.length_cons]; omega) (by simp only [List.length_cons]; omega), Xk f g i (j + 1) (x :: xs) ys (by simp only [List.length_cons]; omega) (by simp only [List.length_cons]; omega)]
def D5 (i j : Nat) (xs ys : List TreeN) : List (Int × Int) := Uv (xs.length + ys.length) i j xs ys
section
variable {la lb : List TreeN} {i j : Nat}
theorem Ww (h1 : i < la.length) (h2 : j < lb.length) : D5 i j (la.drop i) (lb.drop j) =
    if al Km pN (la.drop i) (lb.drop j) = pN la[i] lb[j] + al Km pN (la.drop (i + 1)) (lb.drop (j + 1)) then ((i : Int), (j : Int)) :: D5 (i + 1) (j + 1) (la.drop (i + 1)) (lb.drop (j + 1))
    else if al Km pN (la.drop i) (lb.drop j) = Km la[i] + al Km pN (la.drop (i + 1)) (lb.drop j) then D5 (i + 1) j (la.drop (i + 1)) (lb.drop j)
    else D5 i (j + 1) (la.drop i) (lb.drop (j + 1)) := by
  unfold D5
  rw [List.drop_eq_getElem_cons h1, List.drop_eq_getElem_cons h2]
  rw [show (la[i] :: la.drop (i + 1)).length + (lb[j] :: lb.drop (j + 1)).length = ((la.drop (i + 1)).length + (lb.drop (j + 1)).length + 1) + 1 by simp only [List.length_cons]; omega, Uv]
  rw [Xk _ ((la.drop (i + 1)).length + (lb.drop (j + 1)).length) (i + 1) (j + 1) _ _ by_Om by_Om,
    Xk _ ((la.drop (i + 1)).length + (lb[j] :: lb.drop (j + 1)).length) (i + 1) j _ _ (by simp only [List.length_cons]; omega) by_Om,
    Xk _ ((la[i] :: la.drop (i + 1)).length + (lb.drop (j + 1)).length) i (j + 1) _ _ (by simp only [List.length_cons]; omega) by_Om]
theorem U8 (h : ¬ (i < la.length ∧ j < lb.length)) : D5 i j (la.drop i) (lb.drop j) = [] := by
  unfold D5
  by_cases h1 : la.length ≤ i
  · rw [List.drop_eq_nil_of_le h1]
    generalize ([] : List TreeN).length + (lb.drop j).length = f
    cases f <;> rfl
  · rw [List.drop_eq_nil_of_le (show lb.length ≤ j by omega)]
    generalize (la.drop i).length + ([] : List TreeN).length = f
    cases f
    · rfl
    · cases la.drop i <;> rfl
theorem Ms (n m : Nat) : ∀ (f i j : Nat) (xs ys : List TreeN), i + xs.length ≤ n → j + ys.length ≤ m → ∀ z ∈ Uv f i j xs ys, (i : Int) ≤ z.1 ∧ z.1 < (n : Int) ∧ (j : Int) ≤ z.2 ∧ z.2 < (m : Int)
  | 0, _, _, _, _, _, _, z, hz => by cases hz
  | f + 1, i, j, [], _, _, _, z, hz => by cases hz
  | f + 1, i, j, _ :: _, [], _, _, z, hz => by cases hz
  | f + 1, i, j, x :: xs, y :: ys, h1, h2, z, hz => by
    simp only [List.length_cons] at h1 h2
    rw [Uv] at hz
    split at hz
    · rcases List.mem_cons.1 hz with rfl | hz
      · simp only; omega
      · have := Ms n m f (i + 1) (j + 1) xs ys by_Om by_Om z hz; omega
    · split at hz
      · have := Ms n m f (i + 1) j xs (y :: ys) by_Om (by simp only [List.length_cons]; omega) z hz; omega
      · have := Ms n m f i (j + 1) (x :: xs) ys (by simp only [List.length_cons]; omega) by_Om z hz; omega
end
theorem Rp {S : Nat → Prop} {w : World} : ∀ {m : List (Int × Int)}, (∀ z ∈ m, (-9223372036854775808 ≤ z.1 ∧ z.1 ≤ 9223372036854775807) ∧ (-9223372036854775808 ≤ z.2 ∧ z.2 ≤ 9223372036854775807)) → RepL S w (m.map Gs) (It m)
  | [], _ => by rw [List.map_nil, RepL]; rfl
  | z :: m, h => by
    rw [List.map_cons, RepL]
    exact ⟨Ai z, It m, rfl, OE (h z Ga).1 (h z Ga).2, Rp fun y hy => h y (by simp [hy])⟩
theorem M0 (l : List Tree) (la : List TreeN) (hl : la = l.map Th) (he : Xm l = 0) (A : Option Addr) (c : Nat) (S : Nat → Prop) (w0 : World) (hG : Gl w0) (hX : Rep S w0 (.slice (He l)) [.slice A l.length c]) (hok : ∀ x ∈ l, Pt x) :
    Calls prog 24 #[.slice A l.length c] w0 (Md fun v w' => ∃ (A' : Option Addr) (c' : Nat), v = .tuple #[.slice A' la.length c', .int .i64 0] ∧ Rep (Btw w0 w') w' (.slice (la.map Yj)) [.slice A' la.length c'] ∧ Same [] w0 w') :=
  Ue (NG l A c S w0 hG hX hok) fun v w' h => by
    rcases h with ⟨h, _⟩ | ⟨_, A', c', rfl, hr, hs⟩
    · exact absurd he h
    · subst hl; exact ⟨A', c', by rw [List.length_map], by rw [List.length_map]; exact hr, hs⟩
theorem Wv {l : List Tree} (h : Xm l = 0) : (∀ x ∈ l, Wd x = true) ∧ l.length ≤ 64 ∧ Zu l ≤ 512 := by
  unfold Xm at h
  split at h
  · rename_i ha
    split at h
    · cases h
    · split at h
      · cases h
      · exact ⟨fun x hx => List.all_eq_true.1 ha x hx, by omega, by omega⟩
  · cases h
theorem X5 {l : List Tree} (h : Xm l = 0) (hok : ∀ x ∈ l, Pt x) : (∀ x ∈ l.map Th, Ch x.1 x.2) ∧ ∀ x ∈ l.map Th, Km x ≤ 512 := by
  have hy := Wv h
  constructor
  · intro x hx
    obtain ⟨t, ht, rfl⟩ := List.mem_map.1 hx
    exact Nv (hy.1 t ht) (hok t ht).2.1
  · intro x hx
    obtain ⟨t, ht, rfl⟩ := List.mem_map.1 hx
    have h1 := Nm (hy.1 t ht)
    have h2 := (hok t ht).2.1
    show (Yg t).length ≤ 512
    omega
def NL (N1 cb pb rb n : Nat) (q r : Nat → Nat) : Prop := cb < N1 ∧ pb < N1 ∧ rb < N1 ∧ ∀ i, i < n + 1 → q i < N1 ∧ r i < N1
section
variable {w w' : World} {N0 N1 cb pb rb : Nat} {la lb : List TreeN} {Aa Ab : Option Addr} {k1 k2 k3 k4 : Nat} {q r : Nat → Nat} {P R : Nat → Nat → Int}
theorem Ck.lt (h : Ck w N0 cb pb rb la lb Aa Ab k1 k2 k3 k4 q r P R) : NL w.heap.size cb pb rb la.length q r := by
  obtain ⟨_, h1, _⟩ := h.pair.top
  obtain ⟨_, h2, _⟩ := h.rest.top
  exact ⟨Da h.cell, Da h1, Da h2, fun i hi => ⟨Da (h.pair.row i hi), Da (h.rest.row i hi)⟩⟩
theorem Ck.apart (h : Ck w N0 cb pb rb la lb Aa Ab k1 k2 k3 k4 q r P R) (hl : NL N1 cb pb rb la.length q r) {E : List Nat} (hs : Same E w w') (he : ∀ b ∈ E, N1 ≤ b) : Ck w' N0 cb pb rb la lb Aa Ab k1 k2 k3 k4 q r P R := by
  have hlo := h.lo
  have nl : ∀ x, x < N1 → x ∉ E := fun x hx hm => by have := he x hm; omega
  exact h.keep hs (fun b hb => by have := he b hb; have := hl.1; omega) (nl _ hl.1) (nl _ hl.2.1) (nl _ hl.2.2.1) (fun i hi => nl _ (hl.2.2.2 i hi).1) (fun i hi => nl _ (hl.2.2.2 i hi).2)
end
theorem EE (S S' : Nat → Prop) (w0 : World) (hG : Gl w0) (x y : List Tree) (A B : Option Addr) (c e : Nat) (hX : Rep S w0 (.slice (He x)) [.slice A x.length c]) (hY : Rep S' w0 (.slice (He y)) [.slice B y.length e]) (hokx : ∀ z ∈ x, Pt z) (hoky : ∀ z ∈ y, Pt z) (la lb : List TreeN) (hla : la = x.map Th) (hlb : lb = y.map Th) (hex : Xm x = 0) (hey : Xm y = 0) : Calls prog 11 #[.slice A x.length c, .slice B y.length e] w0 (Md fun v w' => ∃ (Az : Option Addr) (cz : Nat), v = .tuple #[.slice Az (D5 0 0 la lb).length cz, .int .i64 ((al Km pN la lb : Nat) : Int), .int .i64 0] ∧ Rep (Btw w0 w') w' (Re (D5 0 0 la lb)) [.slice Az (D5 0 0 la lb).length cz] ∧ Same [] w0 w') := by
 have hRa : (∀ x ∈ la, Ch x.1 x.2) ∧ ∀ x ∈ la, Km x ≤ 512 := by rw [hla]; exact X5 hex hokx
 have hRb : (∀ x ∈ lb, Ch x.1 x.2) ∧ ∀ x ∈ lb, Km x ≤ 512 := by rw [hlb]; exact X5 hey hoky
 have hll : la.length ≤ 64 ∧ lb.length ≤ 64 := by rw [hla, hlb, List.length_map, List.length_map]; exact ⟨(Wv hex).2.1, (Wv hey).2.1⟩
 refine Ka func11 rfl ntmps11 Gb (Sd _ _) ?_
 have hF := FR.start w0 []
 refine Ma (Ca (Mh rfl) (Ca (Pc rfl) (Ca (Pc rfl) (Cc (Ca (Pd rfl) ?_)))))
 refine Eb (M0 x la hla hex _ _ _ _ (hG.ext hF.same) (hF.rep hX) hokx) (Ob EI rfl rfl) ?_
 rintro _ w ⟨T0, t0, rfl, hT0, hE⟩
 replace hF := hF.ext hE
 clear hE
 refine Ca (Gn rfl) (Ca (R5 rfl rfl) (Ca (Mt rfl rfl) (Ca (Mh rfl) (Ca (Pc rfl) (Cc (Ca (Pd rfl) ?_))))))
 refine Eb (M0 y lb hlb hey _ _ _ _ (hG.ext hF.same) (hF.rep hY) hoky) (Ob EI rfl rfl) ?_
 rintro _ w ⟨T1, t1, rfl, hT1, hE⟩
 replace hF := hF.ext hE
 replace hT0 := hT0.ext hE
 clear hE
 refine Ca (Gn rfl) (Ca (R5 rfl rfl) (Ca (Mt rfl rfl) (Ca (Mh rfl) (Ca (Pc rfl) (Fa (Ja (Ya (Ma (Ca (Hb rfl) (Ia (v := .bool false) (Ld (Ui rfl rfl) Ta) (Ca (Kd rfl) ?_)))))))))))
 refine Ca (Hb rfl) (Ia (v := .bool false) (Ld (Ui rfl rfl) Ta) (Ca (Fd rfl rfl) (Ca (Hc rfl) (Fa (Qg rfl (Ma (Ca (Hb rfl) (Ia (v := .bool false) (Ld (I3 rfl rfl) Ta) (Ca (Kd rfl) (Ca (Hb rfl) (Ia (v := .bool false) (Ld (I3 rfl rfl) Ta) ?_)))))))))))
 refine Ca (Fd rfl rfl) (Ca (Hc rfl) (Fa (Qg rfl (Cb (Kb (Ha (Ma (Ca (Pd rfl) (Ca (Pd rfl) ?_)))))))))
 obtain ⟨N0, hN0⟩ : ∃ N, N = w.heap.size := ⟨_, rfl⟩
 refine Eb (BE _ _ _ la lb T0 T1 t0 t1 hT0 hT1 hll hRa.1 hRb.1 hRa.2 hRb.2) (Mb IL rfl rfl rfl) ?_
 rintro _ w ⟨cb, pb, rb, k3, k4, q, r, P, R, rfl, hK, hR0, hP0, hE⟩
 rw [← hN0] at hK
 replace hF := hF.ext hE
 have hlt := hK.lt
 obtain ⟨N1, hN1⟩ : ∃ N, N = w.heap.size := ⟨_, rfl⟩
 rw [← hN1] at hlt
 have hNw : N1 ≤ w.heap.size := Nat.le_of_eq hN1
 clear hE hN0 hN1 hT0 hT1
 have hmx : ∀ x y, al Km pN (la.drop x) (lb.drop y) ≤ 65536 := fun x y => Nat.le_trans (WB (fun z hz => hRa.2 z (List.mem_of_mem_drop hz)) (fun z hz => hRb.2 z (List.mem_of_mem_drop hz))) (by simp only [List.length_drop]; omega)
 have hRq : ∀ a b, a ≤ la.length → b ≤ lb.length → 0 ≤ R a b ∧ R a b ≤ 1000000 := fun a b ha hb => by have h1 := hmx a b; rw [hR0 a b ha hb]; omega
 have hPq : ∀ a b (h1 : a < la.length) (h2 : b < lb.length), 0 ≤ P a b ∧ P a b ≤ 1000000 := fun a b h1 h2 => by have h3 : pN la[a] lb[b] ≤ la[a].1.length + lb[b].1.length := (Uo (ls := la[a].1) (fs := la[a].2) (gs := lb[b].1) (hs := lb[b].2)).1; have h4 : la[a].1.length ≤ 512 := hRa.2 _ (List.getElem_mem h1); have h5 : lb[b].1.length ≤ 512 := hRb.2 _ (List.getElem_mem h2); rw [hP0 a b h1 h2]; omega
 refine Ca (U6 rfl) (Cc (Ca (Mh rfl) (Fa (Ja (Ma (Ca (Pc rfl) (Ca (Pc rfl) (Fb ?_))))))))
 refine Ha (Ya ?_)
 refine Uc (fun μ σ w => ∃ (i : Nat), ∃ (j : Nat), ∃ (Ao : Option Addr), ∃ (co : Nat), ∃ (so : List (Nat × Obj)), ∃ (acc : List (Int × Int)), μ = la.length + lb.length - (i + j) ∧ (i ≤ la.length) ∧ (j ≤ lb.length) ∧ (SlB 49 2 Ao acc.length co (It acc) so) ∧ (Ck w N0 cb pb rb la lb T0 T1 t0 t1 k3 k4 q r P R) ∧ (N1 ≤ w.heap.size) ∧ (∀ z ∈ so, N1 ≤ z.1) ∧ (acc ++ D5 i j (la.drop i) (lb.drop j) = D5 0 0 la lb) ∧ (acc.length ≤ i) ∧ AllEq σ [(7, .slice T0 la.length t0), (9, .slice T1 lb.length t1), (11, .pointer (some ⟨cb, 0, none⟩)), (12, .slice Ao acc.length co), (13, .int .i64 ((i : Int))), (14, .int .i64 ((j : Int)))] ∧ FR w0 [] ([] ++ (so ++ [])) w) _ ⟨0, 0, none, 0, [], [], rfl, (Nat.zero_le _), (Nat.zero_le _), (SlB.nil _ _), (hK), (hNw), Ga, Ga, (Nat.zero_le _), LB, hF⟩ ?_
 clear hF; rintro μ σ w ⟨i, j, Ao, co, so, acc, rfl, hi, hj, hSo, hK, hNw, hso, hac, hal, hs, hF⟩
 refine Cg.slots hs ?_
 clear hs; intro σ
 refine Ja (Ma (Ca (Hb rfl) (Ca (Pd rfl) (Ca (Lf underlying51 rfl) (Ca (Yk rfl rfl) (Ca (Kd rfl) ?_))))))
 refine Gd (d := 46) rfl (fun hg0 => ?_) (fun hg0 => ?_)
 refine Ca (Hb rfl) (Ca (Pd rfl) (Ca (Lf underlying51 rfl) (Ca (Yk rfl rfl) (Ca (Rc rfl rfl) (Fa ?_)))))
 refine Kc rfl rfl (fun hc2 => ?_) (fun hc2 => ?_)
 refine Cb (Ha (Ya (Ma (Ca (Qd rfl) (Ca (Cf rfl) (Ca (Gc Nf rfl) (Ia (v := .slice (some ⟨rb, 0, none⟩) (la.length + 1) (k4)) (Wa isAgg36 rfl hK.c3) (Ca (Hb rfl) (Ia (v := .pointer (some ⟨rb, i, none⟩)) (Pb (i := ((i : Nat) : Int)) (i) Uf rfl rfl by_Om by_Om by_Om) (Ia (v := .slice (some ⟨r (i), 0, none⟩) (lb.length + 1) (lb.length + 1)) (Wa isAgg39 rfl (hK.rest.rowCell by_Om)) (Ca (Hb rfl) (Ia (v := .pointer (some ⟨r (i), j, none⟩)) (Pb (i := ((j : Nat) : Int)) (j) Ke rfl rfl by_Om by_Om by_Om) ?_))))))))))))
 refine Ia (v := .int .i64 (R i j)) (Wa isAgg3 rfl (hK.rest.cell by_Om by_Om)) (Fa (Ya (Ma (Ca (Qd rfl) (Ca (Hb rfl) (Ca (Hb rfl) ?_))))))
 refine Eb (Mr _ N0 cb pb rb la lb T0 T1 t0 t1 k3 k4 q r P R hK i j hll by_Om by_Om (hPq i j by_Om by_Om) (hRq (i + 1) (j + 1) by_Om by_Om)) (Bc J5 rfl rfl rfl rfl) ?_
 rintro _ w ⟨rfl, hE⟩
 replace hF := hF.ext hE
 replace hK := hK.ext hE
 replace hNw := Nat.le_trans hNw hE.size
 clear hE
 refine Ca (Ho rfl rfl) (Ca (Hc rfl) (Fa ?_))
 refine Kc rfl rfl (fun hc3 => ?_) (fun hc3 => ?_)
 refine Ma (Ca (Pd rfl) (Ca (Hb rfl) (Ca (Hb rfl) ?_)))
 refine Ia (w' := w) (v := .agg #[.int .i64 ((i : Int)), .int .i64 ((j : Int))]) Db ?_
 refine If 1 hF (Ua (cs := #[.int .i64 ((i : Int)), .int .i64 ((j : Int))]) underlying29 sizeOf49 zeroValue49 Ta Ta Db) ?_
 clear hF; intro b1 w hb1 hF hE
 replace hK := hK.ext hE
 replace hNw := Nat.le_trans hNw hE.size
 clear hE
 refine Pm [(b1, .cells #[.int .i64 ((i : Int)), .int .i64 ((j : Int))] 49)] [] (news := [.int .i64 ((i : Int)), .int .i64 ((j : Int))]) (len' := (acc ++ [((i : Int), (j : Int))]).length) (ys := It (acc ++ [((i : Int), (j : Int))])) QL hF hSo rfl rfl (rfl) (fun _ => ⟨_, rfl, Ub (hF.cellsAll 0 rfl)⟩) (by simp [Value.oneCell']) (by simp only [maxLen]; omega) Ga (by simp [It]) by_Om ?_
 clear hF; intro A1 c1 o_1 w hS1_o hF hE hnew
 replace hK := hK.apart hlt hE (fun b hb_ => by obtain ⟨z, hz, rfl⟩ := List.mem_map.1 hb_; exact hso z hz)
 replace hso := fun z hz => (hnew z hz).elim (fun h => by obtain ⟨z2, hz2, e⟩ := List.mem_map.1 h; rw [← e]; exact hso z2 hz2) (fun h => Nat.le_trans hNw h)
 replace hNw := Nat.le_trans hNw hE.size
 clear hE hnew
 refine Ca (Mh rfl) (Fa (Ea (Ca (Hb rfl) (Ca (Di (((i + 1 : Nat) : Int)) rfl rfl) (Ca (Hb rfl) (Ca (Di (((j + 1 : Nat) : Int)) rfl rfl) (Ca (Pc rfl) (Ca (Pc rfl) (Fb (Kb (Kb ?_)))))))))))
 refine Dc ⟨_, ?_, i + 1, j + 1, A1, c1, o_1, acc ++ [((i : Int), (j : Int))], rfl, by_Om, by_Om, (hS1_o), (hK), (hNw), (hso), (by rw [List.append_assoc, List.singleton_append, ← hac, Ww (la := la) (lb := lb) (i := i) (j := j) by_Om by_Om, if_pos (by have e1 := hR0 i j by_Om by_Om; have e2 := hR0 (i + 1) (j + 1) by_Om by_Om; have e3 := hP0 i j by_Om by_Om; omega)]), (by simp only [List.length_append, List.length_cons, List.length_nil]; omega), LB, hF.drop 1⟩
 omega
 refine Ma (Ca (Qd rfl) (Ca (Hb rfl) (Ca (Hb rfl) ?_)))
 refine Eb (Mn _ N0 cb pb rb la lb T0 T1 t0 t1 k3 k4 q r P R hK i j hll by_Om by_Om (fun j h => hRa.2 _ (List.getElem_mem h)) (hRq (i + 1) j by_Om by_Om)) (Bc Tx rfl rfl rfl rfl) ?_
 rintro _ w ⟨rfl, hE⟩
 replace hF := hF.ext hE
 replace hK := hK.ext hE
 replace hNw := Nat.le_trans hNw hE.size
 clear hE
 refine Ca (Ho rfl rfl) (Ca (Hc rfl) (Fa ?_))
 refine Kc rfl rfl (fun hc4 => ?_) (fun hc4 => ?_)
 refine Ea (Ca (Hb rfl) (Ca (Di (((i + 1 : Nat) : Int)) rfl rfl) (Ca (Pc rfl) (Fb (Kb (Kb ?_))))))
 refine Dc ⟨_, ?_, i + 1, j, Ao, co, so, acc, rfl, by_Om, by_Om, (hSo), (hK), (hNw), (hso), (by rw [← hac, Ww (la := la) (lb := lb) (i := i) (j := j) by_Om by_Om, if_neg (by have e1 := hR0 i j by_Om by_Om; have e2 := hR0 (i + 1) (j + 1) by_Om by_Om; have e3 := hP0 i j by_Om by_Om; omega), if_pos (by have e1 := hR0 i j by_Om by_Om; have e2 := hR0 (i + 1) j by_Om by_Om; simp only [Km]; omega)]), by_Om, LB, hF⟩
 omega
 refine Ea (Ca (Hb rfl) (Ca (Di (((j + 1 : Nat) : Int)) rfl rfl) (Ca (Pc rfl) (Fb (Kb (Kb ?_))))))
 refine Dc ⟨_, ?_, i, j + 1, Ao, co, so, acc, rfl, by_Om, by_Om, (hSo), (hK), (hNw), (hso), (by rw [← hac, Ww (la := la) (lb := lb) (i := i) (j := j) by_Om by_Om, if_neg (by have e1 := hR0 i j by_Om by_Om; have e2 := hR0 (i + 1) (j + 1) by_Om by_Om; have e3 := hP0 i j by_Om by_Om; omega), if_neg (by have e1 := hR0 i j by_Om by_Om; have e2 := hR0 (i + 1) j by_Om by_Om; simp only [Km]; omega)]), by_Om, LB, hF⟩
 omega
 refine Lc (Jc rfl ?_)
 refine Ha (Ja ?_)
 refine Yc [] (.free 0 (.free 1 (.free 2 (.free 3 (.free 4 (.free 5 (.free 6 (.free 7 (.free 8 (.free 9 (.free 10 (.free 11 .nil)))))))))))) hF ?_
 clear hF; intro w hF hE
 replace hK := hK.ext hE
 replace hNw := Nat.le_trans hNw hE.size
 clear hE
 refine ⟨fun wq => FR w0 [] [] wq ∧ Ck wq N0 cb pb rb la lb T0 T1 t0 t1 k3 k4 q r P R, ⟨hF.sub (List.nil_sublist _), hK⟩, ?_⟩
 refine Xa rfl (Pd rfl) (Xa rfl (Qd rfl) (Xa rfl (Cf rfl) (Xa rfl (Gc Nf rfl) (Qa rfl (v := .slice (some ⟨rb, 0, none⟩) (la.length + 1) (k4)) (fun w hC => Wa isAgg36 rfl hC.2.c3) (Qa rfl (v := .pointer (some ⟨rb, 0, none⟩)) (fun w hC => Pb (i := 0) 0 Uf rfl rfl Ta by_Om by_Om) (Qa rfl (v := .slice (some ⟨r 0, 0, none⟩) (lb.length + 1) (lb.length + 1)) (fun w hC => Wa isAgg39 rfl (hC.2.rest.rowCell by_Om)) (Qa rfl (v := .pointer (some ⟨r 0, 0, none⟩)) (fun w hC => Pb (i := 0) 0 Ke rfl rfl Ta by_Om by_Om) (Qa rfl (v := .int .i64 (R 0 0)) (fun w hC => Wa isAgg3 rfl (hC.2.rest.cell by_Om by_Om)) (Xa rfl (Mh rfl) (Xa rfl (Pc rfl) (Xa rfl (Pc rfl) (Ac (Ha ?_)))))))))))))
 refine Xb (Wb (Va (W8 (v := .slice _ _ _) (x := .int .i64 (R 0 0)) (y := .int .i64 0) rfl rfl rfl rfl) ?_))
 have he : acc = D5 0 0 la lb := by rw [← hac, U8 by_Om, List.append_nil]
 have hin := Ms la.length lb.length (la.length + lb.length) 0 0 la lb by_Om by_Om
 rw [he] at hSo
 have hrep := hSo.rep (w0 := w0) (pre := []) (post := []) hF (RX.plain (ids := []) (fun S => Rp (m := D5 0 0 la lb) (fun z hz => by have := hin z hz; omega))) Ga
 exact ⟨Ao, co, by rw [he, hR0 0 0 by_Om by_Om]; rfl, hrep, hF.same⟩
 refine Ra (Ra (Ra (Ra (Ca (Fd rfl rfl) (Fa (Qg rfl ?_))))))
 refine Lc (Jc rfl ?_)
 refine Ha (Ja ?_)
 refine Yc [] (.free 0 (.free 1 (.free 2 (.free 3 (.free 4 (.free 5 (.free 6 (.free 7 (.free 8 (.free 9 (.free 10 (.free 11 .nil)))))))))))) hF ?_
 clear hF; intro w hF hE
 replace hK := hK.ext hE
 replace hNw := Nat.le_trans hNw hE.size
 clear hE
 refine ⟨fun wq => FR w0 [] [] wq ∧ Ck wq N0 cb pb rb la lb T0 T1 t0 t1 k3 k4 q r P R, ⟨hF.sub (List.nil_sublist _), hK⟩, ?_⟩
 refine Xa rfl (Pd rfl) (Xa rfl (Qd rfl) (Xa rfl (Cf rfl) (Xa rfl (Gc Nf rfl) (Qa rfl (v := .slice (some ⟨rb, 0, none⟩) (la.length + 1) (k4)) (fun w hC => Wa isAgg36 rfl hC.2.c3) (Qa rfl (v := .pointer (some ⟨rb, 0, none⟩)) (fun w hC => Pb (i := 0) 0 Uf rfl rfl Ta by_Om by_Om) (Qa rfl (v := .slice (some ⟨r 0, 0, none⟩) (lb.length + 1) (lb.length + 1)) (fun w hC => Wa isAgg39 rfl (hC.2.rest.rowCell by_Om)) (Qa rfl (v := .pointer (some ⟨r 0, 0, none⟩)) (fun w hC => Pb (i := 0) 0 Ke rfl rfl Ta by_Om by_Om) (Qa rfl (v := .int .i64 (R 0 0)) (fun w hC => Wa isAgg3 rfl (hC.2.rest.cell by_Om by_Om)) (Xa rfl (Mh rfl) (Xa rfl (Pc rfl) (Xa rfl (Pc rfl) (Ac (Ha ?_)))))))))))))
 refine Xb (Wb (Va (W8 (v := .slice _ _ _) (x := .int .i64 (R 0 0)) (y := .int .i64 0) rfl rfl rfl rfl) ?_))
 have he : acc = D5 0 0 la lb := by rw [← hac, U8 by_Om, List.append_nil]
 have hin := Ms la.length lb.length (la.length + lb.length) 0 0 la lb by_Om by_Om
 rw [he] at hSo
 have hrep := hSo.rep (w0 := w0) (pre := []) (post := []) hF (RX.plain (ids := []) (fun S => Rp (m := D5 0 0 la lb) (fun z hz => by have := hin z hz; omega))) Ga
 exact ⟨Ao, co, by rw [he, hR0 0 0 by_Om by_Om]; rfl, hrep, hF.same⟩
end Go.Scarf
namespace Go.Scarf
open Go.RowKit Go.Proofs Go.Proofs.Tryz
def Tf (N : Nat) (f : Nat → Value) : Array Value := ((List.range N).map f).toArray
theorem Mv (N : Nat) (f : Nat → Value) : (Tf N f).size = N := by simp [Tf]
theorem Tp {N k : Nat} {f : Nat → Value} (h : k < N) : (Tf N f)[k]? = some (f k) := by simp [Tf, h]
def Ul (f : Nat → Value) (k : Nat) (v : Value) : Nat → Value := fun x => if x = k then v else f x
theorem F1 (f : Nat → Value) (k : Nat) (v : Value) : Ul f k v k = v := if_pos rfl
theorem C9 {f : Nat → Value} {k x : Nat} {v : Value} (h : x ≠ k) : Ul f k v x = f x := if_neg h
theorem Zz {f : Nat → Value} {k : Nat} {v : Value} (h : f k = v) : Ul f k v = f := by
  funext x
  unfold Ul
  split
  · rename_i e; rw [e, h]
  · rfl
theorem Lz {N k : Nat} {f : Nat → Value} (u v : Value) : Ei (Tf N (Ul f k u)) k [v] = Tf N (Ul f k v) := by
  rw [Ei, Ei]
  apply Array.ext
  · simp [Tf]
  · intro i h1 h2
    rw [Array.getElem_setIfInBounds (by simpa using h1)]
    by_cases e : k = i
    · subst e; simp [Tf, Ul]
    · have e' : ¬ i = k := fun h => e h.symm
      simp [Tf, Ul, e, e']
theorem Gz (N : Nat) : (List.replicate N (Value.slice none 0 0)).toArray = Tf N fun _ => .slice none 0 0 := by
  apply Array.ext
  · simp [Tf]
  · intro i h1 h2; simp [Tf]
def rng (j k : Nat) : List Int := (List.range' j (k - j)).map fun i : Nat => (i : Int)
theorem T4 (j : Nat) : rng j j = [] := by simp [rng]
theorem J1 (j k : Nat) : (rng j k).length = k - j := by simp [rng]
theorem H4 {j k : Nat} (h : j ≤ k) : rng j (k + 1) = rng j k ++ [(k : Int)] := by
  unfold rng
  rw [show k + 1 - j = k - j + 1 by omega, List.range'_1_concat, List.map_append, show j + (k - j) = k by omega]; rfl
theorem XG (j k : Nat) : rng j (max j k) = rng j k := by
  unfold rng
  rw [show max j k - j = k - j by omega]
theorem ID {j k : Nat} : ∀ z ∈ rng j k, (j : Int) ≤ z ∧ z < (k : Int) := fun z hz => by
  obtain ⟨i, hi, rfl⟩ := List.mem_map.1 hz
  have := List.mem_range'_1.1 hi
  omega
theorem LF (w0 : World) (N g ob jb vb tt j : Nat) (hd : Nat → Value) (acc : List Int) (A : Option Addr) (c : Nat) (sg : List (Nat × Obj)) (hg : g < N) (hN : N ≤ 65) (hto : tt ≤ 64) (hj1 : j ≤ 1000) (hlen : acc.length ≤ 100000) (hob : w0.heap[ob]? = some (.cells (Tf N hd) 39)) (hjb : w0.heap[jb]? = some (.cells #[.int .i64 (j : Nat)] 3)) (hvb : w0.heap[vb]? = some (.cells #[.slice (some ⟨ob, 0, none⟩) N N] 36)) (hh : hd g = .slice A acc.length c) (hS : SlB 3 1 A acc.length c (Fr acc) sg) (hsg : ∀ z ∈ sg, w0.heap[z.1]? = some z.2 ∧ z.1 ≠ ob ∧ z.1 ≠ jb ∧ z.1 ≠ vb) (hne : jb ≠ ob ∧ vb ≠ ob ∧ vb ≠ jb) : Calls prog 31 #[.int .i64 ((g : Nat) : Int), .int .i64 ((tt : Nat) : Int), .pointer (some ⟨jb, 0, none⟩), .pointer (some ⟨vb, 0, none⟩)] w0 (Md fun v w' => ∃ (A' : Option Addr) (c' : Nat) (sg' : List (Nat × Obj)), v = .tuple #[] ∧ w'.heap[ob]? = some (.cells (Tf N (Ul hd g (.slice A' (acc ++ rng j tt).length c'))) 39) ∧ w'.heap[jb]? = some (.cells #[.int .i64 ((max j tt : Nat) : Int)] 3) ∧ w'.heap[vb]? = some (.cells #[.slice (some ⟨ob, 0, none⟩) N N] 36) ∧ SlB 3 1 A' (acc ++ rng j tt).length c' (Fr (acc ++ rng j tt)) sg' ∧ (∀ z ∈ sg', w'.heap[z.1]? = some z.2 ∧ z.1 ≠ ob ∧ z.1 ≠ jb ∧ z.1 ≠ vb ∧ (z.1 ∈ sg.map (·.1) ∨ w0.heap.size ≤ z.1)) ∧ Same ([ob, jb, vb] ++ sg.map (·.1)) w0 w') := by
 refine Ka func31 rfl ntmps31 Gb (P8 _ _ _ _) ?_
 have hF : FR w0 ([ob, jb, vb] ++ sg.map (·.1)) ([(ob, .cells (Tf N (Ul hd g (.slice A acc.length c))) 39), (jb, .cells #[.int .i64 ((j : Nat))] 3), (vb, .cells #[.slice (some ⟨ob, 0, none⟩) N N] 36)] ++ (sg ++ [])) w0 := FR.open_ (fun z hz => by simp only [List.append_nil, List.mem_append, List.mem_cons, List.not_mem_nil, or_false] at hz ⊢; rcases hz with (rfl | rfl | rfl) | hz; (exact ⟨by rw [Zz hh]; exact hob, by simp⟩); (exact ⟨hjb, by simp⟩); (exact ⟨hvb, by simp⟩); (exact ⟨(hsg z hz).1, .inr (List.mem_map_of_mem hz)⟩)) (by rw [List.append_nil, List.pairwise_append]; refine ⟨by simp [hne.1, hne.2.1, hne.2.2], hS.pw, fun z hz y hy => ?_⟩; have h := hsg y hy; simp only [List.mem_cons, List.not_mem_nil, or_false] at hz; rcases hz with rfl | rfl | rfl; (exact h.2.1); (exact h.2.2.1); (exact h.2.2.2))
 refine Ya ?_
 refine Uc (fun μ σ w => ∃ (q : Nat), ∃ (Ax : Option Addr), ∃ (cx : Nat), ∃ (so : List (Nat × Obj)), ∃ (ac : List Int), μ = tt - q ∧ (j ≤ q ∧ (q ≤ tt ∨ q = j)) ∧ (SlB 3 1 Ax ac.length cx (Fr ac) so) ∧ (ac = acc ++ rng j q) ∧ (∀ z ∈ so, z.1 ∈ sg.map (·.1) ∨ w0.heap.size ≤ z.1) ∧ (w0.heap.size ≤ w.heap.size) ∧ AllEq σ [(0, .int .i64 ((g : Nat))), (1, .int .i64 ((tt : Nat))), (2, .pointer (some ⟨jb, 0, none⟩)), (3, .pointer (some ⟨vb, 0, none⟩))] ∧ FR w0 ([ob, jb, vb] ++ sg.map (·.1)) ([(ob, .cells (Tf N (Ul hd g (.slice Ax ac.length cx))) 39), (jb, .cells #[.int .i64 ((q : Nat))] 3), (vb, .cells #[.slice (some ⟨ob, 0, none⟩) N N] 36)] ++ (so ++ [])) w) _ ⟨j, A, c, sg, acc, rfl, by_Om, (hS), (by rw [T4, List.append_nil]), (fun z hz => .inl (List.mem_map_of_mem hz)), (hF.same.size), Dq, hF⟩ ?_
 clear hF; rintro μ σ w ⟨q, Ax, cx, so, ac, rfl, hq, hSo, hac, hso, hF0, hs, hF⟩
 refine Cg.slots hs ?_
 clear hs; intro σ
 refine Ja (Ma (Vd (At isAgg3 rfl hF.F 1 rfl rfl) (Ca (Hb rfl) (Ca (Yk rfl rfl) (Fa ?_)))))
 refine Kc rfl rfl (fun hc0 => ?_) (fun hc0 => ?_)
 refine Cb (Ha (Ja (Ya ?_)))
 refine Yc [10] (.free 0 (.free 1 (.free 2 (.free 3 (.free 4 (.free 5 (.free 6 (.act 7 (.act 8 (.free 9 (.act 10 .nil))))))))))) hF ?_
 clear hF; intro w hF hE
 replace hF0 := Nat.le_trans hF0 hE.size
 clear hE
 refine ⟨fun wq => FR w0 ([ob, jb, vb] ++ sg.map (·.1)) [(ob, .cells (Tf N (Ul hd g (.slice Ax ac.length cx))) 39), (jb, .cells #[.int .i64 ((q : Nat))] 3), (vb, .cells #[.slice (some ⟨ob, 0, none⟩) N N] 36)] wq, hF.sub (.cons_cons _ (.cons_cons _ (.cons_cons _ (List.nil_sublist _)))), ?_⟩
 refine Jo rfl (Ij isAgg36 rfl C0 2 rfl rfl) (Xa rfl (Hb rfl) (Jo rfl (Ij isAgg36 rfl C0 2 rfl rfl) (Xa rfl (Hb rfl) (Qa rfl (v := .pointer (some ⟨ob, g, none⟩)) (fun w hC => Pb (i := ((g : Nat) : Int)) (g) Uf rfl rfl by_Om by_Om by_Om) ?_))))
 refine Qa rfl (v := .slice Ax ac.length cx) (fun w hC => Wa isAgg39 rfl (by rw [Ib (hC.heap (i := 0) rfl), Tp hg, F1])) ?_
 refine Jo rfl (At isAgg3 rfl C0 1 rfl rfl) ?_
 refine Id 1 rfl hF (Ua (cs := #[.int .i64 ((q : Nat))]) underlying39 sizeOf3 zeroValue3 Ta Ta Db) ?_
 clear hF; intro b1 w hb1 hF hE
 replace hF0 := Nat.le_trans hF0 hE.size
 clear hE
 refine ⟨hF.sub (.cons _ (.cons_cons _ (.cons_cons _ (.cons_cons _ (List.nil_sublist _))))), ?_⟩
 refine Fc [(b1, .cells #[.int .i64 ((q : Nat))] 3), (ob, .cells (Tf N (Ul hd g (.slice Ax ac.length cx))) 39), (jb, .cells #[.int .i64 ((q : Nat))] 3), (vb, .cells #[.slice (some ⟨ob, 0, none⟩) N N] 36)] [] (news := [.int .i64 ((q : Nat))]) (len' := (ac ++ [(q : Int)]).length) (ys := Fr (ac ++ [(q : Int)])) rfl Xg hF hSo rfl rfl (rfl) (fun _ => ⟨_, rfl, Ub (hF.cellsAll 0 rfl)⟩) (by simp [Value.oneCell']) (by simp only [maxLen]; have := congrArg List.length hac; simp only [List.length_append, J1] at this; omega) Ga (by simp [Fr]) (by have := congrArg List.length hac; simp only [List.length_append, J1] at this; omega) ?_
 clear hF; intro A0 c0 o_0 w hS0_o hF hE hnew
 replace hso : ∀ z ∈ o_0, z.1 ∈ sg.map (·.1) ∨ w0.heap.size ≤ z.1 := fun z hz => (hnew z hz).elim (fun h => by obtain ⟨z2, hz2, e⟩ := List.mem_map.1 h; rw [← e]; exact hso z2 hz2) (fun h => .inr (Nat.le_trans hF0 h))
 replace hF0 := Nat.le_trans hF0 hE.size
 clear hE hnew
 refine ⟨hF.sub (.cons _ (.cons_cons _ (.cons_cons _ (.cons_cons _ (List.nil_sublist _))))), ?_⟩
 refine Qa rfl (v := .pointer (some ⟨ob, g, none⟩)) (fun w hC => Pb (i := ((g : Nat) : Int)) (g) Uf rfl rfl by_Om by_Om by_Om) ?_
 refine Sc rfl 1 (l := [.slice A0 ((ac ++ [(q : Int)]).length) c0]) (cs' := Tf N (Ul hd g (.slice A0 ((ac ++ [(q : Int)]).length) c0))) hF sizeOf39 rfl rfl rfl Zc rfl (by rw [Mv]; simp only [List.length_singleton]; omega) (Lz _ _) ?_
 clear hF; intro w hF hE
 replace hF0 := Nat.le_trans hF0 hE.size
 clear hE
 replace hF : FR w0 ([ob, jb, vb] ++ sg.map (·.1)) ([(b1, .cells #[.int .i64 ((q : Nat))] 3), (ob, .cells (Tf N (Ul hd g (.slice A0 ((ac ++ [(q : Int)]).length) c0))) 39), (jb, .cells #[.int .i64 ((q : Nat))] 3), (vb, .cells #[.slice (some ⟨ob, 0, none⟩) N N] 36)] ++ (o_0 ++ [])) w := hF
 refine Ac (Kb (Ha (Ea (Vd (At isAgg3 rfl hF.F 2 rfl rfl) (Ca (Di (((q + 1 : Nat) : Int)) rfl rfl) ?_)))))
 refine Hm (.int _ _) hF sizeOf3 rfl rfl IG.app Tl ?_
 clear hF; intro w hF hE
 replace hF0 := Nat.le_trans hF0 hE.size
 clear hE
 refine Fb ?_
 refine Dc ⟨_, ?_, q + 1, A0, c0, o_0, ac ++ [(q : Int)], rfl, by_Om, (hS0_o), (by rw [H4 by_Om, hac, List.append_assoc]), (hso), (hF.same.size), Dq, hF.drop 1⟩
 omega
 refine Lc (Jc rfl ?_)
 refine Td (Nc (Ve rfl) ?_)
 obtain rfl : q = max j tt := by omega
 rw [XG] at hac
 subst hac
 have hps := FR.apart (pre := [_, _, _]) (rest := so ++ []) (i := 0) hF rfl
 have hpj := FR.apart (pre := [_, _, _]) (rest := so ++ []) (i := 1) hF rfl
 have hpv := FR.apart (pre := [_, _, _]) (rest := so ++ []) (i := 2) hF rfl
 rw [List.append_nil] at hps hpj hpv
 exact ⟨Ax, cx, so, rfl, hF.heap (i := 0) rfl, hF.heap (i := 1) rfl, hF.heap (i := 2) rfl, hSo, fun z hz => ⟨(hF.own z (by simp [hz])).1, fun e => hps (e ▸ List.mem_map_of_mem hz), fun e => hpj (e ▸ List.mem_map_of_mem hz), fun e => hpv (e ▸ List.mem_map_of_mem hz), hso z hz⟩, hF.same⟩
end Go.Scarf
