/- A part of the proof. -/
import Derived.Test.YtepbomjpbdbejaaGreatDoorW1
import Derived.Test.YtepbomjpbdbejaaGreatDoorMore
import Derived.Lib.SmallJoins
set_option linter.all false
set_option maxHeartbeats 8000000
set_option maxRecDepth 10000
namespace Go.Scarf
open Go.RowKit Go.Proofs Go.Proofs.Tryz
theorem L6 (s : Str) : (Qb s).1.whole.length ≤ s.length ∧ (Qb s).1.rest.length ≤ s.length ∧ (Qb s).1.exp.length ≤ s.length := by
  have h1 := Hf [101, 69] (Lib.trimPrefix s [45])
  have h2 := Df s [45]
  have h3 := Hf [46] (Oa [101, 69] (Lib.trimPrefix s [45])).1
  have h4 := Df (Oa [101, 69] (Lib.trimPrefix s [45])).2.1 [45]
  have h5 := Df (Lib.trimPrefix (Oa [101, 69] (Lib.trimPrefix s [45])).2.1 [45]) [43]
  unfold Qb
  simp only
  repeat' split
  all_goals (refine ⟨?_, ?_, ?_⟩ <;> simp only [Ud, List.length_nil] <;> omega)
def Tr (s : Str) : Int := if (Qb s).1.low then - Fg (Lib.trimLeftB (Qb s).1.exp 48) else Fg (Lib.trimLeftB (Qb s).1.exp 48)
theorem Mj (s : Str) : Jf s = if (Qb s).2 = false then (Num.zero, 2) else
  if 1000 < (Qb s).1.whole.length + (Qb s).1.rest.length then (Num.zero, 3) else
  if 9 < (Lib.trimLeftB (Qb s).1.exp 48).length then (Num.zero, 4) else
  if Lib.trimLeftB ((Qb s).1.whole ++ (Qb s).1.rest) 48 = [] then (Num.zero, 0) else
  if Le (⟨(Qb s).1.neg, Lib.trimRightB (Lib.trimLeftB ((Qb s).1.whole ++ (Qb s).1.rest) 48) 48, Tr s - (Qb s).1.rest.length + (Lib.trimLeftB ((Qb s).1.whole ++ (Qb s).1.rest) 48).length - (Lib.trimRightB (Lib.trimLeftB ((Qb s).1.whole ++ (Qb s).1.rest) 48) 48).length⟩) = false then (Num.zero, 4) else
  (⟨(Qb s).1.neg, Lib.trimRightB (Lib.trimLeftB ((Qb s).1.whole ++ (Qb s).1.rest) 48) 48, Tr s - (Qb s).1.rest.length + (Lib.trimLeftB ((Qb s).1.whole ++ (Qb s).1.rest) 48).length - (Lib.trimRightB (Lib.trimLeftB ((Qb s).1.whole ++ (Qb s).1.rest) 48) 48).length⟩, 0) := rfl
theorem Z_ {s : Str} {q : Nat} (h : q < s.length) (ha : s.all Vi = true) : (Utf8.decode (bs s) q).1 = s[q].toNat ∧ (Utf8.decode (bs s) q).2 = 1 ∧ 48 ≤ s[q].toNat ∧ s[q].toNat ≤ 57 := by
  have hd := List.all_eq_true.1 ha s[q] (List.getElem_mem h)
  have := D1 s q h hd
  rw [this]
  unfold Vi at hd
  simp only [Bool.and_eq_true, decide_eq_true_eq] at hd
  exact ⟨rfl, rfl, hd.1, hd.2⟩
theorem JE {f : UInt8 → Bool} {s : Str} (q : Nat) (h : s.all f = true) : (s.take q).all f = true := by
  rw [List.all_eq_true] at h ⊢
  exact fun x hx => h x (List.mem_of_mem_take hx)
theorem E_ (s : Str) (hl : s.length ≤ 140737488355328) (w0 : World) : Calls prog 59 #[.string (bs s)] w0 (Md fun v w' => v = .tuple #[Qn (Jf s).1, .int .i64 (Jf s).2] ∧ Same [] w0 w') := by
 have hls := L6 s
 have ht0 := Bq (Qb s).1.exp 48
 have ht1 := Bq ((Qb s).1.whole ++ (Qb s).1.rest) 48
 rw [List.length_append] at ht1
 have ht2 := Aw (Lib.trimLeftB ((Qb s).1.whole ++ (Qb s).1.rest) 48) 48
 refine Ka func59 rfl ntmps59 Gb (Dd _) ?_
 have hF := FR.start w0 []
 refine Ma ?_
 refine Lh (cs := #[.bool false, .string (bs []), .int .i64 0]) hF zeroValue71 rfl ?_
 clear hF; rintro b1 w hb1 hF -
 refine Ca (Pc rfl) (Cc (Ca (Bf rfl) ?_))
 refine Rb hF (RJ s hl _) (Ob RK rfl rfl) ?_
 clear hF; intro w hF
 refine Ca (Gn rfl) (Ca (LK rfl rfl) (Ca (Wp rfl rfl) ?_))
 refine Rm hF zeroValue114 sizeOf114 rfl ?_
 clear hF; rintro b2 w hb2 hF -
 refine Ca (Hc rfl) (Cc (Ca (Gc Yr rfl) (Vd (Yx isAgg9 rfl hF.F 0 rfl rfl) ?_)))
 refine Rb hF (Ru (Qb s).1.exp _) (Mb EH rfl rfl rfl) ?_
 clear hF; intro w hF
 refine Ca (Zi rfl) (Fa (Ja (Ya (Ma (Ca (Kd rfl) (Ca (On rfl) (Ca (Hc rfl) (Fa ?_))))))))
 refine Ik rfl rfl (fun hc0 => ?_) (fun hc0 => ?_)
 refine Ma ?_
 refine Ia (w' := w) (v := .agg #[.bool false, .string (bs []), .int .i64 0]) Db ?_
 refine Vl hF sizeOf71 rfl rfl V2 ?_
 clear hF; rintro w hF -
 refine Ca (Pc rfl) (Fa ?_)
 refine Xb (Wb (Va (Be rfl (l := [.bool false, .string (bs []), .int .i64 0]) rfl isAgg71 sizeOf71 rfl (hF.cellsAll 1 rfl) (v := .int .i64 2) rfl) ?_))
 exact ⟨by rw [Mj, if_pos (by simpa using hc0)]; rfl, hF.same⟩
 refine Ma (Ca (Gc Vo rfl) (Vd (Yx isAgg9 rfl hF.F 0 rfl rfl) (Ca (M7 underlying9 rfl) (Ca (Gc Um rfl) (Vd (Yx isAgg9 rfl hF.F 0 rfl rfl) (Ca (M7 underlying9 rfl) (Ca (To rfl rfl) (Ca (Ey rfl rfl) (Ca (Hc rfl) (Fa ?_))))))))))
 refine Kc rfl rfl (fun hc1 => ?_) (fun hc1 => ?_)
 refine Ma ?_
 refine Ia (w' := w) (v := .agg #[.bool false, .string (bs []), .int .i64 0]) Db ?_
 refine Vl hF sizeOf71 rfl rfl V2 ?_
 clear hF; rintro w hF -
 refine Ca (Pc rfl) (Fa ?_)
 refine Xb (Wb (Va (Be rfl (l := [.bool false, .string (bs []), .int .i64 0]) rfl isAgg71 sizeOf71 rfl (hF.cellsAll 1 rfl) (v := .int .i64 3) rfl) ?_))
 exact ⟨by rw [Mj, if_neg (by simpa using hc0), if_pos by_Om]; rfl, hF.same⟩
 refine Ma (Ca (Bf rfl) (Ca (M7 underlying9 rfl) (Ca (Ey rfl rfl) (Ca (Hc rfl) (Fa ?_)))))
 refine Kc rfl rfl (fun hc2 => ?_) (fun hc2 => ?_)
 refine Ma ?_
 refine Ia (w' := w) (v := .agg #[.bool false, .string (bs []), .int .i64 0]) Db ?_
 refine Vl hF sizeOf71 rfl rfl V2 ?_
 clear hF; rintro w hF -
 refine Ca (Pc rfl) (Fa ?_)
 refine Xb (Wb (Va (Be rfl (l := [.bool false, .string (bs []), .int .i64 0]) rfl isAgg71 sizeOf71 rfl (hF.cellsAll 1 rfl) (v := .int .i64 4) rfl) ?_))
 exact ⟨by rw [Mj, if_neg (by simpa using hc0), if_neg by_Om, if_pos by_Om]; rfl, hF.same⟩
 refine Cb (Kb (Ha (Ma (Ca (Pc rfl) (Fa (Ja (Ma (Ca (Bf rfl) ?_))))))))
 refine Js (str := (Lib.trimLeftB (Qb s).1.exp 48)) hF underlying9 rfl ?_
 clear hF; rintro b3 w hb3 hF -
 refine Fa (Ya ?_)
 have hall : (Lib.trimLeftB (Qb s).1.exp 48).all Vi = true := Hq (UA (by simp_all))
 refine Uc (fun μ σ w => ∃ (q : Nat), μ = (Lib.trimLeftB (Qb s).1.exp 48).length - q ∧ (q ≤ (Lib.trimLeftB (Qb s).1.exp 48).length) ∧ AllEq σ [(2, .pointer (some ⟨b1, 0, none⟩)), (4, .pointer (some ⟨b2, 0, none⟩)), (7, .int .i64 (Fg ((Lib.trimLeftB (Qb s).1.exp 48).take q))), (41, .pointer (some ⟨b3, 0, none⟩))] ∧ FR w0 [] [(b3, .stringIter (bs ((Lib.trimLeftB (Qb s).1.exp 48))) (q)), (b2, .cells #[.bool ((Qb s).1.neg), .bool ((Qb s).1.low), .string (bs ((Qb s).1.whole)), .string (bs ((Qb s).1.rest)), .string (bs ((Qb s).1.exp))] 114), (b1, .cells #[.bool false, .string (bs []), .int .i64 0] 71)] w) _ ⟨0, rfl, (Nat.zero_le _), Dq, hF⟩ ?_
 clear hF; rintro μ σ w ⟨q, rfl, hq, hs, hF⟩
 refine Cg.slots hs ?_
 clear hs; intro σ
 refine Ma ?_
 by_cases hn0 : (q) < ((Lib.trimLeftB (Qb s).1.exp 48) : Str).length
 refine Fv 0 (p := q) (str := (Lib.trimLeftB (Qb s).1.exp 48)) hF rfl rfl hn0 ?_
 clear hF; rintro w hF -
 replace hF : FR w0 [] [(b3, .stringIter (bs ((Lib.trimLeftB (Qb s).1.exp 48))) (q + (Utf8.decode (bs ((Lib.trimLeftB (Qb s).1.exp 48))) (q)).2)), _, _] w := hF
 refine Ca (Wp rfl rfl) (Fa (Ja (Rd rfl (Cb (Ha (Ya (Ma (Ca (Mt rfl rfl) (Ca (Pc rfl) (Fa ?_))))))))))
 refine Ea (Ca (Hb rfl) ?_)
 have hv := Z_ (s := (Lib.trimLeftB (Qb s).1.exp 48)) (q := q) by_Om hall
 have hb := Vz ((Lib.trimLeftB (Qb s).1.exp 48).take q) (JE q hall) (by rw [List.length_take]; omega)
 refine Ia (v := .int .i64 (10 * Fg ((Lib.trimLeftB (Qb s).1.exp 48).take q))) (U4 rfl rfl (Xh by_Om by_Om by_Om)) (Ca (Hb rfl) ?_)
 refine Ia (v := .int .i32 (((Utf8.decode (bs (Lib.trimLeftB (Qb s).1.exp 48)) q).1 : Int) - 48)) (Xu rfl rfl (by rw [IntKind.wrap_i32]; omega)) ?_
 refine Ia (v := .int .i64 (((Utf8.decode (bs (Lib.trimLeftB (Qb s).1.exp 48)) q).1 : Int) - 48)) (Ag underlying21 underlying3 rfl (Am by_Om by_Om)) ?_
 refine Ia (v := .int .i64 (Fg ((Lib.trimLeftB (Qb s).1.exp 48).take (q + 1)))) (Ou rfl rfl (by rw [Cu _ q by_Om, hv.1]; exact Am by_Om by_Om)) ?_
 refine Ca (Pc rfl) (Fb (Kb ?_))
 rw [hv.2.1] at hF
 refine Dc ⟨_, ?_, q + 1, rfl, by_Om, Dq, hF⟩
 omega
 refine Vn 0 (p := q) (str := (Lib.trimLeftB (Qb s).1.exp 48)) hF rfl rfl hn0 ?_
 refine Ca (Wp rfl rfl) (Fa (Ja (Qg rfl ?_)))
 refine Lc (Jc rfl ?_)
 refine Ha ?_
 have eT : (Lib.trimLeftB (Qb s).1.exp 48).take q = (Lib.trimLeftB (Qb s).1.exp 48) := List.take_of_length_le by_Om
 have hb := Vz (Lib.trimLeftB (Qb s).1.exp 48) hall by_Om
 have hE : -1000000000 < Tr s ∧ Tr s < 1000000000 := by unfold Tr; split <;> omega
 refine Ja ?_
 refine St (fun σ w => AllEq σ [(2, .pointer (some ⟨b1, 0, none⟩)), (4, .pointer (some ⟨b2, 0, none⟩)), (7, .int .i64 (Tr s))] ∧ FR w0 [] [(b3, .stringIter (bs ((Lib.trimLeftB (Qb s).1.exp 48))) (q)), (b2, .cells #[.bool ((Qb s).1.neg), .bool ((Qb s).1.low), .string (bs ((Qb s).1.whole)), .string (bs ((Qb s).1.rest)), .string (bs ((Qb s).1.exp))] 114), (b1, .cells #[.bool false, .string (bs []), .int .i64 0] 71)] w) ?_ ?_
 refine Ma (Ca (Gc Px rfl) (Vd (SL isAgg4 rfl hF.F 1 rfl rfl) (Fa ?_)))
 refine Ik rfl rfl (fun hc4 => ?_) (fun hc4 => ?_)
 have eE : Tr s = - Fg (Lib.trimLeftB (Qb s).1.exp 48) := by unfold Tr; rw [if_pos (by assumption)]
 refine Ea (Ca (Hb rfl) ?_)
 refine Ia (v := .int .i64 (Tr s)) (FH rfl (by rw [eT, eE]; exact Xh by_Om by_Om by_Om)) ?_
 refine Ca (Pc rfl) (Fb ?_)
 exact Dc ⟨VH, hF⟩
 have eE : Tr s = Fg (Lib.trimLeftB (Qb s).1.exp 48) := by unfold Tr; rw [if_neg (by simp_all)]
 rw [eT, ← eE]
 refine Cb ?_
 exact Dc ⟨VH, hF⟩
 clear hF; rintro σ w ⟨hs, hF⟩
 refine Eg.slots hs ?_
 clear hs; intro σ
 refine Ha (Ma (Ca (Gc Vo rfl) (Vd (Yx isAgg9 rfl hF.F 1 rfl rfl) (Ca (Gc Um rfl) (Vd (Yx isAgg9 rfl hF.F 1 rfl rfl) (Ia (v := .string (bs (((Qb s).1.whole) ++ ((Qb s).1.rest)))) (Fp rfl rfl by_Om) ?_))))))
 refine Rb hF (Ru ((Qb s).1.whole ++ (Qb s).1.rest) _) (Mb EH rfl rfl rfl) ?_
 clear hF; intro w hF
 refine Ca (Zi rfl) (Fa (Ja (Ma (Ca (Bf rfl) (Ca (G6 rfl rfl) (Fa ?_))))))
 refine Kc rfl rfl (fun hc5 => ?_) (fun hc5 => ?_)
 refine Ma ?_
 refine Ia (w' := w) (v := .agg #[.bool false, .string (bs []), .int .i64 0]) Db ?_
 refine Vl hF sizeOf71 rfl rfl IG ?_
 clear hF; rintro w hF -
 refine Ca (Pc rfl) (Fa ?_)
 refine Xb (Wb (Va (Be rfl (l := [.bool false, .string (bs []), .int .i64 0]) rfl isAgg71 sizeOf71 rfl (hF.cellsAll 2 rfl) (v := .int .i64 0) rfl) ?_))
 exact ⟨by rw [Mj, if_neg (by simpa using hc0), if_neg by_Om, if_neg by_Om, if_pos hc5]; rfl, hF.same⟩
 refine Cb (Ha (Ma (Ca (Bf rfl) ?_)))
 refine Rb hF (U2 (Lib.trimLeftB ((Qb s).1.whole ++ (Qb s).1.rest) 48) _ by_Om) (Mb XK rfl rfl rfl) ?_
 clear hF; intro w hF
 refine Ca (Zi rfl) (Cc (Ca (Gc T5 rfl) (Vd (SL isAgg4 rfl hF.F 1 rfl rfl) (Ca (Bf rfl) (Ca (Hb rfl) (Ca (Gc Um rfl) (Vd (Yx isAgg9 rfl hF.F 1 rfl rfl) (Ca (M7 underlying9 rfl) (Ca (Vr rfl rfl) (Ca (Bf rfl) ?_))))))))))
 refine Ca (M7 underlying9 rfl) (Ca (To rfl rfl) (Ca (Bf rfl) (Ca (M7 underlying9 rfl) (Ca (Vr rfl rfl) ?_))))
 refine Ia (w' := w) (v := .agg #[.bool ((Qb s).1.neg), .string (bs ((Lib.trimRightB (Lib.trimLeftB ((Qb s).1.whole ++ (Qb s).1.rest) 48) 48))), .int .i64 ((((Tr s : Int) - ((((Qb s).1.rest) : Str).length : Int) : Int) + ((((Lib.trimLeftB ((Qb s).1.whole ++ (Qb s).1.rest) 48)) : Str).length : Int) : Int) - ((((Lib.trimRightB (Lib.trimLeftB ((Qb s).1.whole ++ (Qb s).1.rest) 48) 48)) : Str).length : Int))]) Db ?_
 refine Rm hF zeroValue71 sizeOf71 rfl ?_
 clear hF; rintro b4 w hb4 hF -
 refine Fa (Ja (Ma (Vd (El isAgg71 sizeOf71 rfl hF.F 0 rfl rfl) ?_)))
 refine Rb hF (Z0 (⟨(Qb s).1.neg, (Lib.trimRightB (Lib.trimLeftB ((Qb s).1.whole ++ (Qb s).1.rest) 48) 48), Tr s - (Qb s).1.rest.length + (Lib.trimLeftB ((Qb s).1.whole ++ (Qb s).1.rest) 48).length - (Lib.trimRightB (Lib.trimLeftB ((Qb s).1.whole ++ (Qb s).1.rest) 48) 48).length⟩) (by show (Lib.trimRightB (Lib.trimLeftB ((Qb s).1.whole ++ (Qb s).1.rest) 48) 48).length ≤ _; omega) _) (Ob KD rfl rfl) ?_
 clear hF; intro w hF
 refine Ca (On rfl) (Fa ?_)
 refine Ik rfl rfl (fun hc6 => ?_) (fun hc6 => ?_)
 refine Ma ?_
 refine Ia (w' := w) (v := .agg #[.bool false, .string (bs []), .int .i64 0]) Db ?_
 refine Vl hF sizeOf71 rfl rfl EK ?_
 clear hF; rintro w hF -
 refine Ca (Pc rfl) (Fa ?_)
 refine Xb (Wb (Va (Be rfl (l := [.bool false, .string (bs []), .int .i64 0]) rfl isAgg71 sizeOf71 rfl (hF.cellsAll 3 rfl) (v := .int .i64 4) rfl) ?_))
 exact ⟨by rw [Mj, if_neg (by simpa using hc0), if_neg by_Om, if_neg by_Om, if_neg hc5, if_pos (by simpa using hc6)]; rfl, hF.same⟩
 refine Cb (Ha (Ma (Vd (El isAgg71 sizeOf71 rfl hF.F 0 rfl rfl) ?_)))
 refine Vl hF sizeOf71 rfl rfl EK ?_
 clear hF; rintro w hF -
 refine Ca (Pc rfl) (Fa ?_)
 refine Xb (Wb (Va (Be rfl (l := [.bool ((Qb s).1.neg), .string (bs ((Lib.trimRightB (Lib.trimLeftB ((Qb s).1.whole ++ (Qb s).1.rest) 48) 48))), .int .i64 ((((Tr s : Int) - ((((Qb s).1.rest) : Str).length : Int) : Int) + ((((Lib.trimLeftB ((Qb s).1.whole ++ (Qb s).1.rest) 48)) : Str).length : Int) : Int) - ((((Lib.trimRightB (Lib.trimLeftB ((Qb s).1.whole ++ (Qb s).1.rest) 48) 48)) : Str).length : Int))]) rfl isAgg71 sizeOf71 rfl (hF.cellsAll 3 rfl) (v := .int .i64 0) rfl) ?_))
 exact ⟨by rw [Mj, if_neg (by simpa using hc0), if_neg by_Om, if_neg by_Om, if_neg hc5, if_neg (by simpa using hc6)]; rfl, hF.same⟩
end Go.Scarf
namespace Go.Scarf
open Go.RowKit Go.Proofs Go.Proofs.Tryz
def GH (n : Int) : Num := (Jf (Lib.itoa n)).1
def pI (s : Str) : Int × Bool := match Lib.parseIntB 64 s with | .ok v => (v, true) | .range => (Lib.intSat 64 s, false) | _ => (0, false)
def XD (x : Num) : Int × Bool :=
  if Le x = false ∨ x.exp < 0 ∨ 19 < (x.digits.length : Int) + x.exp then (0, false) else
  let t := x.digits ++ Lib.repeatL [48] x.exp.toNat
  let u := if x.neg then 45 :: t else t
  if u = [] then (0, true) else if (pI u).2 = false then (0, false) else ((pI u).1, true)
def Dz (e : Value) (b : Bool) : Prop := if b then ∃ tp q, e = .iface tp q else e = .nilIface
theorem W_ {P : Program} {ρ : Operand → Value} {w : World} {dst : Option Nat} {ty : TypeId} {pos : String} {aft : Array Edge} {g : Option (Nat × Bool)} {t t' : TypeId} {x : Operand} {e : Value} {b : Bool} (ht : P.underlying t = some (.interface (P.methodsAt t))) (he : Dz e b) (hx : ρ x = e) (hy : ρ (.const .nilIface) = .nilIface) :
    (execOp ρ ⟨dst, .binOp .neq t x (.const .nilIface) t', ty, pos, aft, g⟩).run P w = .ok (.value (.bool b)) w := by
  unfold Dz at he
  cases b
  · simp only [Bool.false_eq_true, if_false] at he; subst he; exact AB ht hx hy
  · simp only [if_true] at he; obtain ⟨tp, q, rfl⟩ := he; exact Y4 ht hx hy
theorem Dv (w : World) (e : TypeId) (s : ByteArray) : Same [] w (Lib.bytesWorld w e s) :=
  .of_below (Joins.below_bytesWorld _ w e s (Nat.le_refl _))
theorem D8 (s : Str) (hl : s.length ≤ 140737488355328) {w : World} (hG : Gl w) : Calls prog 125 #[.string (bs s), .int .i64 10, .int .i64 64] w (Md fun v w' => ∃ e, v = .tuple #[.int .i64 (pI s).1, e] ∧ Dz e (!(pI s).2) ∧ Same [] w w') := by
  cases h : Lib.parseIntB 64 s with
  | ok n =>
    refine (strconv_ParseInt_10_at64_ok (bs s) (by rw [Cm]; omega) n h w).mono ?_
    rintro e w' ⟨rfl, hw⟩
    refine ⟨_, rfl, .nilIface, by simp [pI, h], by simp [pI, h, Dz], ?_⟩
    rcases hw with rfl | ⟨t, rfl⟩
    · exact Same.refl _ _
    · exact Dv w 5 t
  | range =>
    obtain ⟨tp, q, hv⟩ := hG.err
    refine (strconv_ParseInt_10_at64_range_var (bs s) (by rw [Cm]; omega) h tp q w hv).mono ?_
    rintro e w' ⟨N, rfl, -, -, hb⟩
    exact ⟨_, rfl, .iface 219 (.pointer (some ⟨N, 0, none⟩)), by simp only [pI, h], by simp [pI, h, Dz], .of_below hb⟩
  | _ =>
    obtain ⟨tp, q, hv⟩ := hG.serr
    refine (Any.strconv_ParseInt_10_at64_syntax_var laysC174 (bs s) (by rw [Cm]; omega) h tp q w hv).mono ?_
    rintro e w' ⟨N, rfl, -, -, hb⟩
    exact ⟨_, rfl, .iface 219 (.pointer (some ⟨N, 0, none⟩)), (by simp [pI, h]; rfl), by simp [pI, h, Dz], .of_below hb⟩
theorem Jz (c : Int) (h0 : 0 ≤ c) (h1 : c ≤ 19) (w : World) : Calls prog 124 #[.string (bs [48]), .int .i64 c] w (Md fun v w' => v = .string (bs (Lib.repeatL [48] c.toNat)) ∧ Same [] w w') := by
  have h := strings_Repeat (bs [48]) c.toNat w by_Om (by rw [Cm]; simp; omega)
  rw [Int.toNat_of_nonneg h0] at h
  exact Lp h
theorem YG (n : Int) (h1 : -9223372036854775808 ≤ n) (h2 : n ≤ 9223372036854775807) (w0 : World) (hG : Gl w0) : Calls prog 38 #[.int .i64 n] w0 (Md fun v w' => v = Qn (GH n) ∧ Same [] w0 w') := by
 refine Ka func38 rfl ntmps38 Gb (Dd _) ?_
 have hF := FR.start w0 []
 refine Ma ?_
 refine Lh (cs := #[.bool false, .string (bs []), .int .i64 0]) hF zeroValue71 rfl ?_
 clear hF; rintro b1 w hb1 hF -
 refine Cc (Ca (Hb rfl) ?_)
 refine Rb hF (I8 n h1 h2 (hG.ext hF.same)) (Ob XC rfl rfl) ?_
 clear hF; intro w hF
 refine Rb hF (E_ (Lib.itoa n) (by have := Lib.itoa_length_le n h1 h2; omega) _) (Ob WH rfl rfl) ?_
 clear hF; intro w hF
 refine Ca (Gn rfl) (Ca (LK rfl rfl) (Ca (Mt rfl rfl) ?_))
 refine Rm hF zeroValue71 sizeOf71 rfl ?_
 clear hF; rintro b2 w hb2 hF -
 refine Ca (Pc rfl) (Cc (Vd (El isAgg71 sizeOf71 rfl hF.F 0 rfl rfl) ?_))
 refine Vl hF sizeOf71 rfl rfl V2 ?_
 clear hF; rintro w hF -
 refine Fa ?_
 refine Xb (Wb (Va (Hx rfl (l := [.bool ((GH n).neg), .string (bs ((GH n).digits)), .int .i64 ((GH n).exp)]) rfl isAgg71 sizeOf71 rfl (hF.cellsAll 1 rfl)) ?_))
 exact ⟨rfl, hF.same⟩
def Nr (x : Num) : Str := if x.neg then 45 :: (x.digits ++ Lib.repeatL [48] x.exp.toNat) else x.digits ++ Lib.repeatL [48] x.exp.toNat
theorem Li (x : Num) : XD x = if Le x = false ∨ x.exp < 0 ∨ 19 < (x.digits.length : Int) + x.exp then (0, false) else if Nr x = [] then (0, true) else if (pI (Nr x)).2 = false then (0, false) else ((pI (Nr x)).1, true) := rfl
theorem Ip (c : UInt8) (n : Nat) : (Lib.repeatL [c] n).length = n := by
  induction n with
  | zero => rfl
  | succ n ih => unfold Lib.repeatL; simp [ih]; try omega
theorem VE (x : Num) (hl : x.digits.length ≤ 140737488355328) (w0 : World) (hG : Gl w0) : Calls prog 98 #[Qn x] w0 (Md fun v w' => v = .tuple #[.int .i64 (XD x).1, .bool (XD x).2] ∧ Same [] w0 w') := by
  refine Ka func98 rfl ntmps98 Gb (Dd _) ?_
  have hF := FR.start w0 []
  refine Ja ?_
  refine Ea ?_
  refine Kk hF rfl ?_
  clear hF; intro b1 w hb1 hF hE
  clear hE
  refine Ca (Pc rfl) ?_
  refine Ca (Hc rfl) ?_
  refine Fb ?_
  refine Ha ?_
  refine Ja ?_
  refine Ja ?_
  refine Ea ?_
  refine Vd (El isAgg71 sizeOf71 rfl hF.F 0 rfl rfl) ?_
  refine Rb hF (Z0 x hl _) (Ob KD rfl rfl) ?_
  clear hF; intro w hF
  refine Ca (On rfl) ?_
  refine Ca (Kd rfl) ?_
  refine Pf (d := 10) rfl (fun hg0 => ?_) (fun hg0 => ?_)
  ·
    refine Ra ?_
    refine Ra ?_
    refine Ra ?_
    refine Ca (Rc rfl rfl) ?_
    refine Ca (Kd rfl) ?_
    refine Ra ?_
    refine Ra ?_
    refine Ra ?_
    refine Ra ?_
    refine Ra ?_
    refine Ra ?_
    refine Ra ?_
    refine Ca (Rc rfl rfl) ?_
    refine Fb ?_
    refine Ha ?_
    refine Rd rfl ?_
    refine Ja ?_
    refine Ea ?_
    refine Ca (Pc rfl) ?_
    refine Ca (Hc rfl) ?_
    refine Fb ?_
    refine Ha ?_
    refine Xb (Wb (Va (Od (v := .int .i64 0) (x := .bool false) rfl rfl rfl) ?_))
    refine ⟨?_, hF.same⟩
    first
    | (have hn : ¬ (Le x = false ∨ x.exp < 0 ∨ 19 < (x.digits.length : Int) + x.exp) := by (refine not_or.2 ⟨by simp_all, not_or.2 ⟨by omega, by omega⟩⟩)
       rw [Li, if_neg hn]
       simp_all; done)
    | (rw [Li]; simp_all; done)
  ·
    refine Ca (Gc Vk rfl) ?_
    refine Vd (At isAgg3 rfl hF.F 0 rfl rfl) ?_
    refine Ca (Yk rfl rfl) ?_
    refine Ca (Fd rfl rfl) ?_
    refine Ca (Kd rfl) ?_
    refine Gd (d := 15) rfl (fun hg1 => ?_) (fun hg1 => ?_)
    ·
      refine Ra ?_
      refine Ra ?_
      refine Ra ?_
      refine Ra ?_
      refine Ra ?_
      refine Ra ?_
      refine Ra ?_
      refine Ca (Rc rfl rfl) ?_
      refine Fb ?_
      refine Ha ?_
      refine Rd rfl ?_
      refine Ja ?_
      refine Ea ?_
      refine Ca (Pc rfl) ?_
      refine Ca (Hc rfl) ?_
      refine Fb ?_
      refine Ha ?_
      refine Xb (Wb (Va (Od (v := .int .i64 0) (x := .bool false) rfl rfl rfl) ?_))
      refine ⟨?_, hF.same⟩
      first
      | (have hn : ¬ (Le x = false ∨ x.exp < 0 ∨ 19 < (x.digits.length : Int) + x.exp) := by (refine not_or.2 ⟨by simp_all, not_or.2 ⟨by omega, by omega⟩⟩)
         rw [Li, if_neg hn]
         simp_all; done)
      | (rw [Li]; simp_all; done)
    ·
      refine Ca (Gc Ns rfl) ?_
      refine Vd (Yx isAgg9 rfl hF.F 0 rfl rfl) ?_
      refine Ca (M7 underlying9 rfl) ?_
      refine Ca (Gc Vk rfl) ?_
      refine Vd (At isAgg3 rfl hF.F 0 rfl rfl) ?_
      refine Ia (v := .int .i64 ((x.digits.length : Int) + x.exp)) (Ou rfl rfl (Am (by have := Jd (x := x) (by simp_all); omega) (by have := Jd (x := x) (by simp_all); omega))) ?_
      refine Ca (Ey rfl rfl) ?_
      refine Ca (Fd rfl rfl) ?_
      refine Fb ?_
      refine Ha ?_
      refine Kc rfl rfl (fun hc0 => ?_) (fun hc0 => ?_)
      ·
        refine Ja ?_
        refine Ea ?_
        refine Ca (Pc rfl) ?_
        refine Ca (Hc rfl) ?_
        refine Fb ?_
        refine Ha ?_
        refine Xb (Wb (Va (Od (v := .int .i64 0) (x := .bool false) rfl rfl rfl) ?_))
        refine ⟨?_, hF.same⟩
        first
        | (have hn : ¬ (Le x = false ∨ x.exp < 0 ∨ 19 < (x.digits.length : Int) + x.exp) := by (refine not_or.2 ⟨by simp_all, not_or.2 ⟨by omega, by omega⟩⟩)
           rw [Li, if_neg hn]
           simp_all; done)
        | (rw [Li]; simp_all; done)
      ·
        refine Cb ?_
        refine Ha ?_
        refine Ja ?_
        refine Hg (zs := []) (.free 0 (.free 1 (.free 2 (.free 3 (.act 4 (.free 5 (.free 6 .nil))))))) hF ?_
        clear hF; intro w hF
        refine Xa rfl (Gc Ns rfl) ?_
        refine Jo rfl (Yx isAgg9 rfl C0 0 rfl rfl) ?_
        refine Xa rfl (Gc Vk rfl) ?_
        refine Jo rfl (At isAgg3 rfl C0 0 rfl rfl) ?_
        refine Vp hF (Jz x.exp by_Om by_Om _) rfl (Mb R6 rfl rfl rfl) ?_
        clear hF; intro w hF
        refine ⟨hF, ?_⟩
        refine Qa rfl (v := .string (bs ((x.digits) ++ (Lib.repeatL [48] x.exp.toNat)))) (fun w hC => Fp rfl rfl (by have := Ip 48 x.exp.toNat; have := Jd (x := x) (by simp_all); first | omega | (simp only [List.length_append, List.length_cons, List.length_nil]; omega))) ?_
        refine Xa rfl (Zi rfl) ?_
        refine Ac ?_
        refine Ha ?_
        refine Ja ?_
        refine St (fun σ w => AllEq σ [(4, .string (bs (Nr x)))] ∧ FR w0 [] [(b1, .cells #[.bool (x.neg), .string (bs (x.digits)), .int .i64 (x.exp)] 71)] w) ?_ ?_
        ·
          refine Ja ?_
          refine Ea ?_
          refine Ca (Gc L_ rfl) ?_
          refine Vd (SL isAgg4 rfl hF.F 0 rfl rfl) ?_
          refine Fb ?_
          refine Ha ?_
          refine Ik rfl rfl (fun hc1 => ?_) (fun hc1 => ?_)
          ·
            have eT : [45] ++ (x.digits ++ Lib.repeatL [48] x.exp.toNat) = Nr x := by unfold Nr; rw [if_pos (by assumption)]; rfl
            refine Ea ?_
            refine Ca (Bf rfl) ?_
            refine Ia (v := .string (bs (Nr x))) (by rw [← eT]; exact Fp rfl rfl (by have := Ip 48 x.exp.toNat; have := Jd (x := x) (by simp_all); first | omega | (simp only [List.length_append, List.length_cons, List.length_nil]; omega))) ?_
            refine Ca (Zi rfl) ?_
            refine Fb ?_
            exact Dc ⟨ZM, hF⟩
          ·
            have eT : x.digits ++ Lib.repeatL [48] x.exp.toNat = Nr x := by unfold Nr; rw [if_neg (by simp_all)]
            rw [eT]
            refine Cb ?_
            exact Dc ⟨ZM, hF⟩
        clear hF; rintro σ w ⟨hs, hF⟩
        refine Eg.slots hs ?_
        clear hs; intro σ
        have hT : (Nr x).length ≤ 1020 := by have := Ip 48 x.exp.toNat; have := Jd (x := x) (by simp_all); unfold Nr; split <;> simp only [List.length_append, List.length_cons] <;> omega
        refine Ha ?_
        refine Ja ?_
        refine Ja ?_
        refine Ea ?_
        refine Ca (Bf rfl) ?_
        refine Ca (G6 rfl rfl) ?_
        refine Fb ?_
        refine Ha ?_
        refine Kc rfl rfl (fun hc2 => ?_) (fun hc2 => ?_)
        ·
          refine Ja ?_
          refine Ea ?_
          refine Ca (Pc rfl) ?_
          refine Ca (Hc rfl) ?_
          refine Fb ?_
          refine Ha ?_
          refine Xb (Wb (Va (Od (v := .int .i64 0) (x := .bool true) rfl rfl rfl) ?_))
          refine ⟨?_, hF.same⟩
          first
          | (have hn : ¬ (Le x = false ∨ x.exp < 0 ∨ 19 < (x.digits.length : Int) + x.exp) := by (refine not_or.2 ⟨by simp_all, not_or.2 ⟨by omega, by omega⟩⟩)
             rw [Li, if_neg hn]
             simp_all; done)
          | (rw [Li]; simp_all; done)
        ·
          refine Cb ?_
          refine Ha ?_
          refine Ja ?_
          refine Ea ?_
          refine Ca (Bf rfl) ?_
          refine Eb (D8 (Nr x) by_Om (hG.ext hF.same)) (Bc GI rfl rfl rfl rfl) ?_
          rintro _ w ⟨e, rfl, he, hE⟩
          replace hF := hF.ext hE
          clear hE
          refine Ca (Gn rfl) ?_
          refine Ca (Mt rfl rfl) ?_
          refine Ca (CN rfl rfl) ?_
          refine Ca (Pc rfl) ?_
          refine Ca (Zy) ?_
          refine Fb ?_
          refine Ha ?_
          refine Ja ?_
          refine Ja ?_
          refine Ea ?_
          refine Ca (F6) ?_
          refine Ia (v := .bool (!(pI (Nr x)).2)) (W_ (underlying153) he rfl rfl) ?_
          refine Fb ?_
          refine Ha ?_
          refine Ik rfl rfl (fun hc3 => ?_) (fun hc3 => ?_)
          ·
            refine Ja ?_
            refine Ea ?_
            refine Ca (Pc rfl) ?_
            refine Ca (Hc rfl) ?_
            refine Fb ?_
            refine Ha ?_
            refine Xb (Wb (Va (Od (v := .int .i64 0) (x := .bool false) rfl rfl rfl) ?_))
            refine ⟨?_, hF.same⟩
            first
            | (have hn : ¬ (Le x = false ∨ x.exp < 0 ∨ 19 < (x.digits.length : Int) + x.exp) := by (refine not_or.2 ⟨by simp_all, not_or.2 ⟨by omega, by omega⟩⟩)
               rw [Li, if_neg hn]
               simp_all; done)
            | (rw [Li]; simp_all; done)
          ·
            refine Cb ?_
            refine Ha ?_
            refine Ja ?_
            refine Ea ?_
            refine Ca (Hb rfl) ?_
            refine Ca (Pc rfl) ?_
            refine Ca (Hc rfl) ?_
            refine Fb ?_
            refine Ha ?_
            refine Xb (Wb (Va (Od (v := .int .i64 ((pI (Nr x)).1)) (x := .bool true) rfl rfl rfl) ?_))
            refine ⟨?_, hF.same⟩
            first
            | (have hn : ¬ (Le x = false ∨ x.exp < 0 ∨ 19 < (x.digits.length : Int) + x.exp) := by (refine not_or.2 ⟨by simp_all, not_or.2 ⟨by omega, by omega⟩⟩)
               rw [Li, if_neg hn]
               simp_all; done)
            | (rw [Li]; simp_all; done)
end Go.Scarf
