/- A part of the proof. -/
import Derived.Test.YtepbomjpbdbejaaGreatDoorW1
import Derived.Test.YtepbomjpbdbejaaGreatDoorMore
import Derived.Lib.SmallJoins
set_option linter.all false
set_option maxHeartbeats 8000000
set_option maxRecDepth 10000
namespace Go.Scarf
open Go.RowKit Go.Proofs Go.Proofs.Tryz
theorem J5 (s : Str) : (Ob s).1.whole.length ≤ s.length ∧ (Ob s).1.rest.length ≤ s.length ∧ (Ob s).1.exp.length ≤ s.length := by
  have h1 := Ze [101, 69] (Lib.trimPrefix s [45])
  have h2 := Cf s [45]
  have h3 := Ze [46] (Oa [101, 69] (Lib.trimPrefix s [45])).1
  have h4 := Cf (Oa [101, 69] (Lib.trimPrefix s [45])).2.1 [45]
  have h5 := Cf (Lib.trimPrefix (Oa [101, 69] (Lib.trimPrefix s [45])).2.1 [45]) [43]
  unfold Ob
  simp only
  repeat' split
  all_goals (refine ⟨?_, ?_, ?_⟩ <;> simp only [Od, List.length_nil] <;> omega)
def Fr (s : Str) : Int := if (Ob s).1.low then - Qf (Lib.trimLeftB (Ob s).1.exp 48) else Qf (Lib.trimLeftB (Ob s).1.exp 48)
theorem Gj (s : Str) : Bf s = if (Ob s).2 = false then (Num.zero, 2) else
  if 1000 < (Ob s).1.whole.length + (Ob s).1.rest.length then (Num.zero, 3) else
  if 9 < (Lib.trimLeftB (Ob s).1.exp 48).length then (Num.zero, 4) else
  if Lib.trimLeftB ((Ob s).1.whole ++ (Ob s).1.rest) 48 = [] then (Num.zero, 0) else
  if Ie (⟨(Ob s).1.neg, Lib.trimRightB (Lib.trimLeftB ((Ob s).1.whole ++ (Ob s).1.rest) 48) 48, Fr s - (Ob s).1.rest.length + (Lib.trimLeftB ((Ob s).1.whole ++ (Ob s).1.rest) 48).length - (Lib.trimRightB (Lib.trimLeftB ((Ob s).1.whole ++ (Ob s).1.rest) 48) 48).length⟩) = false then (Num.zero, 4) else
  (⟨(Ob s).1.neg, Lib.trimRightB (Lib.trimLeftB ((Ob s).1.whole ++ (Ob s).1.rest) 48) 48, Fr s - (Ob s).1.rest.length + (Lib.trimLeftB ((Ob s).1.whole ++ (Ob s).1.rest) 48).length - (Lib.trimRightB (Lib.trimLeftB ((Ob s).1.whole ++ (Ob s).1.rest) 48) 48).length⟩, 0) := rfl
theorem D9 {s : Str} {q : Nat} (h : q < s.length) (ha : s.all Mi = true) : (Utf8.decode (bs s) q).1 = s[q].toNat ∧ (Utf8.decode (bs s) q).2 = 1 ∧ 48 ≤ s[q].toNat ∧ s[q].toNat ≤ 57 := by
  have hd := List.all_eq_true.1 ha s[q] (List.getElem_mem h)
  have := E0 s q h hd
  rw [this]
  unfold Mi at hd
  simp only [Bool.and_eq_true, decide_eq_true_eq] at hd
  exact ⟨rfl, rfl, hd.1, hd.2⟩
theorem HD {f : UInt8 → Bool} {s : Str} (q : Nat) (h : s.all f = true) : (s.take q).all f = true := by
  rw [List.all_eq_true] at h ⊢
  exact fun x hx => h x (List.mem_of_mem_take hx)
theorem O8 (s : Str) (hl : s.length ≤ 140737488355328) (w0 : World) : Calls prog 59 #[.string (bs s)] w0 (Kd fun v w' => v = .tuple #[Zm (Bf s).1, .int .i64 (Bf s).2] ∧ Same [] w0 w') := by
 have hls := J5 s
 have ht0 := Kp (Ob s).1.exp 48
 have ht1 := Kp ((Ob s).1.whole ++ (Ob s).1.rest) 48
 rw [List.length_append] at ht1
 have ht2 := Fv (Lib.trimLeftB ((Ob s).1.whole ++ (Ob s).1.rest) 48) 48
 refine Ka func59 rfl ntmps59 Jb (Vc _) ?_
 have hF := FR.start w0 []
 refine Ma ?_
 refine Zg (cs := #[.bool false, .string (bs []), .int .i64 0]) hF zeroValue71 rfl ?_
 clear hF; rintro b1 w hb1 hF -
 refine Ca (Qc rfl) (Dc (Ca (Ve rfl) ?_))
 refine Pb hF (LH s hl _) (Ib VK rfl rfl) ?_
 clear hF; intro w hF
 refine Ca (Hn rfl) (Ca (HJ rfl rfl) (Ca (Dp rfl rfl) ?_))
 refine Km hF zeroValue114 sizeOf114 rfl ?_
 clear hF; rintro b2 w hb2 hF -
 refine Ca (Gc rfl) (Dc (Ca (Ac Jr rfl) (Pd (Cx isAgg9 rfl hF.F 0 rfl rfl) ?_)))
 refine Pb hF (St (Ob s).1.exp _) (Kb TG rfl rfl rfl) ?_
 clear hF; intro w hF
 refine Ca (Ti rfl) (Ha (Ia (Za (Ma (Ca (Ud rfl) (Ca (Zo rfl) (Ca (Gc rfl) (Ha ?_))))))))
 refine Gk rfl rfl (fun hc0 => ?_) (fun hc0 => ?_)
 refine Ma ?_
 refine Ja (w' := w) (v := .agg #[.bool false, .string (bs []), .int .i64 0]) Db ?_
 refine Il hF sizeOf71 rfl rfl G1 ?_
 clear hF; rintro w hF -
 refine Ca (Qc rfl) (Ha ?_)
 refine Wb (Vb (Ua (Yd rfl (l := [.bool false, .string (bs []), .int .i64 0]) rfl isAgg71 sizeOf71 rfl (hF.cellsAll 1 rfl) (v := .int .i64 2) rfl) ?_))
 exact ⟨by rw [Gj, if_pos (by simpa using hc0)]; rfl, hF.same⟩
 refine Ma (Ca (Ac Ro rfl) (Pd (Cx isAgg9 rfl hF.F 0 rfl rfl) (Ca (X5 underlying9 rfl) (Ca (Ac Nm rfl) (Pd (Cx isAgg9 rfl hF.F 0 rfl rfl) (Ca (X5 underlying9 rfl) (Ca (Ko rfl rfl) (Ca (Rx rfl rfl) (Ca (Gc rfl) (Ha ?_))))))))))
 refine Jc rfl rfl (fun hc1 => ?_) (fun hc1 => ?_)
 refine Ma ?_
 refine Ja (w' := w) (v := .agg #[.bool false, .string (bs []), .int .i64 0]) Db ?_
 refine Il hF sizeOf71 rfl rfl G1 ?_
 clear hF; rintro w hF -
 refine Ca (Qc rfl) (Ha ?_)
 refine Wb (Vb (Ua (Yd rfl (l := [.bool false, .string (bs []), .int .i64 0]) rfl isAgg71 sizeOf71 rfl (hF.cellsAll 1 rfl) (v := .int .i64 3) rfl) ?_))
 exact ⟨by rw [Gj, if_neg (by simpa using hc0), if_pos by_Om]; rfl, hF.same⟩
 refine Ma (Ca (Ve rfl) (Ca (X5 underlying9 rfl) (Ca (Rx rfl rfl) (Ca (Gc rfl) (Ha ?_)))))
 refine Jc rfl rfl (fun hc2 => ?_) (fun hc2 => ?_)
 refine Ma ?_
 refine Ja (w' := w) (v := .agg #[.bool false, .string (bs []), .int .i64 0]) Db ?_
 refine Il hF sizeOf71 rfl rfl G1 ?_
 clear hF; rintro w hF -
 refine Ca (Qc rfl) (Ha ?_)
 refine Wb (Vb (Ua (Yd rfl (l := [.bool false, .string (bs []), .int .i64 0]) rfl isAgg71 sizeOf71 rfl (hF.cellsAll 1 rfl) (v := .int .i64 4) rfl) ?_))
 exact ⟨by rw [Gj, if_neg (by simpa using hc0), if_neg by_Om, if_pos by_Om]; rfl, hF.same⟩
 refine Xa (Mb (Ga (Ma (Ca (Qc rfl) (Ha (Ia (Ma (Ca (Ve rfl) ?_))))))))
 refine Hr (str := (Lib.trimLeftB (Ob s).1.exp 48)) hF underlying9 rfl ?_
 clear hF; rintro b3 w hb3 hF -
 refine Ha (Za ?_)
 have hall : (Lib.trimLeftB (Ob s).1.exp 48).all Mi = true := Xp (C9 (by simp_all))
 refine Uc (fun μ σ w => ∃ (q : Nat), μ = (Lib.trimLeftB (Ob s).1.exp 48).length - q ∧ (q ≤ (Lib.trimLeftB (Ob s).1.exp 48).length) ∧ AllEq σ [(2, .pointer (some ⟨b1, 0, none⟩)), (4, .pointer (some ⟨b2, 0, none⟩)), (7, .int .i64 (Qf ((Lib.trimLeftB (Ob s).1.exp 48).take q))), (41, .pointer (some ⟨b3, 0, none⟩))] ∧ FR w0 [] [(b3, .stringIter (bs ((Lib.trimLeftB (Ob s).1.exp 48))) (q)), (b2, .cells #[.bool ((Ob s).1.neg), .bool ((Ob s).1.low), .string (bs ((Ob s).1.whole)), .string (bs ((Ob s).1.rest)), .string (bs ((Ob s).1.exp))] 114), (b1, .cells #[.bool false, .string (bs []), .int .i64 0] 71)] w) _ ⟨0, rfl, (Nat.zero_le _), Mu, hF⟩ ?_
 clear hF; rintro μ σ w ⟨q, rfl, hq, hs, hF⟩
 refine Cg.slots hs ?_
 clear hs; intro σ
 refine Ma ?_
 by_cases hn0 : (q) < ((Lib.trimLeftB (Ob s).1.exp 48) : Str).length
 refine Lu 0 (p := q) (str := (Lib.trimLeftB (Ob s).1.exp 48)) hF rfl rfl hn0 ?_
 clear hF; rintro w hF -
 replace hF : FR w0 [] [(b3, .stringIter (bs ((Lib.trimLeftB (Ob s).1.exp 48))) (q + (Utf8.decode (bs ((Lib.trimLeftB (Ob s).1.exp 48))) (q)).2)), _, _] w := hF
 refine Ca (Dp rfl rfl) (Ha (Ia (He rfl (Xa (Ga (Za (Ma (Ca (At rfl rfl) (Ca (Qc rfl) (Ha ?_))))))))))
 refine Da (Ca (Hb rfl) ?_)
 have hv := D9 (s := (Lib.trimLeftB (Ob s).1.exp 48)) (q := q) by_Om hall
 have hb := Fz ((Lib.trimLeftB (Ob s).1.exp 48).take q) (HD q hall) (by rw [List.length_take]; omega)
 refine Ja (v := .int .i64 (10 * Qf ((Lib.trimLeftB (Ob s).1.exp 48).take q))) (I2 rfl rfl (Gh by_Om by_Om by_Om)) (Ca (Hb rfl) ?_)
 refine Ja (v := .int .i32 (((Utf8.decode (bs (Lib.trimLeftB (Ob s).1.exp 48)) q).1 : Int) - 48)) (Tt rfl rfl (by rw [IntKind.wrap_i32]; omega)) ?_
 refine Ja (v := .int .i64 (((Utf8.decode (bs (Lib.trimLeftB (Ob s).1.exp 48)) q).1 : Int) - 48)) (Tf underlying21 underlying3 rfl (Pl by_Om by_Om)) ?_
 refine Ja (v := .int .i64 (Qf ((Lib.trimLeftB (Ob s).1.exp 48).take (q + 1)))) (Nt rfl rfl (by rw [Cu _ q by_Om, hv.1]; exact Pl by_Om by_Om)) ?_
 refine Ca (Qc rfl) (Wa (Mb ?_))
 rw [hv.2.1] at hF
 refine Fc ⟨_, ?_, q + 1, rfl, by_Om, Mu, hF⟩
 omega
 refine Mn 0 (p := q) (str := (Lib.trimLeftB (Ob s).1.exp 48)) hF rfl rfl hn0 ?_
 refine Ca (Dp rfl rfl) (Ha (Ia (Nf rfl ?_)))
 refine Oc (Mc rfl ?_)
 refine Ga ?_
 have eT : (Lib.trimLeftB (Ob s).1.exp 48).take q = (Lib.trimLeftB (Ob s).1.exp 48) := List.take_of_length_le by_Om
 have hb := Fz (Lib.trimLeftB (Ob s).1.exp 48) hall by_Om
 have hE : -1000000000 < Fr s ∧ Fr s < 1000000000 := by unfold Fr; split <;> omega
 refine Ia ?_
 refine Rw (fun σ w => AllEq σ [(2, .pointer (some ⟨b1, 0, none⟩)), (4, .pointer (some ⟨b2, 0, none⟩)), (7, .int .i64 (Fr s))] ∧ FR w0 [] [(b3, .stringIter (bs ((Lib.trimLeftB (Ob s).1.exp 48))) (q)), (b2, .cells #[.bool ((Ob s).1.neg), .bool ((Ob s).1.low), .string (bs ((Ob s).1.whole)), .string (bs ((Ob s).1.rest)), .string (bs ((Ob s).1.exp))] 114), (b1, .cells #[.bool false, .string (bs []), .int .i64 0] 71)] w) ?_ ?_
 refine Ma (Ca (Ac Cw rfl) (Pd (YK isAgg4 rfl hF.F 1 rfl rfl) (Ha ?_)))
 refine Gk rfl rfl (fun hc4 => ?_) (fun hc4 => ?_)
 have eE : Fr s = - Qf (Lib.trimLeftB (Ob s).1.exp 48) := by unfold Fr; rw [if_pos (by assumption)]
 refine Da (Ca (Hb rfl) ?_)
 refine Ja (v := .int .i64 (Fr s)) (UG rfl (by rw [eT, eE]; exact Gh by_Om by_Om by_Om)) ?_
 refine Ca (Qc rfl) (Wa ?_)
 exact Fc ⟨SG, hF⟩
 have eE : Fr s = Qf (Lib.trimLeftB (Ob s).1.exp 48) := by unfold Fr; rw [if_neg (by simp_all)]
 rw [eT, ← eE]
 refine Xa ?_
 exact Fc ⟨SG, hF⟩
 clear hF; rintro σ w ⟨hs, hF⟩
 refine Eg.slots hs ?_
 clear hs; intro σ
 refine Ga (Ma (Ca (Ac Ro rfl) (Pd (Cx isAgg9 rfl hF.F 1 rfl rfl) (Ca (Ac Nm rfl) (Pd (Cx isAgg9 rfl hF.F 1 rfl rfl) (Ja (v := .string (bs (((Ob s).1.whole) ++ ((Ob s).1.rest)))) (Mo rfl rfl by_Om) ?_))))))
 refine Pb hF (St ((Ob s).1.whole ++ (Ob s).1.rest) _) (Kb TG rfl rfl rfl) ?_
 clear hF; intro w hF
 refine Ca (Ti rfl) (Ha (Ia (Ma (Ca (Ve rfl) (Ca (L4 rfl rfl) (Ha ?_))))))
 refine Jc rfl rfl (fun hc5 => ?_) (fun hc5 => ?_)
 refine Ma ?_
 refine Ja (w' := w) (v := .agg #[.bool false, .string (bs []), .int .i64 0]) Db ?_
 refine Il hF sizeOf71 rfl rfl IF ?_
 clear hF; rintro w hF -
 refine Ca (Qc rfl) (Ha ?_)
 refine Wb (Vb (Ua (Yd rfl (l := [.bool false, .string (bs []), .int .i64 0]) rfl isAgg71 sizeOf71 rfl (hF.cellsAll 2 rfl) (v := .int .i64 0) rfl) ?_))
 exact ⟨by rw [Gj, if_neg (by simpa using hc0), if_neg by_Om, if_neg by_Om, if_pos hc5]; rfl, hF.same⟩
 refine Xa (Ga (Ma (Ca (Ve rfl) ?_)))
 refine Pb hF (D1 (Lib.trimLeftB ((Ob s).1.whole ++ (Ob s).1.rest) 48) _ by_Om) (Kb NK rfl rfl rfl) ?_
 clear hF; intro w hF
 refine Ca (Ti rfl) (Dc (Ca (Ac G3 rfl) (Pd (YK isAgg4 rfl hF.F 1 rfl rfl) (Ca (Ve rfl) (Ca (Hb rfl) (Ca (Ac Nm rfl) (Pd (Cx isAgg9 rfl hF.F 1 rfl rfl) (Ca (X5 underlying9 rfl) (Ca (Ur rfl rfl) (Ca (Ve rfl) ?_))))))))))
 refine Ca (X5 underlying9 rfl) (Ca (Ko rfl rfl) (Ca (Ve rfl) (Ca (X5 underlying9 rfl) (Ca (Ur rfl rfl) ?_))))
 refine Ja (w' := w) (v := .agg #[.bool ((Ob s).1.neg), .string (bs ((Lib.trimRightB (Lib.trimLeftB ((Ob s).1.whole ++ (Ob s).1.rest) 48) 48))), .int .i64 ((((Fr s : Int) - ((((Ob s).1.rest) : Str).length : Int) : Int) + ((((Lib.trimLeftB ((Ob s).1.whole ++ (Ob s).1.rest) 48)) : Str).length : Int) : Int) - ((((Lib.trimRightB (Lib.trimLeftB ((Ob s).1.whole ++ (Ob s).1.rest) 48) 48)) : Str).length : Int))]) Db ?_
 refine Km hF zeroValue71 sizeOf71 rfl ?_
 clear hF; rintro b4 w hb4 hF -
 refine Ha (Ia (Ma (Pd (Pk isAgg71 sizeOf71 rfl hF.F 0 rfl rfl) ?_)))
 refine Pb hF (L0 (⟨(Ob s).1.neg, (Lib.trimRightB (Lib.trimLeftB ((Ob s).1.whole ++ (Ob s).1.rest) 48) 48), Fr s - (Ob s).1.rest.length + (Lib.trimLeftB ((Ob s).1.whole ++ (Ob s).1.rest) 48).length - (Lib.trimRightB (Lib.trimLeftB ((Ob s).1.whole ++ (Ob s).1.rest) 48) 48).length⟩) (by show (Lib.trimRightB (Lib.trimLeftB ((Ob s).1.whole ++ (Ob s).1.rest) 48) 48).length ≤ _; omega) _) (Ib ZA rfl rfl) ?_
 clear hF; intro w hF
 refine Ca (Zo rfl) (Ha ?_)
 refine Gk rfl rfl (fun hc6 => ?_) (fun hc6 => ?_)
 refine Ma ?_
 refine Ja (w' := w) (v := .agg #[.bool false, .string (bs []), .int .i64 0]) Db ?_
 refine Il hF sizeOf71 rfl rfl AH ?_
 clear hF; rintro w hF -
 refine Ca (Qc rfl) (Ha ?_)
 refine Wb (Vb (Ua (Yd rfl (l := [.bool false, .string (bs []), .int .i64 0]) rfl isAgg71 sizeOf71 rfl (hF.cellsAll 3 rfl) (v := .int .i64 4) rfl) ?_))
 exact ⟨by rw [Gj, if_neg (by simpa using hc0), if_neg by_Om, if_neg by_Om, if_neg hc5, if_pos (by simpa using hc6)]; rfl, hF.same⟩
 refine Xa (Ga (Ma (Pd (Pk isAgg71 sizeOf71 rfl hF.F 0 rfl rfl) ?_)))
 refine Il hF sizeOf71 rfl rfl AH ?_
 clear hF; rintro w hF -
 refine Ca (Qc rfl) (Ha ?_)
 refine Wb (Vb (Ua (Yd rfl (l := [.bool ((Ob s).1.neg), .string (bs ((Lib.trimRightB (Lib.trimLeftB ((Ob s).1.whole ++ (Ob s).1.rest) 48) 48))), .int .i64 ((((Fr s : Int) - ((((Ob s).1.rest) : Str).length : Int) : Int) + ((((Lib.trimLeftB ((Ob s).1.whole ++ (Ob s).1.rest) 48)) : Str).length : Int) : Int) - ((((Lib.trimRightB (Lib.trimLeftB ((Ob s).1.whole ++ (Ob s).1.rest) 48) 48)) : Str).length : Int))]) rfl isAgg71 sizeOf71 rfl (hF.cellsAll 3 rfl) (v := .int .i64 0) rfl) ?_))
 exact ⟨by rw [Gj, if_neg (by simpa using hc0), if_neg by_Om, if_neg by_Om, if_neg hc5, if_neg (by simpa using hc6)]; rfl, hF.same⟩
end Go.Scarf
namespace Go.Scarf
open Go.RowKit Go.Proofs Go.Proofs.Tryz
def NG (n : Int) : Num := (Bf (Lib.itoa n)).1
def pI (s : Str) : Int × Bool := match Lib.parseIntB 64 s with | .ok v => (v, true) | .range => (Lib.intSat 64 s, false) | _ => (0, false)
def CD (x : Num) : Int × Bool :=
  if Ie x = false ∨ x.exp < 0 ∨ 19 < (x.digits.length : Int) + x.exp then (0, false) else
  let t := x.digits ++ Lib.repeatL [48] x.exp.toNat
  let u := if x.neg then 45 :: t else t
  if u = [] then (0, true) else if (pI u).2 = false then (0, false) else ((pI u).1, true)
def Ly (e : Value) (b : Bool) : Prop := if b then ∃ tp q, e = .iface tp q else e = .nilIface
theorem Z_ {P : Program} {ρ : Operand → Value} {w : World} {dst : Option Nat} {ty : TypeId} {pos : String} {aft : Array Edge} {g : Option (Nat × Bool)} {t t' : TypeId} {x : Operand} {e : Value} {b : Bool} (ht : P.underlying t = some (.interface (P.methodsAt t))) (he : Ly e b) (hx : ρ x = e) (hy : ρ (.const .nilIface) = .nilIface) :
    (execOp ρ ⟨dst, .binOp .neq t x (.const .nilIface) t', ty, pos, aft, g⟩).run P w = .ok (.value (.bool b)) w := by
  unfold Ly at he
  cases b
  · simp only [Bool.false_eq_true, if_false] at he; subst he; exact B9 ht hx hy
  · simp only [if_true] at he; obtain ⟨tp, q, rfl⟩ := he; exact D2 ht hx hy
theorem Eu (w : World) (e : TypeId) (s : ByteArray) : Same [] w (Lib.bytesWorld w e s) :=
  .of_below (Joins.below_bytesWorld _ w e s (Nat.le_refl _))
theorem E6 (s : Str) (hl : s.length ≤ 140737488355328) {w : World} (hG : Gl w) : Calls prog 125 #[.string (bs s), .int .i64 10, .int .i64 64] w (Kd fun v w' => ∃ e, v = .tuple #[.int .i64 (pI s).1, e] ∧ Ly e (!(pI s).2) ∧ Same [] w w') := by
  cases h : Lib.parseIntB 64 s with
  | ok n =>
    refine (strconv_ParseInt_10_at64_ok (bs s) (by rw [Ql]; omega) n h w).mono ?_
    rintro e w' ⟨rfl, hw⟩
    refine ⟨_, rfl, .nilIface, by simp [pI, h], by simp [pI, h, Ly], ?_⟩
    rcases hw with rfl | ⟨t, rfl⟩
    · exact Same.refl _ _
    · exact Eu w 5 t
  | range =>
    obtain ⟨tp, q, hv⟩ := hG.err
    refine (strconv_ParseInt_10_at64_range_var (bs s) (by rw [Ql]; omega) h tp q w hv).mono ?_
    rintro e w' ⟨N, rfl, -, -, hb⟩
    exact ⟨_, rfl, .iface 219 (.pointer (some ⟨N, 0, none⟩)), by simp only [pI, h], by simp [pI, h, Ly], .of_below hb⟩
  | _ =>
    obtain ⟨tp, q, hv⟩ := hG.serr
    refine (Any.strconv_ParseInt_10_at64_syntax_var laysC174 (bs s) (by rw [Ql]; omega) h tp q w hv).mono ?_
    rintro e w' ⟨N, rfl, -, -, hb⟩
    exact ⟨_, rfl, .iface 219 (.pointer (some ⟨N, 0, none⟩)), (by simp [pI, h]; rfl), by simp [pI, h, Ly], .of_below hb⟩
theorem My (c : Int) (h0 : 0 ≤ c) (h1 : c ≤ 19) (w : World) : Calls prog 124 #[.string (bs [48]), .int .i64 c] w (Kd fun v w' => v = .string (bs (Lib.repeatL [48] c.toNat)) ∧ Same [] w w') := by
  have h := strings_Repeat (bs [48]) c.toNat w by_Om (by rw [Ql]; simp; omega)
  rw [Int.toNat_of_nonneg h0] at h
  exact Ip h
theorem RE (n : Int) (h1 : -9223372036854775808 ≤ n) (h2 : n ≤ 9223372036854775807) (w0 : World) (hG : Gl w0) : Calls prog 38 #[.int .i64 n] w0 (Kd fun v w' => v = Zm (NG n) ∧ Same [] w0 w') := by
 refine Ka func38 rfl ntmps38 Jb (Vc _) ?_
 have hF := FR.start w0 []
 refine Ma ?_
 refine Zg (cs := #[.bool false, .string (bs []), .int .i64 0]) hF zeroValue71 rfl ?_
 clear hF; rintro b1 w hb1 hF -
 refine Dc (Ca (Hb rfl) ?_)
 refine Pb hF (T6 n h1 h2 (hG.ext hF.same)) (Ib JC rfl rfl) ?_
 clear hF; intro w hF
 refine Pb hF (O8 (Lib.itoa n) (by have := Lib.itoa_length_le n h1 h2; omega) _) (Ib RG rfl rfl) ?_
 clear hF; intro w hF
 refine Ca (Hn rfl) (Ca (HJ rfl rfl) (Ca (At rfl rfl) ?_))
 refine Km hF zeroValue71 sizeOf71 rfl ?_
 clear hF; rintro b2 w hb2 hF -
 refine Ca (Qc rfl) (Dc (Pd (Pk isAgg71 sizeOf71 rfl hF.F 0 rfl rfl) ?_))
 refine Il hF sizeOf71 rfl rfl G1 ?_
 clear hF; rintro w hF -
 refine Ha ?_
 refine Wb (Vb (Ua (Uw rfl (l := [.bool ((NG n).neg), .string (bs ((NG n).digits)), .int .i64 ((NG n).exp)]) rfl isAgg71 sizeOf71 rfl (hF.cellsAll 1 rfl)) ?_))
 exact ⟨rfl, hF.same⟩
def Lr (x : Num) : Str := if x.neg then 45 :: (x.digits ++ Lib.repeatL [48] x.exp.toNat) else x.digits ++ Lib.repeatL [48] x.exp.toNat
theorem Ai (x : Num) : CD x = if Ie x = false ∨ x.exp < 0 ∨ 19 < (x.digits.length : Int) + x.exp then (0, false) else if Lr x = [] then (0, true) else if (pI (Lr x)).2 = false then (0, false) else ((pI (Lr x)).1, true) := rfl
theorem Bo (c : UInt8) (n : Nat) : (Lib.repeatL [c] n).length = n := by
  induction n with
  | zero => rfl
  | succ n ih => unfold Lib.repeatL; simp [ih]; try omega
theorem FA (x : Num) (hl : x.digits.length ≤ 140737488355328) (w0 : World) (hG : Gl w0) : Calls prog 98 #[Zm x] w0 (Kd fun v w' => v = .tuple #[.int .i64 (CD x).1, .bool (CD x).2] ∧ Same [] w0 w') := by
  refine Ka func98 rfl ntmps98 Jb (Vc _) ?_
  have hF := FR.start w0 []
  refine Ia ?_
  refine Da ?_
  refine Vj hF rfl ?_
  clear hF; intro b1 w hb1 hF hE
  clear hE
  refine Ca (Qc rfl) ?_
  refine Ca (Gc rfl) ?_
  refine Wa ?_
  refine Ga ?_
  refine Ia ?_
  refine Ia ?_
  refine Da ?_
  refine Pd (Pk isAgg71 sizeOf71 rfl hF.F 0 rfl rfl) ?_
  refine Pb hF (L0 x hl _) (Ib ZA rfl rfl) ?_
  clear hF; intro w hF
  refine Ca (Zo rfl) ?_
  refine Ca (Ud rfl) ?_
  refine Mf (d := 10) rfl (fun hg0 => ?_) (fun hg0 => ?_)
  ·
    refine Pa ?_
    refine Pa ?_
    refine Pa ?_
    refine Ca (Xc rfl rfl) ?_
    refine Ca (Ud rfl) ?_
    refine Pa ?_
    refine Pa ?_
    refine Pa ?_
    refine Pa ?_
    refine Pa ?_
    refine Pa ?_
    refine Pa ?_
    refine Ca (Xc rfl rfl) ?_
    refine Wa ?_
    refine Ga ?_
    refine He rfl ?_
    refine Ia ?_
    refine Da ?_
    refine Ca (Qc rfl) ?_
    refine Ca (Gc rfl) ?_
    refine Wa ?_
    refine Ga ?_
    refine Wb (Vb (Ua (Wd (v := .int .i64 0) (x := .bool false) rfl rfl rfl) ?_))
    refine ⟨?_, hF.same⟩
    first
    | (have hn : ¬ (Ie x = false ∨ x.exp < 0 ∨ 19 < (x.digits.length : Int) + x.exp) := by (refine not_or.2 ⟨by simp_all, not_or.2 ⟨by omega, by omega⟩⟩)
       rw [Ai, if_neg hn]
       simp_all; done)
    | (rw [Ai]; simp_all; done)
  ·
    refine Ca (Ac Bk rfl) ?_
    refine Pd (Ar isAgg3 rfl hF.F 0 rfl rfl) ?_
    refine Ca (Zl rfl rfl) ?_
    refine Ca (Md rfl rfl) ?_
    refine Ca (Ud rfl) ?_
    refine Dd (d := 15) rfl (fun hg1 => ?_) (fun hg1 => ?_)
    ·
      refine Pa ?_
      refine Pa ?_
      refine Pa ?_
      refine Pa ?_
      refine Pa ?_
      refine Pa ?_
      refine Pa ?_
      refine Ca (Xc rfl rfl) ?_
      refine Wa ?_
      refine Ga ?_
      refine He rfl ?_
      refine Ia ?_
      refine Da ?_
      refine Ca (Qc rfl) ?_
      refine Ca (Gc rfl) ?_
      refine Wa ?_
      refine Ga ?_
      refine Wb (Vb (Ua (Wd (v := .int .i64 0) (x := .bool false) rfl rfl rfl) ?_))
      refine ⟨?_, hF.same⟩
      first
      | (have hn : ¬ (Ie x = false ∨ x.exp < 0 ∨ 19 < (x.digits.length : Int) + x.exp) := by (refine not_or.2 ⟨by simp_all, not_or.2 ⟨by omega, by omega⟩⟩)
         rw [Ai, if_neg hn]
         simp_all; done)
      | (rw [Ai]; simp_all; done)
    ·
      refine Ca (Ac Gr rfl) ?_
      refine Pd (Cx isAgg9 rfl hF.F 0 rfl rfl) ?_
      refine Ca (X5 underlying9 rfl) ?_
      refine Ca (Ac Bk rfl) ?_
      refine Pd (Ar isAgg3 rfl hF.F 0 rfl rfl) ?_
      refine Ja (v := .int .i64 ((x.digits.length : Int) + x.exp)) (Nt rfl rfl (Pl (by have := Fd (x := x) (by simp_all); omega) (by have := Fd (x := x) (by simp_all); omega))) ?_
      refine Ca (Rx rfl rfl) ?_
      refine Ca (Md rfl rfl) ?_
      refine Wa ?_
      refine Ga ?_
      refine Jc rfl rfl (fun hc0 => ?_) (fun hc0 => ?_)
      ·
        refine Ia ?_
        refine Da ?_
        refine Ca (Qc rfl) ?_
        refine Ca (Gc rfl) ?_
        refine Wa ?_
        refine Ga ?_
        refine Wb (Vb (Ua (Wd (v := .int .i64 0) (x := .bool false) rfl rfl rfl) ?_))
        refine ⟨?_, hF.same⟩
        first
        | (have hn : ¬ (Ie x = false ∨ x.exp < 0 ∨ 19 < (x.digits.length : Int) + x.exp) := by (refine not_or.2 ⟨by simp_all, not_or.2 ⟨by omega, by omega⟩⟩)
           rw [Ai, if_neg hn]
           simp_all; done)
        | (rw [Ai]; simp_all; done)
      ·
        refine Xa ?_
        refine Ga ?_
        refine Ia ?_
        refine Kg (zs := []) (.free 0 (.free 1 (.free 2 (.free 3 (.act 4 (.free 5 (.free 6 .nil))))))) hF ?_
        clear hF; intro w hF
        refine Eb rfl (Ac Gr rfl) ?_
        refine Tn rfl (Cx isAgg9 rfl C0 0 rfl rfl) ?_
        refine Eb rfl (Ac Bk rfl) ?_
        refine Tn rfl (Ar isAgg3 rfl C0 0 rfl rfl) ?_
        refine Hp hF (My x.exp by_Om by_Om _) rfl (Kb S5 rfl rfl rfl) ?_
        clear hF; intro w hF
        refine ⟨hF, ?_⟩
        refine Sa rfl (v := .string (bs ((x.digits) ++ (Lib.repeatL [48] x.exp.toNat)))) (fun w hC => Mo rfl rfl (by have := Bo 48 x.exp.toNat; have := Fd (x := x) (by simp_all); first | omega | (simp only [List.length_append, List.length_cons, List.length_nil]; omega))) ?_
        refine Eb rfl (Ti rfl) ?_
        refine Cc ?_
        refine Ga ?_
        refine Ia ?_
        refine Rw (fun σ w => AllEq σ [(4, .string (bs (Lr x)))] ∧ FR w0 [] [(b1, .cells #[.bool (x.neg), .string (bs (x.digits)), .int .i64 (x.exp)] 71)] w) ?_ ?_
        ·
          refine Ia ?_
          refine Da ?_
          refine Ca (Ac D7 rfl) ?_
          refine Pd (YK isAgg4 rfl hF.F 0 rfl rfl) ?_
          refine Wa ?_
          refine Ga ?_
          refine Gk rfl rfl (fun hc1 => ?_) (fun hc1 => ?_)
          ·
            have eT : [45] ++ (x.digits ++ Lib.repeatL [48] x.exp.toNat) = Lr x := by unfold Lr; rw [if_pos (by assumption)]; rfl
            refine Da ?_
            refine Ca (Ve rfl) ?_
            refine Ja (v := .string (bs (Lr x))) (by rw [← eT]; exact Mo rfl rfl (by have := Bo 48 x.exp.toNat; have := Fd (x := x) (by simp_all); first | omega | (simp only [List.length_append, List.length_cons, List.length_nil]; omega))) ?_
            refine Ca (Ti rfl) ?_
            refine Wa ?_
            exact Fc ⟨PL, hF⟩
          ·
            have eT : x.digits ++ Lib.repeatL [48] x.exp.toNat = Lr x := by unfold Lr; rw [if_neg (by simp_all)]
            rw [eT]
            refine Xa ?_
            exact Fc ⟨PL, hF⟩
        clear hF; rintro σ w ⟨hs, hF⟩
        refine Eg.slots hs ?_
        clear hs; intro σ
        have hT : (Lr x).length ≤ 1020 := by have := Bo 48 x.exp.toNat; have := Fd (x := x) (by simp_all); unfold Lr; split <;> simp only [List.length_append, List.length_cons] <;> omega
        refine Ga ?_
        refine Ia ?_
        refine Ia ?_
        refine Da ?_
        refine Ca (Ve rfl) ?_
        refine Ca (L4 rfl rfl) ?_
        refine Wa ?_
        refine Ga ?_
        refine Jc rfl rfl (fun hc2 => ?_) (fun hc2 => ?_)
        ·
          refine Ia ?_
          refine Da ?_
          refine Ca (Qc rfl) ?_
          refine Ca (Gc rfl) ?_
          refine Wa ?_
          refine Ga ?_
          refine Wb (Vb (Ua (Wd (v := .int .i64 0) (x := .bool true) rfl rfl rfl) ?_))
          refine ⟨?_, hF.same⟩
          first
          | (have hn : ¬ (Ie x = false ∨ x.exp < 0 ∨ 19 < (x.digits.length : Int) + x.exp) := by (refine not_or.2 ⟨by simp_all, not_or.2 ⟨by omega, by omega⟩⟩)
             rw [Ai, if_neg hn]
             simp_all; done)
          | (rw [Ai]; simp_all; done)
        ·
          refine Xa ?_
          refine Ga ?_
          refine Ia ?_
          refine Da ?_
          refine Ca (Ve rfl) ?_
          refine Cb (E6 (Lr x) by_Om (hG.ext hF.same)) (Bc EI rfl rfl rfl rfl) ?_
          rintro _ w ⟨e, rfl, he, hE⟩
          replace hF := hF.ext hE
          clear hE
          refine Ca (Hn rfl) ?_
          refine Ca (At rfl rfl) ?_
          refine Ca (OL rfl rfl) ?_
          refine Ca (Qc rfl) ?_
          refine Ca (Ex) ?_
          refine Wa ?_
          refine Ga ?_
          refine Ia ?_
          refine Ia ?_
          refine Da ?_
          refine Ca (K4) ?_
          refine Ja (v := .bool (!(pI (Lr x)).2)) (Z_ (underlying153) he rfl rfl) ?_
          refine Wa ?_
          refine Ga ?_
          refine Gk rfl rfl (fun hc3 => ?_) (fun hc3 => ?_)
          ·
            refine Ia ?_
            refine Da ?_
            refine Ca (Qc rfl) ?_
            refine Ca (Gc rfl) ?_
            refine Wa ?_
            refine Ga ?_
            refine Wb (Vb (Ua (Wd (v := .int .i64 0) (x := .bool false) rfl rfl rfl) ?_))
            refine ⟨?_, hF.same⟩
            first
            | (have hn : ¬ (Ie x = false ∨ x.exp < 0 ∨ 19 < (x.digits.length : Int) + x.exp) := by (refine not_or.2 ⟨by simp_all, not_or.2 ⟨by omega, by omega⟩⟩)
               rw [Ai, if_neg hn]
               simp_all; done)
            | (rw [Ai]; simp_all; done)
          ·
            refine Xa ?_
            refine Ga ?_
            refine Ia ?_
            refine Da ?_
            refine Ca (Hb rfl) ?_
            refine Ca (Qc rfl) ?_
            refine Ca (Gc rfl) ?_
            refine Wa ?_
            refine Ga ?_
            refine Wb (Vb (Ua (Wd (v := .int .i64 ((pI (Lr x)).1)) (x := .bool true) rfl rfl rfl) ?_))
            refine ⟨?_, hF.same⟩
            first
            | (have hn : ¬ (Ie x = false ∨ x.exp < 0 ∨ 19 < (x.digits.length : Int) + x.exp) := by (refine not_or.2 ⟨by simp_all, not_or.2 ⟨by omega, by omega⟩⟩)
               rw [Ai, if_neg hn]
               simp_all; done)
            | (rw [Ai]; simp_all; done)
end Go.Scarf
