/- A part of the proof. -/
import Derived.Test.YtepbomjpbdbejaaGreatDoorW1
import Derived.Test.YtepbomjpbdbejaaGreatDoorMore
import Derived.Lib.SmallJoins
set_option linter.all false
set_option maxHeartbeats 8000000
set_option maxRecDepth 10000
namespace Go.Scarf
open Go.RowKit Go.Proofs Go.Proofs.Tryz
theorem D7 (s : Str) : (Qb s).1.whole.length ≤ s.length ∧ (Qb s).1.rest.length ≤ s.length ∧ (Qb s).1.exp.length ≤ s.length := by
  have h1 := Df [101, 69] (Lib.trimPrefix s [45])
  have h2 := Ef s [45]
  have h3 := Df [46] (Oa [101, 69] (Lib.trimPrefix s [45])).1
  have h4 := Ef (Oa [101, 69] (Lib.trimPrefix s [45])).2.1 [45]
  have h5 := Ef (Lib.trimPrefix (Oa [101, 69] (Lib.trimPrefix s [45])).2.1 [45]) [43]
  unfold Qb
  simp only
  repeat' split
  all_goals (refine ⟨?_, ?_, ?_⟩ <;> simp only [Sd, List.length_nil] <;> omega)
def Ar (s : Str) : Int := if (Qb s).1.low then - Wf (Lib.trimLeftB (Qb s).1.exp 48) else Wf (Lib.trimLeftB (Qb s).1.exp 48)
theorem Kj (s : Str) : Bf s = if (Qb s).2 = false then (Num.zero, 2) else
  if 1000 < (Qb s).1.whole.length + (Qb s).1.rest.length then (Num.zero, 3) else
  if 9 < (Lib.trimLeftB (Qb s).1.exp 48).length then (Num.zero, 4) else
  if Lib.trimLeftB ((Qb s).1.whole ++ (Qb s).1.rest) 48 = [] then (Num.zero, 0) else
  if Ke (⟨(Qb s).1.neg, Lib.trimRightB (Lib.trimLeftB ((Qb s).1.whole ++ (Qb s).1.rest) 48) 48, Ar s - (Qb s).1.rest.length + (Lib.trimLeftB ((Qb s).1.whole ++ (Qb s).1.rest) 48).length - (Lib.trimRightB (Lib.trimLeftB ((Qb s).1.whole ++ (Qb s).1.rest) 48) 48).length⟩) = false then (Num.zero, 4) else
  (⟨(Qb s).1.neg, Lib.trimRightB (Lib.trimLeftB ((Qb s).1.whole ++ (Qb s).1.rest) 48) 48, Ar s - (Qb s).1.rest.length + (Lib.trimLeftB ((Qb s).1.whole ++ (Qb s).1.rest) 48).length - (Lib.trimRightB (Lib.trimLeftB ((Qb s).1.whole ++ (Qb s).1.rest) 48) 48).length⟩, 0) := rfl
theorem LA {s : Str} {q : Nat} (h : q < s.length) (ha : s.all Si = true) : (Utf8.decode (bs s) q).1 = s[q].toNat ∧ (Utf8.decode (bs s) q).2 = 1 ∧ 48 ≤ s[q].toNat ∧ s[q].toNat ≤ 57 := by
  have hd := List.all_eq_true.1 ha s[q] (List.getElem_mem h)
  have := E1 s q h hd
  rw [this]
  unfold Si at hd
  simp only [Bool.and_eq_true, decide_eq_true_eq] at hd
  exact ⟨rfl, rfl, hd.1, hd.2⟩
theorem QD {f : UInt8 → Bool} {s : Str} (q : Nat) (h : s.all f = true) : (s.take q).all f = true := by
  rw [List.all_eq_true] at h ⊢
  exact fun x hx => h x (List.mem_of_mem_take hx)
theorem O9 (s : Str) (hl : s.length ≤ 140737488355328) (w0 : World) : Calls prog 59 #[.string (bs s)] w0 (Nd fun v w' => v = .tuple #[Jn (Bf s).1, .int .i64 (Bf s).2] ∧ Same [] w0 w') := by
 have hls := D7 s
 have ht0 := Cq (Qb s).1.exp 48
 have ht1 := Cq ((Qb s).1.whole ++ (Qb s).1.rest) 48
 rw [List.length_append] at ht1
 have ht2 := Kw (Lib.trimLeftB ((Qb s).1.whole ++ (Qb s).1.rest) 48) 48
 refine Ka func59 rfl ntmps59 Kb (Yc _) ?_
 have hF := FR.start w0 []
 refine Ma ?_
 refine Ch (cs := #[.bool false, .string (bs []), .int .i64 0]) hF zeroValue71 rfl ?_
 clear hF; rintro b1 w hb1 hF -
 refine Ca (Ic rfl) (Dc (Ca (Xe rfl) ?_))
 refine Pb hF (DJ s hl _) (Fb FM rfl rfl) ?_
 clear hF; intro w hF
 refine Ca (Wm rfl) (Ca (ZK rfl rfl) (Ca (Wq rfl rfl) ?_))
 refine Hm hF zeroValue114 sizeOf114 rfl ?_
 clear hF; rintro b2 w hb2 hF -
 refine Ca (Gc rfl) (Dc (Ca (Ac Er rfl) (Md (Nv isAgg9 rfl hF.F 0 rfl rfl) ?_)))
 refine Pb hF (Gu (Qb s).1.exp _) (Mb ZH rfl rfl rfl) ?_
 clear hF; intro w hF
 refine Ca (Li rfl) (Ga (Ia (Va (Ma (Ca (Ld rfl) (Ca (Lp rfl) (Ca (Gc rfl) (Ga ?_))))))))
 refine Qj rfl rfl (fun hc0 => ?_) (fun hc0 => ?_)
 refine Ma ?_
 refine Ja (w' := w) (v := .agg #[.bool false, .string (bs []), .int .i64 0]) Eb ?_
 refine Pl hF sizeOf71 rfl rfl I2 ?_
 clear hF; rintro w hF -
 refine Ca (Ic rfl) (Ga ?_)
 refine Zb (Xb (Ua (Yd rfl (l := [.bool false, .string (bs []), .int .i64 0]) rfl isAgg71 sizeOf71 rfl (hF.cellsAll 1 rfl) (v := .int .i64 2) rfl) ?_))
 exact ⟨by rw [Kj, if_pos (by simpa using hc0)]; rfl, hF.same⟩
 refine Ma (Ca (Ac Lo rfl) (Md (Nv isAgg9 rfl hF.F 0 rfl rfl) (Ca (W3 underlying9 rfl) (Ca (Ac Nm rfl) (Md (Nv isAgg9 rfl hF.F 0 rfl rfl) (Ca (W3 underlying9 rfl) (Ca (Dm rfl rfl) (Ca (Iy rfl rfl) (Ca (Gc rfl) (Ga ?_))))))))))
 refine Jc rfl rfl (fun hc1 => ?_) (fun hc1 => ?_)
 refine Ma ?_
 refine Ja (w' := w) (v := .agg #[.bool false, .string (bs []), .int .i64 0]) Eb ?_
 refine Pl hF sizeOf71 rfl rfl I2 ?_
 clear hF; rintro w hF -
 refine Ca (Ic rfl) (Ga ?_)
 refine Zb (Xb (Ua (Yd rfl (l := [.bool false, .string (bs []), .int .i64 0]) rfl isAgg71 sizeOf71 rfl (hF.cellsAll 1 rfl) (v := .int .i64 3) rfl) ?_))
 exact ⟨by rw [Kj, if_neg (by simpa using hc0), if_pos by_Om]; rfl, hF.same⟩
 refine Ma (Ca (Xe rfl) (Ca (W3 underlying9 rfl) (Ca (Iy rfl rfl) (Ca (Gc rfl) (Ga ?_)))))
 refine Jc rfl rfl (fun hc2 => ?_) (fun hc2 => ?_)
 refine Ma ?_
 refine Ja (w' := w) (v := .agg #[.bool false, .string (bs []), .int .i64 0]) Eb ?_
 refine Pl hF sizeOf71 rfl rfl I2 ?_
 clear hF; rintro w hF -
 refine Ca (Ic rfl) (Ga ?_)
 refine Zb (Xb (Ua (Yd rfl (l := [.bool false, .string (bs []), .int .i64 0]) rfl isAgg71 sizeOf71 rfl (hF.cellsAll 1 rfl) (v := .int .i64 4) rfl) ?_))
 exact ⟨by rw [Kj, if_neg (by simpa using hc0), if_neg by_Om, if_pos by_Om]; rfl, hF.same⟩
 refine Wa (Ob (Ha (Ma (Ca (Ic rfl) (Ga (Ia (Ma (Ca (Xe rfl) ?_))))))))
 refine Cs (str := (Lib.trimLeftB (Qb s).1.exp 48)) hF underlying9 rfl ?_
 clear hF; rintro b3 w hb3 hF -
 refine Ga (Va ?_)
 have hall : (Lib.trimLeftB (Qb s).1.exp 48).all Si = true := Aq (S_ (by simp_all))
 refine Xc (fun μ σ w => ∃ (q : Nat), μ = (Lib.trimLeftB (Qb s).1.exp 48).length - q ∧ (q ≤ (Lib.trimLeftB (Qb s).1.exp 48).length) ∧ AllEq σ [(2, .pointer (some ⟨b1, 0, none⟩)), (4, .pointer (some ⟨b2, 0, none⟩)), (7, .int .i64 (Wf ((Lib.trimLeftB (Qb s).1.exp 48).take q))), (41, .pointer (some ⟨b3, 0, none⟩))] ∧ FR w0 [] [(b3, .stringIter (bs ((Lib.trimLeftB (Qb s).1.exp 48))) (q)), (b2, .cells #[.bool ((Qb s).1.neg), .bool ((Qb s).1.low), .string (bs ((Qb s).1.whole)), .string (bs ((Qb s).1.rest)), .string (bs ((Qb s).1.exp))] 114), (b1, .cells #[.bool false, .string (bs []), .int .i64 0] 71)] w) _ ⟨0, rfl, (Nat.zero_le _), Xt, hF⟩ ?_
 clear hF; rintro μ σ w ⟨q, rfl, hq, hs, hF⟩
 refine Cg.slots hs ?_
 clear hs; intro σ
 refine Ma ?_
 by_cases hn0 : (q) < ((Lib.trimLeftB (Qb s).1.exp 48) : Str).length
 refine Su 0 (p := q) (str := (Lib.trimLeftB (Qb s).1.exp 48)) hF rfl rfl hn0 ?_
 clear hF; rintro w hF -
 replace hF : FR w0 [] [(b3, .stringIter (bs ((Lib.trimLeftB (Qb s).1.exp 48))) (q + (Utf8.decode (bs ((Lib.trimLeftB (Qb s).1.exp 48))) (q)).2)), _, _] w := hF
 refine Ca (Wq rfl rfl) (Ga (Ia (Je rfl (Wa (Ha (Va (Ma (Ca (Co rfl rfl) (Ca (Ic rfl) (Ga ?_))))))))))
 refine Ea (Ca (Ib rfl) ?_)
 have hv := LA (s := (Lib.trimLeftB (Qb s).1.exp 48)) (q := q) by_Om hall
 have hb := Cz ((Lib.trimLeftB (Qb s).1.exp 48).take q) (QD q hall) (by rw [List.length_take]; omega)
 refine Ja (v := .int .i64 (10 * Wf ((Lib.trimLeftB (Qb s).1.exp 48).take q))) (I5 rfl rfl (Ng by_Om by_Om by_Om)) (Ca (Ib rfl) ?_)
 refine Ja (v := .int .i32 (((Utf8.decode (bs (Lib.trimLeftB (Qb s).1.exp 48)) q).1 : Int) - 48)) (Ls rfl rfl (by rw [IntKind.wrap_i32]; omega)) ?_
 refine Ja (v := .int .i64 (((Utf8.decode (bs (Lib.trimLeftB (Qb s).1.exp 48)) q).1 : Int) - 48)) (Sf underlying21 underlying3 rfl (Bm by_Om by_Om)) ?_
 refine Ja (v := .int .i64 (Wf ((Lib.trimLeftB (Qb s).1.exp 48).take (q + 1)))) (Dr rfl rfl (by rw [Cu _ q by_Om, hv.1]; exact Bm by_Om by_Om)) ?_
 refine Ca (Ic rfl) (Za (Ob ?_))
 rw [hv.2.1] at hF
 refine Ec ⟨_, ?_, q + 1, rfl, by_Om, Xt, hF⟩
 omega
 refine Ym 0 (p := q) (str := (Lib.trimLeftB (Qb s).1.exp 48)) hF rfl rfl hn0 ?_
 refine Ca (Wq rfl rfl) (Ga (Ia (Mg rfl ?_)))
 refine Lc (Hc rfl ?_)
 refine Ha ?_
 have eT : (Lib.trimLeftB (Qb s).1.exp 48).take q = (Lib.trimLeftB (Qb s).1.exp 48) := List.take_of_length_le by_Om
 have hb := Cz (Lib.trimLeftB (Qb s).1.exp 48) hall by_Om
 have hE : -1000000000 < Ar s ∧ Ar s < 1000000000 := by unfold Ar; split <;> omega
 refine Ia ?_
 refine Iq (fun σ w => AllEq σ [(2, .pointer (some ⟨b1, 0, none⟩)), (4, .pointer (some ⟨b2, 0, none⟩)), (7, .int .i64 (Ar s))] ∧ FR w0 [] [(b3, .stringIter (bs ((Lib.trimLeftB (Qb s).1.exp 48))) (q)), (b2, .cells #[.bool ((Qb s).1.neg), .bool ((Qb s).1.low), .string (bs ((Qb s).1.whole)), .string (bs ((Qb s).1.rest)), .string (bs ((Qb s).1.exp))] 114), (b1, .cells #[.bool false, .string (bs []), .int .i64 0] 71)] w) ?_ ?_
 refine Ma (Ca (Ac Cw rfl) (Md (RL isAgg4 rfl hF.F 1 rfl rfl) (Ga ?_)))
 refine Qj rfl rfl (fun hc4 => ?_) (fun hc4 => ?_)
 have eE : Ar s = - Wf (Lib.trimLeftB (Qb s).1.exp 48) := by unfold Ar; rw [if_pos (by assumption)]
 refine Ea (Ca (Ib rfl) ?_)
 refine Ja (v := .int .i64 (Ar s)) (JI rfl (by rw [eT, eE]; exact Ng by_Om by_Om by_Om)) ?_
 refine Ca (Ic rfl) (Za ?_)
 exact Ec ⟨TH, hF⟩
 have eE : Ar s = Wf (Lib.trimLeftB (Qb s).1.exp 48) := by unfold Ar; rw [if_neg (by simp_all)]
 rw [eT, ← eE]
 refine Wa ?_
 exact Ec ⟨TH, hF⟩
 clear hF; rintro σ w ⟨hs, hF⟩
 refine Eg.slots hs ?_
 clear hs; intro σ
 refine Ha (Ma (Ca (Ac Lo rfl) (Md (Nv isAgg9 rfl hF.F 1 rfl rfl) (Ca (Ac Nm rfl) (Md (Nv isAgg9 rfl hF.F 1 rfl rfl) (Ja (v := .string (bs (((Qb s).1.whole) ++ ((Qb s).1.rest)))) (Mo rfl rfl by_Om) ?_))))))
 refine Pb hF (Gu ((Qb s).1.whole ++ (Qb s).1.rest) _) (Mb ZH rfl rfl rfl) ?_
 clear hF; intro w hF
 refine Ca (Li rfl) (Ga (Ia (Ma (Ca (Xe rfl) (Ca (O5 rfl rfl) (Ga ?_))))))
 refine Jc rfl rfl (fun hc5 => ?_) (fun hc5 => ?_)
 refine Ma ?_
 refine Ja (w' := w) (v := .agg #[.bool false, .string (bs []), .int .i64 0]) Eb ?_
 refine Pl hF sizeOf71 rfl rfl EH ?_
 clear hF; rintro w hF -
 refine Ca (Ic rfl) (Ga ?_)
 refine Zb (Xb (Ua (Yd rfl (l := [.bool false, .string (bs []), .int .i64 0]) rfl isAgg71 sizeOf71 rfl (hF.cellsAll 2 rfl) (v := .int .i64 0) rfl) ?_))
 exact ⟨by rw [Kj, if_neg (by simpa using hc0), if_neg by_Om, if_neg by_Om, if_pos hc5]; rfl, hF.same⟩
 refine Wa (Ha (Ma (Ca (Xe rfl) ?_)))
 refine Pb hF (R1 (Lib.trimLeftB ((Qb s).1.whole ++ (Qb s).1.rest) 48) _ by_Om) (Mb GL rfl rfl rfl) ?_
 clear hF; intro w hF
 refine Ca (Li rfl) (Dc (Ca (Ac C3 rfl) (Md (RL isAgg4 rfl hF.F 1 rfl rfl) (Ca (Xe rfl) (Ca (Ib rfl) (Ca (Ac Nm rfl) (Md (Nv isAgg9 rfl hF.F 1 rfl rfl) (Ca (W3 underlying9 rfl) (Ca (Sp rfl rfl) (Ca (Xe rfl) ?_))))))))))
 refine Ca (W3 underlying9 rfl) (Ca (Dm rfl rfl) (Ca (Xe rfl) (Ca (W3 underlying9 rfl) (Ca (Sp rfl rfl) ?_))))
 refine Ja (w' := w) (v := .agg #[.bool ((Qb s).1.neg), .string (bs ((Lib.trimRightB (Lib.trimLeftB ((Qb s).1.whole ++ (Qb s).1.rest) 48) 48))), .int .i64 ((((Ar s : Int) - ((((Qb s).1.rest) : Str).length : Int) : Int) + ((((Lib.trimLeftB ((Qb s).1.whole ++ (Qb s).1.rest) 48)) : Str).length : Int) : Int) - ((((Lib.trimRightB (Lib.trimLeftB ((Qb s).1.whole ++ (Qb s).1.rest) 48) 48)) : Str).length : Int))]) Eb ?_
 refine Hm hF zeroValue71 sizeOf71 rfl ?_
 clear hF; rintro b4 w hb4 hF -
 refine Ga (Ia (Ma (Md (Pk isAgg71 sizeOf71 rfl hF.F 0 rfl rfl) ?_)))
 refine Pb hF (Zz (⟨(Qb s).1.neg, (Lib.trimRightB (Lib.trimLeftB ((Qb s).1.whole ++ (Qb s).1.rest) 48) 48), Ar s - (Qb s).1.rest.length + (Lib.trimLeftB ((Qb s).1.whole ++ (Qb s).1.rest) 48).length - (Lib.trimRightB (Lib.trimLeftB ((Qb s).1.whole ++ (Qb s).1.rest) 48) 48).length⟩) (by show (Lib.trimRightB (Lib.trimLeftB ((Qb s).1.whole ++ (Qb s).1.rest) 48) 48).length ≤ _; omega) _) (Fb IF rfl rfl) ?_
 clear hF; intro w hF
 refine Ca (Lp rfl) (Ga ?_)
 refine Qj rfl rfl (fun hc6 => ?_) (fun hc6 => ?_)
 refine Ma ?_
 refine Ja (w' := w) (v := .agg #[.bool false, .string (bs []), .int .i64 0]) Eb ?_
 refine Pl hF sizeOf71 rfl rfl VJ ?_
 clear hF; rintro w hF -
 refine Ca (Ic rfl) (Ga ?_)
 refine Zb (Xb (Ua (Yd rfl (l := [.bool false, .string (bs []), .int .i64 0]) rfl isAgg71 sizeOf71 rfl (hF.cellsAll 3 rfl) (v := .int .i64 4) rfl) ?_))
 exact ⟨by rw [Kj, if_neg (by simpa using hc0), if_neg by_Om, if_neg by_Om, if_neg hc5, if_pos (by simpa using hc6)]; rfl, hF.same⟩
 refine Wa (Ha (Ma (Md (Pk isAgg71 sizeOf71 rfl hF.F 0 rfl rfl) ?_)))
 refine Pl hF sizeOf71 rfl rfl VJ ?_
 clear hF; rintro w hF -
 refine Ca (Ic rfl) (Ga ?_)
 refine Zb (Xb (Ua (Yd rfl (l := [.bool ((Qb s).1.neg), .string (bs ((Lib.trimRightB (Lib.trimLeftB ((Qb s).1.whole ++ (Qb s).1.rest) 48) 48))), .int .i64 ((((Ar s : Int) - ((((Qb s).1.rest) : Str).length : Int) : Int) + ((((Lib.trimLeftB ((Qb s).1.whole ++ (Qb s).1.rest) 48)) : Str).length : Int) : Int) - ((((Lib.trimRightB (Lib.trimLeftB ((Qb s).1.whole ++ (Qb s).1.rest) 48) 48)) : Str).length : Int))]) rfl isAgg71 sizeOf71 rfl (hF.cellsAll 3 rfl) (v := .int .i64 0) rfl) ?_))
 exact ⟨by rw [Kj, if_neg (by simpa using hc0), if_neg by_Om, if_neg by_Om, if_neg hc5, if_neg (by simpa using hc6)]; rfl, hF.same⟩
end Go.Scarf
namespace Go.Scarf
open Go.RowKit Go.Proofs Go.Proofs.Tryz
def DI (n : Int) : Num := (Bf (Lib.itoa n)).1
def pI (s : Str) : Int × Bool := match Lib.parseIntB 64 s with | .ok v => (v, true) | .range => (Lib.intSat 64 s, false) | _ => (0, false)
def LE (x : Num) : Int × Bool :=
  if Ke x = false ∨ x.exp < 0 ∨ 19 < (x.digits.length : Int) + x.exp then (0, false) else
  let t := x.digits ++ Lib.repeatL [48] x.exp.toNat
  let u := if x.neg then 45 :: t else t
  if u = [] then (0, true) else if (pI u).2 = false then (0, false) else ((pI u).1, true)
def Hy (e : Value) (b : Bool) : Prop := if b then ∃ tp q, e = .iface tp q else e = .nilIface
theorem Q_ {P : Program} {ρ : Operand → Value} {w : World} {dst : Option Nat} {ty : TypeId} {pos : String} {aft : Array Edge} {g : Option (Nat × Bool)} {t t' : TypeId} {x : Operand} {e : Value} {b : Bool} (ht : P.underlying t = some (.interface (P.methodsAt t))) (he : Hy e b) (hx : ρ x = e) (hy : ρ (.const .nilIface) = .nilIface) :
    (execOp ρ ⟨dst, .binOp .neq t x (.const .nilIface) t', ty, pos, aft, g⟩).run P w = .ok (.value (.bool b)) w := by
  unfold Hy at he
  cases b
  · simp only [Bool.false_eq_true, if_false] at he; subst he; exact J_ ht hx hy
  · simp only [if_true] at he; obtain ⟨tp, q, rfl⟩ := he; exact K2 ht hx hy
theorem Nu (w : World) (e : TypeId) (s : ByteArray) : Same [] w (Lib.bytesWorld w e s) :=
  .of_below (Joins.below_bytesWorld _ w e s (Nat.le_refl _))
theorem T5 (s : Str) (hl : s.length ≤ 140737488355328) {w : World} (hG : Gl w) : Calls prog 125 #[.string (bs s), .int .i64 10, .int .i64 64] w (Nd fun v w' => ∃ e, v = .tuple #[.int .i64 (pI s).1, e] ∧ Hy e (!(pI s).2) ∧ Same [] w w') := by
  cases h : Lib.parseIntB 64 s with
  | ok n =>
    refine (strconv_ParseInt_10_at64_ok (bs s) (by rw [Ql]; omega) n h w).mono ?_
    rintro e w' ⟨rfl, hw⟩
    refine ⟨_, rfl, .nilIface, by simp [pI, h], by simp [pI, h, Hy], ?_⟩
    rcases hw with rfl | ⟨t, rfl⟩
    · exact Same.refl _ _
    · exact Nu w 5 t
  | range =>
    obtain ⟨tp, q, hv⟩ := hG.err
    refine (strconv_ParseInt_10_at64_range_var (bs s) (by rw [Ql]; omega) h tp q w hv).mono ?_
    rintro e w' ⟨N, rfl, -, -, hb⟩
    exact ⟨_, rfl, .iface 219 (.pointer (some ⟨N, 0, none⟩)), by simp only [pI, h], by simp [pI, h, Hy], .of_below hb⟩
  | _ =>
    obtain ⟨tp, q, hv⟩ := hG.serr
    refine (Any.strconv_ParseInt_10_at64_syntax_var laysC174 (bs s) (by rw [Ql]; omega) h tp q w hv).mono ?_
    rintro e w' ⟨N, rfl, -, -, hb⟩
    exact ⟨_, rfl, .iface 219 (.pointer (some ⟨N, 0, none⟩)), (by simp [pI, h]; rfl), by simp [pI, h, Hy], .of_below hb⟩
theorem Vy (c : Int) (h0 : 0 ≤ c) (h1 : c ≤ 19) (w : World) : Calls prog 124 #[.string (bs [48]), .int .i64 c] w (Nd fun v w' => v = .string (bs (Lib.repeatL [48] c.toNat)) ∧ Same [] w w') := by
  have h := strings_Repeat (bs [48]) c.toNat w by_Om (by rw [Ql]; simp; omega)
  rw [Int.toNat_of_nonneg h0] at h
  exact Mp h
theorem MG (n : Int) (h1 : -9223372036854775808 ≤ n) (h2 : n ≤ 9223372036854775807) (w0 : World) (hG : Gl w0) : Calls prog 38 #[.int .i64 n] w0 (Nd fun v w' => v = Jn (DI n) ∧ Same [] w0 w') := by
 refine Ka func38 rfl ntmps38 Kb (Yc _) ?_
 have hF := FR.start w0 []
 refine Ma ?_
 refine Ch (cs := #[.bool false, .string (bs []), .int .i64 0]) hF zeroValue71 rfl ?_
 clear hF; rintro b1 w hb1 hF -
 refine Dc (Ca (Ib rfl) ?_)
 refine Pb hF (V5 n h1 h2 (hG.ext hF.same)) (Fb PB rfl rfl) ?_
 clear hF; intro w hF
 refine Pb hF (O9 (Lib.itoa n) (by have := Lib.itoa_length_le n h1 h2; omega) _) (Fb GH rfl rfl) ?_
 clear hF; intro w hF
 refine Ca (Wm rfl) (Ca (ZK rfl rfl) (Ca (Co rfl rfl) ?_))
 refine Hm hF zeroValue71 sizeOf71 rfl ?_
 clear hF; rintro b2 w hb2 hF -
 refine Ca (Ic rfl) (Dc (Md (Pk isAgg71 sizeOf71 rfl hF.F 0 rfl rfl) ?_))
 refine Pl hF sizeOf71 rfl rfl I2 ?_
 clear hF; rintro w hF -
 refine Ga ?_
 refine Zb (Xb (Ua (Dv rfl (l := [.bool ((DI n).neg), .string (bs ((DI n).digits)), .int .i64 ((DI n).exp)]) rfl isAgg71 sizeOf71 rfl (hF.cellsAll 1 rfl)) ?_))
 exact ⟨rfl, hF.same⟩
def As (x : Num) : Str := if x.neg then 45 :: (x.digits ++ Lib.repeatL [48] x.exp.toNat) else x.digits ++ Lib.repeatL [48] x.exp.toNat
theorem Ci (x : Num) : LE x = if Ke x = false ∨ x.exp < 0 ∨ 19 < (x.digits.length : Int) + x.exp then (0, false) else if As x = [] then (0, true) else if (pI (As x)).2 = false then (0, false) else ((pI (As x)).1, true) := rfl
theorem Ap (c : UInt8) (n : Nat) : (Lib.repeatL [c] n).length = n := by
  induction n with
  | zero => rfl
  | succ n ih => unfold Lib.repeatL; simp [ih]; try omega
theorem GC (x : Num) (hl : x.digits.length ≤ 140737488355328) (w0 : World) (hG : Gl w0) : Calls prog 98 #[Jn x] w0 (Nd fun v w' => v = .tuple #[.int .i64 (LE x).1, .bool (LE x).2] ∧ Same [] w0 w') := by
  refine Ka func98 rfl ntmps98 Kb (Yc _) ?_
  have hF := FR.start w0 []
  refine Ia ?_
  refine Ea ?_
  refine Ij hF rfl ?_
  clear hF; intro b1 w hb1 hF hE
  clear hE
  refine Ca (Ic rfl) ?_
  refine Ca (Gc rfl) ?_
  refine Za ?_
  refine Ha ?_
  refine Ia ?_
  refine Ia ?_
  refine Ea ?_
  refine Md (Pk isAgg71 sizeOf71 rfl hF.F 0 rfl rfl) ?_
  refine Pb hF (Zz x hl _) (Fb IF rfl rfl) ?_
  clear hF; intro w hF
  refine Ca (Lp rfl) ?_
  refine Ca (Ld rfl) ?_
  refine If (d := 10) rfl (fun hg0 => ?_) (fun hg0 => ?_)
  ·
    refine Ta ?_
    refine Ta ?_
    refine Ta ?_
    refine Ca (Wc rfl rfl) ?_
    refine Ca (Ld rfl) ?_
    refine Ta ?_
    refine Ta ?_
    refine Ta ?_
    refine Ta ?_
    refine Ta ?_
    refine Ta ?_
    refine Ta ?_
    refine Ca (Wc rfl rfl) ?_
    refine Za ?_
    refine Ha ?_
    refine Je rfl ?_
    refine Ia ?_
    refine Ea ?_
    refine Ca (Ic rfl) ?_
    refine Ca (Gc rfl) ?_
    refine Za ?_
    refine Ha ?_
    refine Zb (Xb (Ua (We (v := .int .i64 0) (x := .bool false) rfl rfl rfl) ?_))
    refine ⟨?_, hF.same⟩
    first
    | (have hn : ¬ (Ke x = false ∨ x.exp < 0 ∨ 19 < (x.digits.length : Int) + x.exp) := by (refine not_or.2 ⟨by simp_all, not_or.2 ⟨by omega, by omega⟩⟩)
       rw [Ci, if_neg hn]
       simp_all; done)
    | (rw [Ci]; simp_all; done)
  ·
    refine Ca (Ac Ok rfl) ?_
    refine Md (Rr isAgg3 rfl hF.F 0 rfl rfl) ?_
    refine Ca (Yl rfl rfl) ?_
    refine Ca (Pd rfl rfl) ?_
    refine Ca (Ld rfl) ?_
    refine Ad (d := 15) rfl (fun hg1 => ?_) (fun hg1 => ?_)
    ·
      refine Ta ?_
      refine Ta ?_
      refine Ta ?_
      refine Ta ?_
      refine Ta ?_
      refine Ta ?_
      refine Ta ?_
      refine Ca (Wc rfl rfl) ?_
      refine Za ?_
      refine Ha ?_
      refine Je rfl ?_
      refine Ia ?_
      refine Ea ?_
      refine Ca (Ic rfl) ?_
      refine Ca (Gc rfl) ?_
      refine Za ?_
      refine Ha ?_
      refine Zb (Xb (Ua (We (v := .int .i64 0) (x := .bool false) rfl rfl rfl) ?_))
      refine ⟨?_, hF.same⟩
      first
      | (have hn : ¬ (Ke x = false ∨ x.exp < 0 ∨ 19 < (x.digits.length : Int) + x.exp) := by (refine not_or.2 ⟨by simp_all, not_or.2 ⟨by omega, by omega⟩⟩)
         rw [Ci, if_neg hn]
         simp_all; done)
      | (rw [Ci]; simp_all; done)
    ·
      refine Ca (Ac Fr rfl) ?_
      refine Md (Nv isAgg9 rfl hF.F 0 rfl rfl) ?_
      refine Ca (W3 underlying9 rfl) ?_
      refine Ca (Ac Ok rfl) ?_
      refine Md (Rr isAgg3 rfl hF.F 0 rfl rfl) ?_
      refine Ja (v := .int .i64 ((x.digits.length : Int) + x.exp)) (Dr rfl rfl (Bm (by have := Jd (x := x) (by simp_all); omega) (by have := Jd (x := x) (by simp_all); omega))) ?_
      refine Ca (Iy rfl rfl) ?_
      refine Ca (Pd rfl rfl) ?_
      refine Za ?_
      refine Ha ?_
      refine Jc rfl rfl (fun hc0 => ?_) (fun hc0 => ?_)
      ·
        refine Ia ?_
        refine Ea ?_
        refine Ca (Ic rfl) ?_
        refine Ca (Gc rfl) ?_
        refine Za ?_
        refine Ha ?_
        refine Zb (Xb (Ua (We (v := .int .i64 0) (x := .bool false) rfl rfl rfl) ?_))
        refine ⟨?_, hF.same⟩
        first
        | (have hn : ¬ (Ke x = false ∨ x.exp < 0 ∨ 19 < (x.digits.length : Int) + x.exp) := by (refine not_or.2 ⟨by simp_all, not_or.2 ⟨by omega, by omega⟩⟩)
           rw [Ci, if_neg hn]
           simp_all; done)
        | (rw [Ci]; simp_all; done)
      ·
        refine Wa ?_
        refine Ha ?_
        refine Ia ?_
        refine Bg (zs := []) (.free 0 (.free 1 (.free 2 (.free 3 (.act 4 (.free 5 (.free 6 .nil))))))) hF ?_
        clear hF; intro w hF
        refine Cb rfl (Ac Fr rfl) ?_
        refine Eo rfl (Nv isAgg9 rfl C0 0 rfl rfl) ?_
        refine Cb rfl (Ac Ok rfl) ?_
        refine Eo rfl (Rr isAgg3 rfl C0 0 rfl rfl) ?_
        refine Kp hF (Vy x.exp by_Om by_Om _) rfl (Mb W7 rfl rfl rfl) ?_
        clear hF; intro w hF
        refine ⟨hF, ?_⟩
        refine Qa rfl (v := .string (bs ((x.digits) ++ (Lib.repeatL [48] x.exp.toNat)))) (fun w hC => Mo rfl rfl (by have := Ap 48 x.exp.toNat; have := Jd (x := x) (by simp_all); first | omega | (simp only [List.length_append, List.length_cons, List.length_nil]; omega))) ?_
        refine Cb rfl (Li rfl) ?_
        refine Bc ?_
        refine Ha ?_
        refine Ia ?_
        refine Iq (fun σ w => AllEq σ [(4, .string (bs (As x)))] ∧ FR w0 [] [(b1, .cells #[.bool (x.neg), .string (bs (x.digits)), .int .i64 (x.exp)] 71)] w) ?_ ?_
        ·
          refine Ia ?_
          refine Ea ?_
          refine Ca (Ac L9 rfl) ?_
          refine Md (RL isAgg4 rfl hF.F 0 rfl rfl) ?_
          refine Za ?_
          refine Ha ?_
          refine Qj rfl rfl (fun hc1 => ?_) (fun hc1 => ?_)
          ·
            have eT : [45] ++ (x.digits ++ Lib.repeatL [48] x.exp.toNat) = As x := by unfold As; rw [if_pos (by assumption)]; rfl
            refine Ea ?_
            refine Ca (Xe rfl) ?_
            refine Ja (v := .string (bs (As x))) (by rw [← eT]; exact Mo rfl rfl (by have := Ap 48 x.exp.toNat; have := Jd (x := x) (by simp_all); first | omega | (simp only [List.length_append, List.length_cons, List.length_nil]; omega))) ?_
            refine Ca (Li rfl) ?_
            refine Za ?_
            exact Ec ⟨ON, hF⟩
          ·
            have eT : x.digits ++ Lib.repeatL [48] x.exp.toNat = As x := by unfold As; rw [if_neg (by simp_all)]
            rw [eT]
            refine Wa ?_
            exact Ec ⟨ON, hF⟩
        clear hF; rintro σ w ⟨hs, hF⟩
        refine Eg.slots hs ?_
        clear hs; intro σ
        have hT : (As x).length ≤ 1020 := by have := Ap 48 x.exp.toNat; have := Jd (x := x) (by simp_all); unfold As; split <;> simp only [List.length_append, List.length_cons] <;> omega
        refine Ha ?_
        refine Ia ?_
        refine Ia ?_
        refine Ea ?_
        refine Ca (Xe rfl) ?_
        refine Ca (O5 rfl rfl) ?_
        refine Za ?_
        refine Ha ?_
        refine Jc rfl rfl (fun hc2 => ?_) (fun hc2 => ?_)
        ·
          refine Ia ?_
          refine Ea ?_
          refine Ca (Ic rfl) ?_
          refine Ca (Gc rfl) ?_
          refine Za ?_
          refine Ha ?_
          refine Zb (Xb (Ua (We (v := .int .i64 0) (x := .bool true) rfl rfl rfl) ?_))
          refine ⟨?_, hF.same⟩
          first
          | (have hn : ¬ (Ke x = false ∨ x.exp < 0 ∨ 19 < (x.digits.length : Int) + x.exp) := by (refine not_or.2 ⟨by simp_all, not_or.2 ⟨by omega, by omega⟩⟩)
             rw [Ci, if_neg hn]
             simp_all; done)
          | (rw [Ci]; simp_all; done)
        ·
          refine Wa ?_
          refine Ha ?_
          refine Ia ?_
          refine Ea ?_
          refine Ca (Xe rfl) ?_
          refine Ya (T5 (As x) by_Om (hG.ext hF.same)) (Fc OJ rfl rfl rfl rfl) ?_
          rintro _ w ⟨e, rfl, he, hE⟩
          replace hF := hF.ext hE
          clear hE
          refine Ca (Wm rfl) ?_
          refine Ca (Co rfl rfl) ?_
          refine Ca (GN rfl rfl) ?_
          refine Ca (Ic rfl) ?_
          refine Ca (Mx) ?_
          refine Za ?_
          refine Ha ?_
          refine Ia ?_
          refine Ia ?_
          refine Ea ?_
          refine Ca (M5) ?_
          refine Ja (v := .bool (!(pI (As x)).2)) (Q_ (underlying153) he rfl rfl) ?_
          refine Za ?_
          refine Ha ?_
          refine Qj rfl rfl (fun hc3 => ?_) (fun hc3 => ?_)
          ·
            refine Ia ?_
            refine Ea ?_
            refine Ca (Ic rfl) ?_
            refine Ca (Gc rfl) ?_
            refine Za ?_
            refine Ha ?_
            refine Zb (Xb (Ua (We (v := .int .i64 0) (x := .bool false) rfl rfl rfl) ?_))
            refine ⟨?_, hF.same⟩
            first
            | (have hn : ¬ (Ke x = false ∨ x.exp < 0 ∨ 19 < (x.digits.length : Int) + x.exp) := by (refine not_or.2 ⟨by simp_all, not_or.2 ⟨by omega, by omega⟩⟩)
               rw [Ci, if_neg hn]
               simp_all; done)
            | (rw [Ci]; simp_all; done)
          ·
            refine Wa ?_
            refine Ha ?_
            refine Ia ?_
            refine Ea ?_
            refine Ca (Ib rfl) ?_
            refine Ca (Ic rfl) ?_
            refine Ca (Gc rfl) ?_
            refine Za ?_
            refine Ha ?_
            refine Zb (Xb (Ua (We (v := .int .i64 ((pI (As x)).1)) (x := .bool true) rfl rfl rfl) ?_))
            refine ⟨?_, hF.same⟩
            first
            | (have hn : ¬ (Ke x = false ∨ x.exp < 0 ∨ 19 < (x.digits.length : Int) + x.exp) := by (refine not_or.2 ⟨by simp_all, not_or.2 ⟨by omega, by omega⟩⟩)
               rw [Ci, if_neg hn]
               simp_all; done)
            | (rw [Ci]; simp_all; done)
end Go.Scarf
