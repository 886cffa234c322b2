/- A part of the proof. -/
import Derived.Test.YtehigfneiofjnaaGreatDoorW1
import Derived.Test.YtehigfneiofjnaaGreatDoorMore
import Derived.Lib.SmallJoins
set_option linter.all false
set_option maxHeartbeats 8000000
set_option maxRecDepth 10000
namespace Go.Scarf
open Go.RowKit Go.Proofs Go.Proofs.Tryz
theorem Q_ (s : Str) : (Ub s).1.whole.length ≤ s.length ∧ (Ub s).1.rest.length ≤ s.length ∧ (Ub s).1.exp.length ≤ s.length := by
  have h1 := Rf [101, 69] (Lib.trimPrefix s [45])
  have h2 := Dh s [45]
  have h3 := Rf [46] (Ta [101, 69] (Lib.trimPrefix s [45])).1
  have h4 := Dh (Ta [101, 69] (Lib.trimPrefix s [45])).2.1 [45]
  have h5 := Dh (Lib.trimPrefix (Ta [101, 69] (Lib.trimPrefix s [45])).2.1 [45]) [43]
  unfold Ub
  simp only
  repeat' split
  all_goals (refine ⟨?_, ?_, ?_⟩ <;> simp only [Oe, List.length_nil] <;> omega)
def Wi (s : Str) : Int := if (Ub s).1.low then - Md (Lib.trimLeftB (Ub s).1.exp 48) else Md (Lib.trimLeftB (Ub s).1.exp 48)
theorem Ng (s : Str) : He s = if (Ub s).2 = false then (Num.zero, 2) else
  if 1000 < (Ub s).1.whole.length + (Ub s).1.rest.length then (Num.zero, 3) else
  if 9 < (Lib.trimLeftB (Ub s).1.exp 48).length then (Num.zero, 4) else
  if Lib.trimLeftB ((Ub s).1.whole ++ (Ub s).1.rest) 48 = [] then (Num.zero, 0) else
  if Sd (⟨(Ub s).1.neg, Lib.trimRightB (Lib.trimLeftB ((Ub s).1.whole ++ (Ub s).1.rest) 48) 48, Wi s - (Ub s).1.rest.length + (Lib.trimLeftB ((Ub s).1.whole ++ (Ub s).1.rest) 48).length - (Lib.trimRightB (Lib.trimLeftB ((Ub s).1.whole ++ (Ub s).1.rest) 48) 48).length⟩) = false then (Num.zero, 4) else
  (⟨(Ub s).1.neg, Lib.trimRightB (Lib.trimLeftB ((Ub s).1.whole ++ (Ub s).1.rest) 48) 48, Wi s - (Ub s).1.rest.length + (Lib.trimLeftB ((Ub s).1.whole ++ (Ub s).1.rest) 48).length - (Lib.trimRightB (Lib.trimLeftB ((Ub s).1.whole ++ (Ub s).1.rest) 48) 48).length⟩, 0) := rfl
theorem RD {s : Str} {q : Nat} (h : q < s.length) (ha : s.all Le = true) : (Utf8.decode (bs s) q).1 = s[q].toNat ∧ (Utf8.decode (bs s) q).2 = 1 ∧ 48 ≤ s[q].toNat ∧ s[q].toNat ≤ 57 := by
  have hd := List.all_eq_true.1 ha s[q] (List.getElem_mem h)
  have := Y4 s q h hd
  rw [this]
  unfold Le at hd
  simp only [Bool.and_eq_true, decide_eq_true_eq] at hd
  exact ⟨rfl, rfl, hd.1, hd.2⟩
theorem Ep {f : UInt8 → Bool} {s : Str} (q : Nat) (h : s.all f = true) : (s.take q).all f = true := by
  rw [List.all_eq_true] at h ⊢
  exact fun x hx => h x (List.mem_of_mem_take hx)
theorem VB (s : Str) (hl : s.length ≤ 140737488355328) (w0 : World) : Calls prog 46 #[.string (bs s)] w0 (Ce fun v w' => v = .tuple #[Ml (He s).1, .int .i64 (He s).2] ∧ Same [] w0 w') := by
 have hls := Q_ s
 have ht0 := Ws (Ub s).1.exp 48
 have ht1 := Ws ((Ub s).1.whole ++ (Ub s).1.rest) 48
 rw [List.length_append] at ht1
 have ht2 := B0 (Lib.trimLeftB ((Ub s).1.whole ++ (Ub s).1.rest) 48) 48
 refine Ma func46 rfl ntmps46 Qb (Rc _) ?_
 have hF := FR.start w0 []
 refine Ha ?_
 refine Af (cs := #[.bool false, .string (bs []), .int .i64 0]) hF zeroValue49 rfl ?_
 clear hF; rintro b1 w hb1 hF -
 refine Ca (Kb rfl) (Yb (Ca (Pc rfl) ?_))
 refine Va hF (BO s hl _) (Ua LS rfl rfl) ?_
 clear hF; intro w hF
 refine Ca (Qg rfl) (Ca (Yw rfl rfl) (Ca (Xs rfl rfl) ?_))
 refine Hh hF zeroValue99 sizeOf99 rfl ?_
 clear hF; rintro b2 w hb2 hF -
 refine Ca (Cc rfl) (Yb (Ca (Fc Dy rfl) (Uc (Ko isAgg9 rfl hF.F 0 rfl rfl) ?_)))
 refine Va hF (Fx (Ub s).1.exp _) (Pa GN rfl rfl rfl) ?_
 clear hF; intro w hF
 refine Ca (Ld rfl) (Da (Ia (Db (Ha (Ca (Jc rfl) (Ca (Dm rfl) (Ca (Cc rfl) (Da ?_))))))))
 refine Vh rfl rfl (fun hc0 => ?_) (fun hc0 => ?_)
 refine Ha ?_
 refine Fa (w' := w) (v := .agg #[.bool false, .string (bs []), .int .i64 0]) Fb ?_
 refine Ij hF sizeOf49 rfl rfl Y1 ?_
 clear hF; rintro w hF -
 refine Ca (Kb rfl) (Da ?_)
 refine Pb (Ob (Qa (Ie rfl (l := [.bool false, .string (bs []), .int .i64 0]) rfl isAgg49 sizeOf49 rfl (hF.cellsAll 1 rfl) (v := .int .i64 2) rfl) ?_))
 exact ⟨by rw [Ng, if_pos (by simpa using hc0)]; rfl, hF.same⟩
 refine Ha (Ca (Fc Jv rfl) (Uc (Ko isAgg9 rfl hF.F 0 rfl rfl) (Ca (Hk underlying9 rfl) (Ca (Fc Rr rfl) (Uc (Ko isAgg9 rfl hF.F 0 rfl rfl) (Ca (Hk underlying9 rfl) (Ca (El rfl rfl) (Ca (Gn rfl rfl) (Ca (Cc rfl) (Da ?_))))))))))
 refine Bc rfl rfl (fun hc1 => ?_) (fun hc1 => ?_)
 refine Ha ?_
 refine Fa (w' := w) (v := .agg #[.bool false, .string (bs []), .int .i64 0]) Fb ?_
 refine Ij hF sizeOf49 rfl rfl Y1 ?_
 clear hF; rintro w hF -
 refine Ca (Kb rfl) (Da ?_)
 refine Pb (Ob (Qa (Ie rfl (l := [.bool false, .string (bs []), .int .i64 0]) rfl isAgg49 sizeOf49 rfl (hF.cellsAll 1 rfl) (v := .int .i64 3) rfl) ?_))
 exact ⟨by rw [Ng, if_neg (by simpa using hc0), if_pos by_Om]; rfl, hF.same⟩
 refine Ha (Ca (Pc rfl) (Ca (Hk underlying9 rfl) (Ca (Gn rfl rfl) (Ca (Cc rfl) (Da ?_)))))
 refine Bc rfl rfl (fun hc2 => ?_) (fun hc2 => ?_)
 refine Ha ?_
 refine Fa (w' := w) (v := .agg #[.bool false, .string (bs []), .int .i64 0]) Fb ?_
 refine Ij hF sizeOf49 rfl rfl Y1 ?_
 clear hF; rintro w hF -
 refine Ca (Kb rfl) (Da ?_)
 refine Pb (Ob (Qa (Ie rfl (l := [.bool false, .string (bs []), .int .i64 0]) rfl isAgg49 sizeOf49 rfl (hF.cellsAll 1 rfl) (v := .int .i64 4) rfl) ?_))
 exact ⟨by rw [Ng, if_neg (by simpa using hc0), if_neg by_Om, if_pos by_Om]; rfl, hF.same⟩
 refine Ra (Wb (Ja (Ha (Ca (Kb rfl) (Da (Ia (Ha (Ca (Pc rfl) ?_))))))))
 refine Nu (str := (Lib.trimLeftB (Ub s).1.exp 48)) hF underlying9 rfl ?_
 clear hF; rintro b3 w hb3 hF -
 refine Da (Db ?_)
 have hall : (Lib.trimLeftB (Ub s).1.exp 48).all Le = true := Ts (BE (by simp_all))
 refine Xc (fun μ σ w => ∃ (q : Nat), μ = (Lib.trimLeftB (Ub s).1.exp 48).length - q ∧ (q ≤ (Lib.trimLeftB (Ub s).1.exp 48).length) ∧ AllEq σ [(2, .pointer (some ⟨b1, 0, none⟩)), (4, .pointer (some ⟨b2, 0, none⟩)), (7, .int .i64 (Md ((Lib.trimLeftB (Ub s).1.exp 48).take q))), (41, .pointer (some ⟨b3, 0, none⟩))] ∧ FR w0 [] [(b3, .stringIter (bs ((Lib.trimLeftB (Ub s).1.exp 48))) (q)), (b2, .cells #[.bool ((Ub s).1.neg), .bool ((Ub s).1.low), .string (bs ((Ub s).1.whole)), .string (bs ((Ub s).1.rest)), .string (bs ((Ub s).1.exp))] 99), (b1, .cells #[.bool false, .string (bs []), .int .i64 0] 49)] w) _ ⟨0, rfl, (Nat.zero_le _), An, hF⟩ ?_
 clear hF; rintro μ σ w ⟨q, rfl, hq, hs, hF⟩
 refine Cg.slots hs ?_
 clear hs; intro σ
 refine Ha ?_
 by_cases hn0 : (q) < ((Lib.trimLeftB (Ub s).1.exp 48) : Str).length
 refine Ay 0 (p := q) (str := (Lib.trimLeftB (Ub s).1.exp 48)) hF rfl rfl hn0 ?_
 clear hF; rintro w hF -
 replace hF : FR w0 [] [(b3, .stringIter (bs ((Lib.trimLeftB (Ub s).1.exp 48))) (q + (Utf8.decode (bs ((Lib.trimLeftB (Ub s).1.exp 48))) (q)).2)), _, _] w := hF
 refine Ca (Xs rfl rfl) (Da (Ia (Qd rfl (Ra (Ja (Db (Ha (Ca (Re rfl rfl) (Ca (Kb rfl) (Da ?_))))))))))
 refine Ga (Ca (Za rfl) ?_)
 have hv := RD (s := (Lib.trimLeftB (Ub s).1.exp 48)) (q := q) by_Om hall
 have hb := Tr ((Lib.trimLeftB (Ub s).1.exp 48).take q) (Ep q hall) (by rw [List.length_take]; omega)
 refine Fa (v := .int .i64 (10 * Md ((Lib.trimLeftB (Ub s).1.exp 48).take q))) (Im rfl rfl (Me by_Om by_Om by_Om)) (Ca (Za rfl) ?_)
 refine Fa (v := .int .i32 (((Utf8.decode (bs (Lib.trimLeftB (Ub s).1.exp 48)) q).1 : Int) - 48)) (Wu rfl rfl (by rw [IntKind.wrap_i32]; omega)) ?_
 refine Fa (v := .int .i64 (((Utf8.decode (bs (Lib.trimLeftB (Ub s).1.exp 48)) q).1 : Int) - 48)) (Td underlying21 underlying3 rfl (Lh by_Om by_Om)) ?_
 refine Fa (v := .int .i64 (Md ((Lib.trimLeftB (Ub s).1.exp 48).take (q + 1)))) (Tq rfl rfl (by rw [Bm _ q by_Om, hv.1]; exact Lh by_Om by_Om)) ?_
 refine Ca (Kb rfl) (Cb (Wb ?_))
 rw [hv.2.1] at hF
 refine Gb ⟨_, ?_, q + 1, rfl, by_Om, An, hF⟩
 omega
 refine Aq 0 (p := q) (str := (Lib.trimLeftB (Ub s).1.exp 48)) hF rfl rfl hn0 ?_
 refine Ca (Xs rfl rfl) (Da (Ia (Xe rfl ?_)))
 refine Oc (Nc rfl ?_)
 refine Ja ?_
 have eT : (Lib.trimLeftB (Ub s).1.exp 48).take q = (Lib.trimLeftB (Ub s).1.exp 48) := List.take_of_length_le by_Om
 have hb := Tr (Lib.trimLeftB (Ub s).1.exp 48) hall by_Om
 have hE : -1000000000 < Wi s ∧ Wi s < 1000000000 := by unfold Wi; split <;> omega
 refine Ia ?_
 refine Hf (fun σ w => AllEq σ [(2, .pointer (some ⟨b1, 0, none⟩)), (4, .pointer (some ⟨b2, 0, none⟩)), (7, .int .i64 (Wi s))] ∧ FR w0 [] [(b3, .stringIter (bs ((Lib.trimLeftB (Ub s).1.exp 48))) (q)), (b2, .cells #[.bool ((Ub s).1.neg), .bool ((Ub s).1.low), .string (bs ((Ub s).1.whole)), .string (bs ((Ub s).1.rest)), .string (bs ((Ub s).1.exp))] 99), (b1, .cells #[.bool false, .string (bs []), .int .i64 0] 49)] w) ?_ ?_
 refine Ha (Ca (Fc R3 rfl) (Uc (NO isAgg4 rfl hF.F 1 rfl rfl) (Da ?_)))
 refine Vh rfl rfl (fun hc4 => ?_) (fun hc4 => ?_)
 have eE : Wi s = - Md (Lib.trimLeftB (Ub s).1.exp 48) := by unfold Wi; rw [if_pos (by assumption)]
 refine Ga (Ca (Za rfl) ?_)
 refine Fa (v := .int .i64 (Wi s)) (Nx rfl (by rw [eT, eE]; exact Me by_Om by_Om by_Om)) ?_
 refine Ca (Kb rfl) (Cb ?_)
 exact Gb ⟨St, hF⟩
 have eE : Wi s = Md (Lib.trimLeftB (Ub s).1.exp 48) := by unfold Wi; rw [if_neg (by simp_all)]
 rw [eT, ← eE]
 refine Ra ?_
 exact Gb ⟨St, hF⟩
 clear hF; rintro σ w ⟨hs, hF⟩
 refine Eg.slots hs ?_
 clear hs; intro σ
 refine Ja (Ha (Ca (Fc Jv rfl) (Uc (Ko isAgg9 rfl hF.F 1 rfl rfl) (Ca (Fc Rr rfl) (Uc (Ko isAgg9 rfl hF.F 1 rfl rfl) (Fa (v := .string (bs (((Ub s).1.whole) ++ ((Ub s).1.rest)))) (Tg rfl rfl by_Om) ?_))))))
 refine Va hF (Fx ((Ub s).1.whole ++ (Ub s).1.rest) _) (Pa GN rfl rfl rfl) ?_
 clear hF; intro w hF
 refine Ca (Ld rfl) (Da (Ia (Ha (Ca (Pc rfl) (Ca (Mv rfl rfl) (Da ?_))))))
 refine Bc rfl rfl (fun hc5 => ?_) (fun hc5 => ?_)
 refine Ha ?_
 refine Fa (w' := w) (v := .agg #[.bool false, .string (bs []), .int .i64 0]) Fb ?_
 refine Ij hF sizeOf49 rfl rfl UM ?_
 clear hF; rintro w hF -
 refine Ca (Kb rfl) (Da ?_)
 refine Pb (Ob (Qa (Ie rfl (l := [.bool false, .string (bs []), .int .i64 0]) rfl isAgg49 sizeOf49 rfl (hF.cellsAll 2 rfl) (v := .int .i64 0) rfl) ?_))
 exact ⟨by rw [Ng, if_neg (by simpa using hc0), if_neg by_Om, if_neg by_Om, if_pos hc5]; rfl, hF.same⟩
 refine Ra (Ja (Ha (Ca (Pc rfl) ?_)))
 refine Va hF (C5 (Lib.trimLeftB ((Ub s).1.whole ++ (Ub s).1.rest) 48) _ by_Om) (Pa ZQ rfl rfl rfl) ?_
 clear hF; intro w hF
 refine Ca (Ld rfl) (Yb (Ca (Fc NC rfl) (Uc (NO isAgg4 rfl hF.F 1 rfl rfl) (Ca (Pc rfl) (Ca (Za rfl) (Ca (Fc Rr rfl) (Uc (Ko isAgg9 rfl hF.F 1 rfl rfl) (Ca (Hk underlying9 rfl) (Ca (Jn rfl rfl) (Ca (Pc rfl) ?_))))))))))
 refine Ca (Hk underlying9 rfl) (Ca (El rfl rfl) (Ca (Pc rfl) (Ca (Hk underlying9 rfl) (Ca (Jn rfl rfl) ?_))))
 refine Fa (w' := w) (v := .agg #[.bool ((Ub s).1.neg), .string (bs ((Lib.trimRightB (Lib.trimLeftB ((Ub s).1.whole ++ (Ub s).1.rest) 48) 48))), .int .i64 ((((Wi s : Int) - ((((Ub s).1.rest) : Str).length : Int) : Int) + ((((Lib.trimLeftB ((Ub s).1.whole ++ (Ub s).1.rest) 48)) : Str).length : Int) : Int) - ((((Lib.trimRightB (Lib.trimLeftB ((Ub s).1.whole ++ (Ub s).1.rest) 48) 48)) : Str).length : Int))]) Fb ?_
 refine Hh hF zeroValue49 sizeOf49 rfl ?_
 clear hF; rintro b4 w hb4 hF -
 refine Da (Ia (Ha (Uc (Bi isAgg49 sizeOf49 rfl hF.F 0 rfl rfl) ?_)))
 refine Va hF (W2 (⟨(Ub s).1.neg, (Lib.trimRightB (Lib.trimLeftB ((Ub s).1.whole ++ (Ub s).1.rest) 48) 48), Wi s - (Ub s).1.rest.length + (Lib.trimLeftB ((Ub s).1.whole ++ (Ub s).1.rest) 48).length - (Lib.trimRightB (Lib.trimLeftB ((Ub s).1.whole ++ (Ub s).1.rest) 48) 48).length⟩) (by show (Lib.trimRightB (Lib.trimLeftB ((Ub s).1.whole ++ (Ub s).1.rest) 48) 48).length ≤ _; omega) _) (Ua HI rfl rfl) ?_
 clear hF; intro w hF
 refine Ca (Dm rfl) (Da ?_)
 refine Vh rfl rfl (fun hc6 => ?_) (fun hc6 => ?_)
 refine Ha ?_
 refine Fa (w' := w) (v := .agg #[.bool false, .string (bs []), .int .i64 0]) Fb ?_
 refine Ij hF sizeOf49 rfl rfl NQ ?_
 clear hF; rintro w hF -
 refine Ca (Kb rfl) (Da ?_)
 refine Pb (Ob (Qa (Ie rfl (l := [.bool false, .string (bs []), .int .i64 0]) rfl isAgg49 sizeOf49 rfl (hF.cellsAll 3 rfl) (v := .int .i64 4) rfl) ?_))
 exact ⟨by rw [Ng, if_neg (by simpa using hc0), if_neg by_Om, if_neg by_Om, if_neg hc5, if_pos (by simpa using hc6)]; rfl, hF.same⟩
 refine Ra (Ja (Ha (Uc (Bi isAgg49 sizeOf49 rfl hF.F 0 rfl rfl) ?_)))
 refine Ij hF sizeOf49 rfl rfl NQ ?_
 clear hF; rintro w hF -
 refine Ca (Kb rfl) (Da ?_)
 refine Pb (Ob (Qa (Ie rfl (l := [.bool ((Ub s).1.neg), .string (bs ((Lib.trimRightB (Lib.trimLeftB ((Ub s).1.whole ++ (Ub s).1.rest) 48) 48))), .int .i64 ((((Wi s : Int) - ((((Ub s).1.rest) : Str).length : Int) : Int) + ((((Lib.trimLeftB ((Ub s).1.whole ++ (Ub s).1.rest) 48)) : Str).length : Int) : Int) - ((((Lib.trimRightB (Lib.trimLeftB ((Ub s).1.whole ++ (Ub s).1.rest) 48) 48)) : Str).length : Int))]) rfl isAgg49 sizeOf49 rfl (hF.cellsAll 3 rfl) (v := .int .i64 0) rfl) ?_))
 exact ⟨by rw [Ng, if_neg (by simpa using hc0), if_neg by_Om, if_neg by_Om, if_neg hc5, if_neg (by simpa using hc6)]; rfl, hF.same⟩
end Go.Scarf
namespace Go.Scarf
open Go.RowKit Go.Proofs Go.Proofs.Tryz
def PN (n : Int) : Num := (He (Lib.itoa n)).1
def pI (s : Str) : Int × Bool := match Lib.parseIntB 64 s with | .ok v => (v, true) | .range => (Lib.intSat 64 s, false) | _ => (0, false)
def Gu (x : Num) : Int × Bool :=
  if Sd x = false ∨ x.exp < 0 ∨ 19 < (x.digits.length : Int) + x.exp then (0, false) else
  let t := x.digits ++ Lib.repeatL [48] x.exp.toNat
  let u := if x.neg then 45 :: t else t
  if u = [] then (0, true) else if (pI u).2 = false then (0, false) else ((pI u).1, true)
def S2 (e : Value) (b : Bool) : Prop := if b then ∃ tp q, e = .iface tp q else e = .nilIface
theorem ND {P : Program} {ρ : Operand → Value} {w : World} {dst : Option Nat} {ty : TypeId} {pos : String} {aft : Array Edge} {g : Option (Nat × Bool)} {t t' : TypeId} {x : Operand} {e : Value} {b : Bool} (ht : P.underlying t = some (.interface (P.methodsAt t))) (he : S2 e b) (hx : ρ x = e) (hy : ρ (.const .nilIface) = .nilIface) :
    (execOp ρ ⟨dst, .binOp .neq t x (.const .nilIface) t', ty, pos, aft, g⟩).run P w = .ok (.value (.bool b)) w := by
  unfold S2 at he
  cases b
  · simp only [Bool.false_eq_true, if_false] at he; subst he; exact SE ht hx hy
  · simp only [if_true] at he; obtain ⟨tp, q, rfl⟩ := he; exact Q5 ht hx hy
theorem Wx (w : World) (e : TypeId) (s : ByteArray) : Same [] w (Lib.bytesWorld w e s) :=
  .of_below (Joins.below_bytesWorld _ w e s (Nat.le_refl _))
theorem JA (s : Str) (hl : s.length ≤ 140737488355328) {w : World} (hG : Gl w) : Calls prog 102 #[.string (bs s), .int .i64 10, .int .i64 64] w (Ce fun v w' => ∃ e, v = .tuple #[.int .i64 (pI s).1, e] ∧ S2 e (!(pI s).2) ∧ Same [] w w') := by
  cases h : Lib.parseIntB 64 s with
  | ok n =>
    refine (strconv_ParseInt_10_at64_ok (bs s) (by rw [Pm]; omega) n h w).mono ?_
    rintro e w' ⟨rfl, hw⟩
    refine ⟨_, rfl, .nilIface, by simp [pI, h], by simp [pI, h, S2], ?_⟩
    rcases hw with rfl | ⟨t, rfl⟩
    · exact Same.refl _ _
    · exact Wx w 5 t
  | range =>
    obtain ⟨tp, q, hv⟩ := hG.err
    refine (strconv_ParseInt_10_at64_range_var (bs s) (by rw [Pm]; omega) h tp q w hv).mono ?_
    rintro e w' ⟨N, rfl, -, -, hb⟩
    exact ⟨_, rfl, .iface 204 (.pointer (some ⟨N, 0, none⟩)), by simp only [pI, h], by simp [pI, h, S2], .of_below hb⟩
  | _ =>
    obtain ⟨tp, q, hv⟩ := hG.serr
    refine (Any.strconv_ParseInt_10_at64_syntax_var laysC174 (bs s) (by rw [Pm]; omega) h tp q w hv).mono ?_
    rintro e w' ⟨N, rfl, -, -, hb⟩
    exact ⟨_, rfl, .iface 204 (.pointer (some ⟨N, 0, none⟩)), (by simp [pI, h]; rfl), by simp [pI, h, S2], .of_below hb⟩
theorem U1 (c : Int) (h0 : 0 ≤ c) (h1 : c ≤ 19) (w : World) : Calls prog 101 #[.string (bs [48]), .int .i64 c] w (Ce fun v w' => v = .string (bs (Lib.repeatL [48] c.toNat)) ∧ Same [] w w') := by
  have h := strings_Repeat (bs [48]) c.toNat w by_Om (by rw [Pm]; simp; omega)
  rw [Int.toNat_of_nonneg h0] at h
  exact Zr h
theorem take_zero {l : List Int} {j : Nat} (h : j < l.length) (hz : ∀ x ∈ l.take j, x = 0) (hn : l[j] = 0) : ∀ x ∈ l.take (j + 1), x = 0 := by
  rw [List.take_succ_eq_append_getElem h]
  intro c hc
  rcases List.mem_append.1 hc with hc | hc
  · exact hz c hc
  · simp only [List.mem_singleton] at hc; rw [hc]; exact hn
theorem HK (n : Int) (h1 : -9223372036854775808 ≤ n) (h2 : n ≤ 9223372036854775807) (w0 : World) (hG : Gl w0) : Calls prog 21 #[.int .i64 n] w0 (Ce fun v w' => v = Ml (PN n) ∧ Same [] w0 w') := by
 refine Ma func21 rfl ntmps21 Qb (Rc _) ?_
 have hF := FR.start w0 []
 refine Ha ?_
 refine Af (cs := #[.bool false, .string (bs []), .int .i64 0]) hF zeroValue49 rfl ?_
 clear hF; rintro b1 w hb1 hF -
 refine Yb (Ca (Za rfl) ?_)
 refine Va hF (M9 n h1 h2 (hG.ext hF.same)) (Ua TH rfl rfl) ?_
 clear hF; intro w hF
 refine Va hF (VB (Lib.itoa n) (by have := Lib.itoa_length_le n h1 h2; omega) _) (Ua ON rfl rfl) ?_
 clear hF; intro w hF
 refine Ca (Qg rfl) (Ca (Yw rfl rfl) (Ca (Re rfl rfl) ?_))
 refine Hh hF zeroValue49 sizeOf49 rfl ?_
 clear hF; rintro b2 w hb2 hF -
 refine Ca (Kb rfl) (Yb (Uc (Bi isAgg49 sizeOf49 rfl hF.F 0 rfl rfl) ?_))
 refine Ij hF sizeOf49 rfl rfl Y1 ?_
 clear hF; rintro w hF -
 refine Da ?_
 refine Pb (Ob (Qa (Qk rfl (l := [.bool ((PN n).neg), .string (bs ((PN n).digits)), .int .i64 ((PN n).exp)]) rfl isAgg49 sizeOf49 rfl (hF.cellsAll 1 rfl)) ?_))
 exact ⟨rfl, hF.same⟩
def Dr (x : Num) : Str := if x.neg then 45 :: (x.digits ++ Lib.repeatL [48] x.exp.toNat) else x.digits ++ Lib.repeatL [48] x.exp.toNat
theorem Ui (x : Num) : Gu x = if Sd x = false ∨ x.exp < 0 ∨ 19 < (x.digits.length : Int) + x.exp then (0, false) else if Dr x = [] then (0, true) else if (pI (Dr x)).2 = false then (0, false) else ((pI (Dr x)).1, true) := rfl
theorem Em (c : UInt8) (n : Nat) : (Lib.repeatL [c] n).length = n := by
  induction n with
  | zero => rfl
  | succ n ih => unfold Lib.repeatL; simp [ih]; try omega
theorem WF (x : Num) (hl : x.digits.length ≤ 140737488355328) (w0 : World) (hG : Gl w0) : Calls prog 77 #[Ml x] w0 (Ce fun v w' => v = .tuple #[.int .i64 (Gu x).1, .bool (Gu x).2] ∧ Same [] w0 w') := by
  refine Ma func77 rfl ntmps77 Qb (Rc _) ?_
  have hF := FR.start w0 []
  refine Ia ?_
  refine Ga ?_
  refine Bh hF rfl ?_
  clear hF; intro b1 w hb1 hF hE
  clear hE
  refine Ca (Kb rfl) ?_
  refine Ca (Cc rfl) ?_
  refine Cb ?_
  refine Ja ?_
  refine Ia ?_
  refine Ia ?_
  refine Ga ?_
  refine Uc (Bi isAgg49 sizeOf49 rfl hF.F 0 rfl rfl) ?_
  refine Va hF (W2 x hl _) (Ua HI rfl rfl) ?_
  clear hF; intro w hF
  refine Ca (Dm rfl) ?_
  refine Ca (Jc rfl) ?_
  refine Qe (d := 10) rfl (fun hg0 => ?_) (fun hg0 => ?_)
  ·
    refine Ea ?_
    refine Ea ?_
    refine Ea ?_
    refine Ca (Lc rfl rfl) ?_
    refine Ca (Jc rfl) ?_
    refine Ea ?_
    refine Ea ?_
    refine Ea ?_
    refine Ea ?_
    refine Ea ?_
    refine Ea ?_
    refine Ea ?_
    refine Ca (Lc rfl rfl) ?_
    refine Cb ?_
    refine Ja ?_
    refine Qd rfl ?_
    refine Ia ?_
    refine Ga ?_
    refine Ca (Kb rfl) ?_
    refine Ca (Cc rfl) ?_
    refine Cb ?_
    refine Ja ?_
    refine Pb (Ob (Qa (Nd (v := .int .i64 0) (x := .bool false) rfl rfl rfl) ?_))
    refine ⟨?_, hF.same⟩
    first
    | (have hn : ¬ (Sd x = false ∨ x.exp < 0 ∨ 19 < (x.digits.length : Int) + x.exp) := by (refine not_or.2 ⟨by simp_all, not_or.2 ⟨by omega, by omega⟩⟩)
       rw [Ui, if_neg hn]
       simp_all; done)
    | (rw [Ui]; simp_all; done)
  ·
    refine Ca (Fc Ih rfl) ?_
    refine Uc (Nm isAgg3 rfl hF.F 0 rfl rfl) ?_
    refine Ca (Fj rfl rfl) ?_
    refine Ca (Dc rfl rfl) ?_
    refine Ca (Jc rfl) ?_
    refine Mb (d := 15) rfl (fun hg1 => ?_) (fun hg1 => ?_)
    ·
      refine Ea ?_
      refine Ea ?_
      refine Ea ?_
      refine Ea ?_
      refine Ea ?_
      refine Ea ?_
      refine Ea ?_
      refine Ca (Lc rfl rfl) ?_
      refine Cb ?_
      refine Ja ?_
      refine Qd rfl ?_
      refine Ia ?_
      refine Ga ?_
      refine Ca (Kb rfl) ?_
      refine Ca (Cc rfl) ?_
      refine Cb ?_
      refine Ja ?_
      refine Pb (Ob (Qa (Nd (v := .int .i64 0) (x := .bool false) rfl rfl rfl) ?_))
      refine ⟨?_, hF.same⟩
      first
      | (have hn : ¬ (Sd x = false ∨ x.exp < 0 ∨ 19 < (x.digits.length : Int) + x.exp) := by (refine not_or.2 ⟨by simp_all, not_or.2 ⟨by omega, by omega⟩⟩)
         rw [Ui, if_neg hn]
         simp_all; done)
      | (rw [Ui]; simp_all; done)
    ·
      refine Ca (Fc Dj rfl) ?_
      refine Uc (Ko isAgg9 rfl hF.F 0 rfl rfl) ?_
      refine Ca (Hk underlying9 rfl) ?_
      refine Ca (Fc Ih rfl) ?_
      refine Uc (Nm isAgg3 rfl hF.F 0 rfl rfl) ?_
      refine Fa (v := .int .i64 ((x.digits.length : Int) + x.exp)) (Tq rfl rfl (Lh (by have := Id (x := x) (by simp_all); omega) (by have := Id (x := x) (by simp_all); omega))) ?_
      refine Ca (Gn rfl rfl) ?_
      refine Ca (Dc rfl rfl) ?_
      refine Cb ?_
      refine Ja ?_
      refine Bc rfl rfl (fun hc0 => ?_) (fun hc0 => ?_)
      ·
        refine Ia ?_
        refine Ga ?_
        refine Ca (Kb rfl) ?_
        refine Ca (Cc rfl) ?_
        refine Cb ?_
        refine Ja ?_
        refine Pb (Ob (Qa (Nd (v := .int .i64 0) (x := .bool false) rfl rfl rfl) ?_))
        refine ⟨?_, hF.same⟩
        first
        | (have hn : ¬ (Sd x = false ∨ x.exp < 0 ∨ 19 < (x.digits.length : Int) + x.exp) := by (refine not_or.2 ⟨by simp_all, not_or.2 ⟨by omega, by omega⟩⟩)
           rw [Ui, if_neg hn]
           simp_all; done)
        | (rw [Ui]; simp_all; done)
      ·
        refine Ra ?_
        refine Ja ?_
        refine Ia ?_
        refine Ag (zs := []) (.free 0 (.free 1 (.free 2 (.free 3 (.act 4 (.free 5 (.free 6 .nil))))))) hF ?_
        clear hF; intro w hF
        refine Eb rfl (Fc Dj rfl) ?_
        refine Bk rfl (Ko isAgg9 rfl C0 0 rfl rfl) ?_
        refine Eb rfl (Fc Ih rfl) ?_
        refine Bk rfl (Nm isAgg3 rfl C0 0 rfl rfl) ?_
        refine Wa hF (U1 x.exp by_Om by_Om _) rfl (Pa M_ rfl rfl rfl) ?_
        clear hF; intro w hF
        refine ⟨hF, ?_⟩
        refine Ib rfl (v := .string (bs ((x.digits) ++ (Lib.repeatL [48] x.exp.toNat)))) (fun w hC => Tg rfl rfl (by have := Em 48 x.exp.toNat; have := Id (x := x) (by simp_all); first | omega | (simp only [List.length_append, List.length_cons, List.length_nil]; omega))) ?_
        refine Eb rfl (Ld rfl) ?_
        refine Ic ?_
        refine Ja ?_
        refine Ia ?_
        refine Hf (fun σ w => AllEq σ [(4, .string (bs (Dr x)))] ∧ FR w0 [] [(b1, .cells #[.bool (x.neg), .string (bs (x.digits)), .int .i64 (x.exp)] 49)] w) ?_ ?_
        ·
          refine Ia ?_
          refine Ga ?_
          refine Ca (Fc Ly rfl) ?_
          refine Uc (NO isAgg4 rfl hF.F 0 rfl rfl) ?_
          refine Cb ?_
          refine Ja ?_
          refine Vh rfl rfl (fun hc1 => ?_) (fun hc1 => ?_)
          ·
            have eT : [45] ++ (x.digits ++ Lib.repeatL [48] x.exp.toNat) = Dr x := by unfold Dr; rw [if_pos (by assumption)]; rfl
            refine Ga ?_
            refine Ca (Pc rfl) ?_
            refine Fa (v := .string (bs (Dr x))) (by rw [← eT]; exact Tg rfl rfl (by have := Em 48 x.exp.toNat; have := Id (x := x) (by simp_all); first | omega | (simp only [List.length_append, List.length_cons, List.length_nil]; omega))) ?_
            refine Ca (Ld rfl) ?_
            refine Cb ?_
            exact Gb ⟨GM, hF⟩
          ·
            have eT : x.digits ++ Lib.repeatL [48] x.exp.toNat = Dr x := by unfold Dr; rw [if_neg (by simp_all)]
            rw [eT]
            refine Ra ?_
            exact Gb ⟨GM, hF⟩
        clear hF; rintro σ w ⟨hs, hF⟩
        refine Eg.slots hs ?_
        clear hs; intro σ
        have hT : (Dr x).length ≤ 1020 := by have := Em 48 x.exp.toNat; have := Id (x := x) (by simp_all); unfold Dr; split <;> simp only [List.length_append, List.length_cons] <;> omega
        refine Ja ?_
        refine Ia ?_
        refine Ia ?_
        refine Ga ?_
        refine Ca (Pc rfl) ?_
        refine Ca (Mv rfl rfl) ?_
        refine Cb ?_
        refine Ja ?_
        refine Bc rfl rfl (fun hc2 => ?_) (fun hc2 => ?_)
        ·
          refine Ia ?_
          refine Ga ?_
          refine Ca (Kb rfl) ?_
          refine Ca (Cc rfl) ?_
          refine Cb ?_
          refine Ja ?_
          refine Pb (Ob (Qa (Nd (v := .int .i64 0) (x := .bool true) rfl rfl rfl) ?_))
          refine ⟨?_, hF.same⟩
          first
          | (have hn : ¬ (Sd x = false ∨ x.exp < 0 ∨ 19 < (x.digits.length : Int) + x.exp) := by (refine not_or.2 ⟨by simp_all, not_or.2 ⟨by omega, by omega⟩⟩)
             rw [Ui, if_neg hn]
             simp_all; done)
          | (rw [Ui]; simp_all; done)
        ·
          refine Ra ?_
          refine Ja ?_
          refine Ia ?_
          refine Ga ?_
          refine Ca (Pc rfl) ?_
          refine Zb (JA (Dr x) by_Om (hG.ext hF.same)) (Ff UP rfl rfl rfl rfl) ?_
          rintro _ w ⟨e, rfl, he, hE⟩
          replace hF := hF.ext hE
          clear hE
          refine Ca (Qg rfl) ?_
          refine Ca (Re rfl rfl) ?_
          refine Ca (CU rfl rfl) ?_
          refine Ca (Kb rfl) ?_
          refine Ca (V2) ?_
          refine Cb ?_
          refine Ja ?_
          refine Ia ?_
          refine Ia ?_
          refine Ga ?_
          refine Ca (EC) ?_
          refine Fa (v := .bool (!(pI (Dr x)).2)) (ND (underlying139) he rfl rfl) ?_
          refine Cb ?_
          refine Ja ?_
          refine Vh rfl rfl (fun hc3 => ?_) (fun hc3 => ?_)
          ·
            refine Ia ?_
            refine Ga ?_
            refine Ca (Kb rfl) ?_
            refine Ca (Cc rfl) ?_
            refine Cb ?_
            refine Ja ?_
            refine Pb (Ob (Qa (Nd (v := .int .i64 0) (x := .bool false) rfl rfl rfl) ?_))
            refine ⟨?_, hF.same⟩
            first
            | (have hn : ¬ (Sd x = false ∨ x.exp < 0 ∨ 19 < (x.digits.length : Int) + x.exp) := by (refine not_or.2 ⟨by simp_all, not_or.2 ⟨by omega, by omega⟩⟩)
               rw [Ui, if_neg hn]
               simp_all; done)
            | (rw [Ui]; simp_all; done)
          ·
            refine Ra ?_
            refine Ja ?_
            refine Ia ?_
            refine Ga ?_
            refine Ca (Za rfl) ?_
            refine Ca (Kb rfl) ?_
            refine Ca (Cc rfl) ?_
            refine Cb ?_
            refine Ja ?_
            refine Pb (Ob (Qa (Nd (v := .int .i64 ((pI (Dr x)).1)) (x := .bool true) rfl rfl rfl) ?_))
            refine ⟨?_, hF.same⟩
            first
            | (have hn : ¬ (Sd x = false ∨ x.exp < 0 ∨ 19 < (x.digits.length : Int) + x.exp) := by (refine not_or.2 ⟨by simp_all, not_or.2 ⟨by omega, by omega⟩⟩)
               rw [Ui, if_neg hn]
               simp_all; done)
            | (rw [Ui]; simp_all; done)
end Go.Scarf
