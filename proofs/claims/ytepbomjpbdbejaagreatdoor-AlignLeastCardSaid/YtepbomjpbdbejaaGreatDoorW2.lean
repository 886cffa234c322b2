/- A part of the proof. -/
import Derived.Test.YtepbomjpbdbejaaGreatDoorW1
import Derived.Test.YtepbomjpbdbejaaGreatDoorMore
import Derived.Lib.SmallJoins
set_option linter.all false
set_option maxHeartbeats 8000000
set_option maxRecDepth 10000
namespace Go.Scarf
open Go.RowKit Go.Proofs Go.Proofs.Tryz
theorem Q_ (s : Str) : (Rb s).1.whole.length ≤ s.length ∧ (Rb s).1.rest.length ≤ s.length ∧ (Rb s).1.exp.length ≤ s.length := by
  have h1 := Tf [101, 69] (Lib.trimPrefix s [45])
  have h2 := Rf s [45]
  have h3 := Tf [46] (Pa [101, 69] (Lib.trimPrefix s [45])).1
  have h4 := Rf (Pa [101, 69] (Lib.trimPrefix s [45])).2.1 [45]
  have h5 := Rf (Lib.trimPrefix (Pa [101, 69] (Lib.trimPrefix s [45])).2.1 [45]) [43]
  unfold Rb
  simp only
  repeat' split
  all_goals (refine ⟨?_, ?_, ?_⟩ <;> simp only [Ge, List.length_nil] <;> omega)
def Du (s : Str) : Int := if (Rb s).1.low then - Kg (Lib.trimLeftB (Rb s).1.exp 48) else Kg (Lib.trimLeftB (Rb s).1.exp 48)
theorem Fl (s : Str) : Sf s = if (Rb s).2 = false then (Num.zero, 2) else
  if 1000 < (Rb s).1.whole.length + (Rb s).1.rest.length then (Num.zero, 3) else
  if 9 < (Lib.trimLeftB (Rb s).1.exp 48).length then (Num.zero, 4) else
  if Lib.trimLeftB ((Rb s).1.whole ++ (Rb s).1.rest) 48 = [] then (Num.zero, 0) else
  if Pe (⟨(Rb s).1.neg, Lib.trimRightB (Lib.trimLeftB ((Rb s).1.whole ++ (Rb s).1.rest) 48) 48, Du s - (Rb s).1.rest.length + (Lib.trimLeftB ((Rb s).1.whole ++ (Rb s).1.rest) 48).length - (Lib.trimRightB (Lib.trimLeftB ((Rb s).1.whole ++ (Rb s).1.rest) 48) 48).length⟩) = false then (Num.zero, 4) else
  (⟨(Rb s).1.neg, Lib.trimRightB (Lib.trimLeftB ((Rb s).1.whole ++ (Rb s).1.rest) 48) 48, Du s - (Rb s).1.rest.length + (Lib.trimLeftB ((Rb s).1.whole ++ (Rb s).1.rest) 48).length - (Lib.trimRightB (Lib.trimLeftB ((Rb s).1.whole ++ (Rb s).1.rest) 48) 48).length⟩, 0) := rfl
theorem TG {s : Str} {q : Nat} (h : q < s.length) (ha : s.all Nh = true) : (Utf8.decode (bs s) q).1 = s[q].toNat ∧ (Utf8.decode (bs s) q).2 = 1 ∧ 48 ≤ s[q].toNat ∧ s[q].toNat ≤ 57 := by
  have hd := List.all_eq_true.1 ha s[q] (List.getElem_mem h)
  have := Z5 s q h hd
  rw [this]
  unfold Nh at hd
  simp only [Bool.and_eq_true, decide_eq_true_eq] at hd
  exact ⟨rfl, rfl, hd.1, hd.2⟩
theorem OK {f : UInt8 → Bool} {s : Str} (q : Nat) (h : s.all f = true) : (s.take q).all f = true := by
  rw [List.all_eq_true] at h ⊢
  exact fun x hx => h x (List.mem_of_mem_take hx)
theorem FC (s : Str) (hl : s.length ≤ 140737488355328) (w0 : World) : Calls prog 59 #[.string (bs s)] w0 (Rd fun v w' => v = .tuple #[Bp (Sf s).1, .int .i64 (Sf s).2] ∧ Same [] w0 w') := by
 have hls := Q_ s
 have ht0 := Sr (Rb s).1.exp 48
 have ht1 := Sr ((Rb s).1.whole ++ (Rb s).1.rest) 48
 rw [List.length_append] at ht1
 have ht2 := Iy (Lib.trimLeftB ((Rb s).1.whole ++ (Rb s).1.rest) 48) 48
 refine Ma func59 rfl ntmps59 Jb (Ed _) ?_
 have hF := FR.start w0 []
 refine Ka ?_
 refine Ig (cs := #[.bool false, .string (bs []), .int .i64 0]) hF zeroValue71 rfl ?_
 clear hF; rintro b1 w hb1 hF -
 refine Ca (Gc rfl) (Cc (Ca (Lf rfl) ?_))
 refine Pb hF (FQ s hl _) (Eb GT rfl rfl) ?_
 clear hF; intro w hF
 refine Ca (Xm rfl) (Ca (XA rfl rfl) (Ca (Ar rfl rfl) ?_))
 refine Bj hF zeroValue114 sizeOf114 rfl ?_
 clear hF; rintro b2 w hb2 hF -
 refine Ca (Ec rfl) (Cc (Ca (Kc Jt rfl) (Qd (Jx isAgg9 rfl hF.F 0 rfl rfl) ?_)))
 refine Pb hF (Dx (Rb s).1.exp _) (Qb LO rfl rfl rfl) ?_
 clear hF; intro w hF
 refine Ca (Qj rfl) (Ea (Ia (Va (Ka (Ca (Fd rfl) (Ca (Oo rfl) (Ca (Ec rfl) (Ea ?_))))))))
 refine Pj rfl rfl (fun hc0 => ?_) (fun hc0 => ?_)
 refine Ka ?_
 refine Ja (w' := w) (v := .agg #[.bool false, .string (bs []), .int .i64 0]) Ib ?_
 refine An hF sizeOf71 rfl rfl Y6 ?_
 clear hF; rintro w hF -
 refine Ca (Gc rfl) (Ea ?_)
 refine Fc (Bc (Za (Le rfl (l := [.bool false, .string (bs []), .int .i64 0]) rfl isAgg71 sizeOf71 rfl (hF.cellsAll 1 rfl) (v := .int .i64 2) rfl) ?_))
 exact ⟨by rw [Fl, if_pos (by simpa using hc0)]; rfl, hF.same⟩
 refine Ka (Ca (Kc Qp rfl) (Qd (Jx isAgg9 rfl hF.F 0 rfl rfl) (Ca (H9 underlying9 rfl) (Ca (Kc Mo rfl) (Qd (Jx isAgg9 rfl hF.F 0 rfl rfl) (Ca (H9 underlying9 rfl) (Ca (Jn rfl rfl) (Ca (X0 rfl rfl) (Ca (Ec rfl) (Ea ?_))))))))))
 refine Pc rfl rfl (fun hc1 => ?_) (fun hc1 => ?_)
 refine Ka ?_
 refine Ja (w' := w) (v := .agg #[.bool false, .string (bs []), .int .i64 0]) Ib ?_
 refine An hF sizeOf71 rfl rfl Y6 ?_
 clear hF; rintro w hF -
 refine Ca (Gc rfl) (Ea ?_)
 refine Fc (Bc (Za (Le rfl (l := [.bool false, .string (bs []), .int .i64 0]) rfl isAgg71 sizeOf71 rfl (hF.cellsAll 1 rfl) (v := .int .i64 3) rfl) ?_))
 exact ⟨by rw [Fl, if_neg (by simpa using hc0), if_pos by_Om]; rfl, hF.same⟩
 refine Ka (Ca (Lf rfl) (Ca (H9 underlying9 rfl) (Ca (X0 rfl rfl) (Ca (Ec rfl) (Ea ?_)))))
 refine Pc rfl rfl (fun hc2 => ?_) (fun hc2 => ?_)
 refine Ka ?_
 refine Ja (w' := w) (v := .agg #[.bool false, .string (bs []), .int .i64 0]) Ib ?_
 refine An hF sizeOf71 rfl rfl Y6 ?_
 clear hF; rintro w hF -
 refine Ca (Gc rfl) (Ea ?_)
 refine Fc (Bc (Za (Le rfl (l := [.bool false, .string (bs []), .int .i64 0]) rfl isAgg71 sizeOf71 rfl (hF.cellsAll 1 rfl) (v := .int .i64 4) rfl) ?_))
 exact ⟨by rw [Fl, if_neg (by simpa using hc0), if_neg by_Om, if_pos by_Om]; rfl, hF.same⟩
 refine Wa (Mb (Ha (Ka (Ca (Gc rfl) (Ea (Ia (Ka (Ca (Lf rfl) ?_))))))))
 refine Qt (str := (Lib.trimLeftB (Rb s).1.exp 48)) hF underlying9 rfl ?_
 clear hF; rintro b3 w hb3 hF -
 refine Ea (Va ?_)
 have hall : (Lib.trimLeftB (Rb s).1.exp 48).all Nh = true := As (PE (by simp_all))
 refine Uc (fun μ σ w => ∃ (q : Nat), μ = (Lib.trimLeftB (Rb s).1.exp 48).length - q ∧ (q ≤ (Lib.trimLeftB (Rb s).1.exp 48).length) ∧ AllEq σ [(2, .pointer (some ⟨b1, 0, none⟩)), (4, .pointer (some ⟨b2, 0, none⟩)), (7, .int .i64 (Kg ((Lib.trimLeftB (Rb s).1.exp 48).take q))), (41, .pointer (some ⟨b3, 0, none⟩))] ∧ FR w0 [] [(b3, .stringIter (bs ((Lib.trimLeftB (Rb s).1.exp 48))) (q)), (b2, .cells #[.bool ((Rb s).1.neg), .bool ((Rb s).1.low), .string (bs ((Rb s).1.whole)), .string (bs ((Rb s).1.rest)), .string (bs ((Rb s).1.exp))] 114), (b1, .cells #[.bool false, .string (bs []), .int .i64 0] 71)] w) _ ⟨0, rfl, (Nat.zero_le _), Gt, hF⟩ ?_
 clear hF; rintro μ σ w ⟨q, rfl, hq, hs, hF⟩
 refine Cg.slots hs ?_
 clear hs; intro σ
 refine Ka ?_
 by_cases hn0 : (q) < ((Lib.trimLeftB (Rb s).1.exp 48) : Str).length
 refine Vx 0 (p := q) (str := (Lib.trimLeftB (Rb s).1.exp 48)) hF rfl rfl hn0 ?_
 clear hF; rintro w hF -
 replace hF : FR w0 [] [(b3, .stringIter (bs ((Lib.trimLeftB (Rb s).1.exp 48))) (q + (Utf8.decode (bs ((Lib.trimLeftB (Rb s).1.exp 48))) (q)).2)), _, _] w := hF
 refine Ca (Ar rfl rfl) (Ea (Ia (Ae rfl (Wa (Ha (Va (Ka (Ca (Zn rfl rfl) (Ca (Gc rfl) (Ea ?_))))))))))
 refine Da (Ca (Hb rfl) ?_)
 have hv := TG (s := (Lib.trimLeftB (Rb s).1.exp 48)) (q := q) by_Om hall
 have hb := F3 ((Lib.trimLeftB (Rb s).1.exp 48).take q) (OK q hall) (by rw [List.length_take]; omega)
 refine Ja (v := .int .i64 (10 * Kg ((Lib.trimLeftB (Rb s).1.exp 48).take q))) (Z7 rfl rfl (Bi by_Om by_Om by_Om)) (Ca (Hb rfl) ?_)
 refine Ja (v := .int .i32 (((Utf8.decode (bs (Lib.trimLeftB (Rb s).1.exp 48)) q).1 : Int) - 48)) (Uw rfl rfl (by rw [IntKind.wrap_i32]; omega)) ?_
 refine Ja (v := .int .i64 (((Utf8.decode (bs (Lib.trimLeftB (Rb s).1.exp 48)) q).1 : Int) - 48)) (Mg underlying21 underlying3 rfl (Un by_Om by_Om)) ?_
 refine Ja (v := .int .i64 (Kg ((Lib.trimLeftB (Rb s).1.exp 48).take (q + 1)))) (Ct rfl rfl (by rw [Sw _ q by_Om, hv.1]; exact Un by_Om by_Om)) ?_
 refine Ca (Gc rfl) (Ya (Mb ?_))
 rw [hv.2.1] at hF
 refine Ic ⟨_, ?_, q + 1, rfl, by_Om, Gt, hF⟩
 omega
 refine Wo 0 (p := q) (str := (Lib.trimLeftB (Rb s).1.exp 48)) hF rfl rfl hn0 ?_
 refine Ca (Ar rfl rfl) (Ea (Ia (Bg rfl ?_)))
 refine Nc (Lc rfl ?_)
 refine Ha ?_
 have eT : (Lib.trimLeftB (Rb s).1.exp 48).take q = (Lib.trimLeftB (Rb s).1.exp 48) := List.take_of_length_le by_Om
 have hb := F3 (Lib.trimLeftB (Rb s).1.exp 48) hall by_Om
 have hE : -1000000000 < Du s ∧ Du s < 1000000000 := by unfold Du; split <;> omega
 refine Ia ?_
 refine Gw (fun σ w => AllEq σ [(2, .pointer (some ⟨b1, 0, none⟩)), (4, .pointer (some ⟨b2, 0, none⟩)), (7, .int .i64 (Du s))] ∧ FR w0 [] [(b3, .stringIter (bs ((Lib.trimLeftB (Rb s).1.exp 48))) (q)), (b2, .cells #[.bool ((Rb s).1.neg), .bool ((Rb s).1.low), .string (bs ((Rb s).1.whole)), .string (bs ((Rb s).1.rest)), .string (bs ((Rb s).1.exp))] 114), (b1, .cells #[.bool false, .string (bs []), .int .i64 0] 71)] w) ?_ ?_
 refine Ka (Ca (Kc Jy rfl) (Qd (HT isAgg4 rfl hF.F 1 rfl rfl) (Ea ?_)))
 refine Pj rfl rfl (fun hc4 => ?_) (fun hc4 => ?_)
 have eE : Du s = - Kg (Lib.trimLeftB (Rb s).1.exp 48) := by unfold Du; rw [if_pos (by assumption)]
 refine Da (Ca (Hb rfl) ?_)
 refine Ja (v := .int .i64 (Du s)) (SO rfl (by rw [eT, eE]; exact Bi by_Om by_Om by_Om)) ?_
 refine Ca (Gc rfl) (Ya ?_)
 exact Ic ⟨WL, hF⟩
 have eE : Du s = Kg (Lib.trimLeftB (Rb s).1.exp 48) := by unfold Du; rw [if_neg (by simp_all)]
 rw [eT, ← eE]
 refine Wa ?_
 exact Ic ⟨WL, hF⟩
 clear hF; rintro σ w ⟨hs, hF⟩
 refine Eg.slots hs ?_
 clear hs; intro σ
 refine Ha (Ka (Ca (Kc Qp rfl) (Qd (Jx isAgg9 rfl hF.F 1 rfl rfl) (Ca (Kc Mo rfl) (Qd (Jx isAgg9 rfl hF.F 1 rfl rfl) (Ja (v := .string (bs (((Rb s).1.whole) ++ ((Rb s).1.rest)))) (Uq rfl rfl by_Om) ?_))))))
 refine Pb hF (Dx ((Rb s).1.whole ++ (Rb s).1.rest) _) (Qb LO rfl rfl rfl) ?_
 clear hF; intro w hF
 refine Ca (Qj rfl) (Ea (Ia (Ka (Ca (Lf rfl) (Ca (M_ rfl rfl) (Ea ?_))))))
 refine Pc rfl rfl (fun hc5 => ?_) (fun hc5 => ?_)
 refine Ka ?_
 refine Ja (w' := w) (v := .agg #[.bool false, .string (bs []), .int .i64 0]) Ib ?_
 refine An hF sizeOf71 rfl rfl WM ?_
 clear hF; rintro w hF -
 refine Ca (Gc rfl) (Ea ?_)
 refine Fc (Bc (Za (Le rfl (l := [.bool false, .string (bs []), .int .i64 0]) rfl isAgg71 sizeOf71 rfl (hF.cellsAll 2 rfl) (v := .int .i64 0) rfl) ?_))
 exact ⟨by rw [Fl, if_neg (by simpa using hc0), if_neg by_Om, if_neg by_Om, if_pos hc5]; rfl, hF.same⟩
 refine Wa (Ha (Ka (Ca (Lf rfl) ?_)))
 refine Pb hF (O6 (Lib.trimLeftB ((Rb s).1.whole ++ (Rb s).1.rest) 48) _ by_Om) (Qb NT rfl rfl rfl) ?_
 clear hF; intro w hF
 refine Ca (Qj rfl) (Cc (Ca (Kc Y7 rfl) (Qd (HT isAgg4 rfl hF.F 1 rfl rfl) (Ca (Lf rfl) (Ca (Hb rfl) (Ca (Kc Mo rfl) (Qd (Jx isAgg9 rfl hF.F 1 rfl rfl) (Ca (H9 underlying9 rfl) (Ca (Kr rfl rfl) (Ca (Lf rfl) ?_))))))))))
 refine Ca (H9 underlying9 rfl) (Ca (Jn rfl rfl) (Ca (Lf rfl) (Ca (H9 underlying9 rfl) (Ca (Kr rfl rfl) ?_))))
 refine Ja (w' := w) (v := .agg #[.bool ((Rb s).1.neg), .string (bs ((Lib.trimRightB (Lib.trimLeftB ((Rb s).1.whole ++ (Rb s).1.rest) 48) 48))), .int .i64 ((((Du s : Int) - ((((Rb s).1.rest) : Str).length : Int) : Int) + ((((Lib.trimLeftB ((Rb s).1.whole ++ (Rb s).1.rest) 48)) : Str).length : Int) : Int) - ((((Lib.trimRightB (Lib.trimLeftB ((Rb s).1.whole ++ (Rb s).1.rest) 48) 48)) : Str).length : Int))]) Ib ?_
 refine Bj hF zeroValue71 sizeOf71 rfl ?_
 clear hF; rintro b4 w hb4 hF -
 refine Ea (Ia (Ka (Qd (Bm isAgg71 sizeOf71 rfl hF.F 0 rfl rfl) ?_)))
 refine Pb hF (C6 (⟨(Rb s).1.neg, (Lib.trimRightB (Lib.trimLeftB ((Rb s).1.whole ++ (Rb s).1.rest) 48) 48), Du s - (Rb s).1.rest.length + (Lib.trimLeftB ((Rb s).1.whole ++ (Rb s).1.rest) 48).length - (Lib.trimRightB (Lib.trimLeftB ((Rb s).1.whole ++ (Rb s).1.rest) 48) 48).length⟩) (by show (Lib.trimRightB (Lib.trimLeftB ((Rb s).1.whole ++ (Rb s).1.rest) 48) 48).length ≤ _; omega) _) (Eb NL rfl rfl) ?_
 clear hF; intro w hF
 refine Ca (Oo rfl) (Ea ?_)
 refine Pj rfl rfl (fun hc6 => ?_) (fun hc6 => ?_)
 refine Ka ?_
 refine Ja (w' := w) (v := .agg #[.bool false, .string (bs []), .int .i64 0]) Ib ?_
 refine An hF sizeOf71 rfl rfl LP ?_
 clear hF; rintro w hF -
 refine Ca (Gc rfl) (Ea ?_)
 refine Fc (Bc (Za (Le rfl (l := [.bool false, .string (bs []), .int .i64 0]) rfl isAgg71 sizeOf71 rfl (hF.cellsAll 3 rfl) (v := .int .i64 4) rfl) ?_))
 exact ⟨by rw [Fl, if_neg (by simpa using hc0), if_neg by_Om, if_neg by_Om, if_neg hc5, if_pos (by simpa using hc6)]; rfl, hF.same⟩
 refine Wa (Ha (Ka (Qd (Bm isAgg71 sizeOf71 rfl hF.F 0 rfl rfl) ?_)))
 refine An hF sizeOf71 rfl rfl LP ?_
 clear hF; rintro w hF -
 refine Ca (Gc rfl) (Ea ?_)
 refine Fc (Bc (Za (Le rfl (l := [.bool ((Rb s).1.neg), .string (bs ((Lib.trimRightB (Lib.trimLeftB ((Rb s).1.whole ++ (Rb s).1.rest) 48) 48))), .int .i64 ((((Du s : Int) - ((((Rb s).1.rest) : Str).length : Int) : Int) + ((((Lib.trimLeftB ((Rb s).1.whole ++ (Rb s).1.rest) 48)) : Str).length : Int) : Int) - ((((Lib.trimRightB (Lib.trimLeftB ((Rb s).1.whole ++ (Rb s).1.rest) 48) 48)) : Str).length : Int))]) rfl isAgg71 sizeOf71 rfl (hF.cellsAll 3 rfl) (v := .int .i64 0) rfl) ?_))
 exact ⟨by rw [Fl, if_neg (by simpa using hc0), if_neg by_Om, if_neg by_Om, if_neg hc5, if_neg (by simpa using hc6)]; rfl, hF.same⟩
end Go.Scarf
namespace Go.Scarf
open Go.RowKit Go.Proofs Go.Proofs.Tryz
def CP (n : Int) : Num := (Sf (Lib.itoa n)).1
def pI (s : Str) : Int × Bool := match Lib.parseIntB 64 s with | .ok v => (v, true) | .range => (Lib.intSat 64 s, false) | _ => (0, false)
def CJ (x : Num) : Int × Bool :=
  if Pe x = false ∨ x.exp < 0 ∨ 19 < (x.digits.length : Int) + x.exp then (0, false) else
  let t := x.digits ++ Lib.repeatL [48] x.exp.toNat
  let u := if x.neg then 45 :: t else t
  if u = [] then (0, true) else if (pI u).2 = false then (0, false) else ((pI u).1, true)
def J3 (e : Value) (b : Bool) : Prop := if b then ∃ tp q, e = .iface tp q else e = .nilIface
theorem XF {P : Program} {ρ : Operand → Value} {w : World} {dst : Option Nat} {ty : TypeId} {pos : String} {aft : Array Edge} {g : Option (Nat × Bool)} {t t' : TypeId} {x : Operand} {e : Value} {b : Bool} (ht : P.underlying t = some (.interface (P.methodsAt t))) (he : J3 e b) (hx : ρ x = e) (hy : ρ (.const .nilIface) = .nilIface) :
    (execOp ρ ⟨dst, .binOp .neq t x (.const .nilIface) t', ty, pos, aft, g⟩).run P w = .ok (.value (.bool b)) w := by
  unfold J3 at he
  cases b
  · simp only [Bool.false_eq_true, if_false] at he; subst he; exact DF ht hx hy
  · simp only [if_true] at he; obtain ⟨tp, q, rfl⟩ := he; exact E9 ht hx hy
theorem Mx (w : World) (e : TypeId) (s : ByteArray) : Same [] w (Lib.bytesWorld w e s) :=
  .of_below (Joins.below_bytesWorld _ w e s (Nat.le_refl _))
theorem GA (s : Str) (hl : s.length ≤ 140737488355328) {w : World} (hG : Gl w) : Calls prog 125 #[.string (bs s), .int .i64 10, .int .i64 64] w (Rd fun v w' => ∃ e, v = .tuple #[.int .i64 (pI s).1, e] ∧ J3 e (!(pI s).2) ∧ Same [] w w') := by
  cases h : Lib.parseIntB 64 s with
  | ok n =>
    refine (strconv_ParseInt_10_at64_ok (bs s) (by rw [Yn]; omega) n h w).mono ?_
    rintro e w' ⟨rfl, hw⟩
    refine ⟨_, rfl, .nilIface, by simp [pI, h], by simp [pI, h, J3], ?_⟩
    rcases hw with rfl | ⟨t, rfl⟩
    · exact Same.refl _ _
    · exact Mx w 5 t
  | range =>
    obtain ⟨tp, q, hv⟩ := hG.err
    refine (strconv_ParseInt_10_at64_range_var (bs s) (by rw [Yn]; omega) h tp q w hv).mono ?_
    rintro e w' ⟨N, rfl, -, -, hb⟩
    exact ⟨_, rfl, .iface 219 (.pointer (some ⟨N, 0, none⟩)), by simp only [pI, h], by simp [pI, h, J3], .of_below hb⟩
  | _ =>
    obtain ⟨tp, q, hv⟩ := hG.serr
    refine (Any.strconv_ParseInt_10_at64_syntax_var laysC174 (bs s) (by rw [Yn]; omega) h tp q w hv).mono ?_
    rintro e w' ⟨N, rfl, -, -, hb⟩
    exact ⟨_, rfl, .iface 219 (.pointer (some ⟨N, 0, none⟩)), (by simp [pI, h]; rfl), by simp [pI, h, J3], .of_below hb⟩
theorem S4 (c : Int) (h0 : 0 ≤ c) (h1 : c ≤ 19) (w : World) : Calls prog 124 #[.string (bs [48]), .int .i64 c] w (Rd fun v w' => v = .string (bs (Lib.repeatL [48] c.toNat)) ∧ Same [] w w') := by
  have h := strings_Repeat (bs [48]) c.toNat w by_Om (by rw [Yn]; simp; omega)
  rw [Int.toNat_of_nonneg h0] at h
  exact Br h
theorem take_zero {l : List Int} {j : Nat} (h : j < l.length) (hz : ∀ x ∈ l.take j, x = 0) (hn : l[j] = 0) : ∀ x ∈ l.take (j + 1), x = 0 := by
  rw [List.take_succ_eq_append_getElem h]
  intro c hc
  rcases List.mem_append.1 hc with hc | hc
  · exact hz c hc
  · simp only [List.mem_singleton] at hc; rw [hc]; exact hn
theorem TM (n : Int) (h1 : -9223372036854775808 ≤ n) (h2 : n ≤ 9223372036854775807) (w0 : World) (hG : Gl w0) : Calls prog 38 #[.int .i64 n] w0 (Rd fun v w' => v = Bp (CP n) ∧ Same [] w0 w') := by
 refine Ma func38 rfl ntmps38 Jb (Ed _) ?_
 have hF := FR.start w0 []
 refine Ka ?_
 refine Ig (cs := #[.bool false, .string (bs []), .int .i64 0]) hF zeroValue71 rfl ?_
 clear hF; rintro b1 w hb1 hF -
 refine Cc (Ca (Hb rfl) ?_)
 refine Pb hF (GB n h1 h2 (hG.ext hF.same)) (Eb BK rfl rfl) ?_
 clear hF; intro w hF
 refine Pb hF (FC (Lib.itoa n) (by have := Lib.itoa_length_le n h1 h2; omega) _) (Eb IP rfl rfl) ?_
 clear hF; intro w hF
 refine Ca (Xm rfl) (Ca (XA rfl rfl) (Ca (Zn rfl rfl) ?_))
 refine Bj hF zeroValue71 sizeOf71 rfl ?_
 clear hF; rintro b2 w hb2 hF -
 refine Ca (Gc rfl) (Cc (Qd (Bm isAgg71 sizeOf71 rfl hF.F 0 rfl rfl) ?_))
 refine An hF sizeOf71 rfl rfl Y6 ?_
 clear hF; rintro w hF -
 refine Ea ?_
 refine Fc (Bc (Za (J0 rfl (l := [.bool ((CP n).neg), .string (bs ((CP n).digits)), .int .i64 ((CP n).exp)]) rfl isAgg71 sizeOf71 rfl (hF.cellsAll 1 rfl)) ?_))
 exact ⟨rfl, hF.same⟩
def Vu (x : Num) : Str := if x.neg then 45 :: (x.digits ++ Lib.repeatL [48] x.exp.toNat) else x.digits ++ Lib.repeatL [48] x.exp.toNat
theorem Gj (x : Num) : CJ x = if Pe x = false ∨ x.exp < 0 ∨ 19 < (x.digits.length : Int) + x.exp then (0, false) else if Vu x = [] then (0, true) else if (pI (Vu x)).2 = false then (0, false) else ((pI (Vu x)).1, true) := rfl
theorem Hq (c : UInt8) (n : Nat) : (Lib.repeatL [c] n).length = n := by
  induction n with
  | zero => rfl
  | succ n ih => unfold Lib.repeatL; simp [ih]; try omega
theorem PK (x : Num) (hl : x.digits.length ≤ 140737488355328) (w0 : World) (hG : Gl w0) : Calls prog 98 #[Bp x] w0 (Rd fun v w' => v = .tuple #[.int .i64 (CJ x).1, .bool (CJ x).2] ∧ Same [] w0 w') := by
  refine Ma func98 rfl ntmps98 Jb (Ed _) ?_
  have hF := FR.start w0 []
  refine Ia ?_
  refine Da ?_
  refine Sj hF rfl ?_
  clear hF; intro b1 w hb1 hF hE
  clear hE
  refine Ca (Gc rfl) ?_
  refine Ca (Ec rfl) ?_
  refine Ya ?_
  refine Ha ?_
  refine Ia ?_
  refine Ia ?_
  refine Da ?_
  refine Qd (Bm isAgg71 sizeOf71 rfl hF.F 0 rfl rfl) ?_
  refine Pb hF (C6 x hl _) (Eb NL rfl rfl) ?_
  clear hF; intro w hF
  refine Ca (Oo rfl) ?_
  refine Ca (Fd rfl) ?_
  refine We (d := 10) rfl (fun hg0 => ?_) (fun hg0 => ?_)
  ·
    refine Sa ?_
    refine Sa ?_
    refine Sa ?_
    refine Ca (Oc rfl rfl) ?_
    refine Ca (Fd rfl) ?_
    refine Sa ?_
    refine Sa ?_
    refine Sa ?_
    refine Sa ?_
    refine Sa ?_
    refine Sa ?_
    refine Sa ?_
    refine Ca (Oc rfl rfl) ?_
    refine Ya ?_
    refine Ha ?_
    refine Ae rfl ?_
    refine Ia ?_
    refine Da ?_
    refine Ca (Gc rfl) ?_
    refine Ca (Ec rfl) ?_
    refine Ya ?_
    refine Ha ?_
    refine Fc (Bc (Za (Ye (v := .int .i64 0) (x := .bool false) rfl rfl rfl) ?_))
    refine ⟨?_, hF.same⟩
    first
    | (have hn : ¬ (Pe x = false ∨ x.exp < 0 ∨ 19 < (x.digits.length : Int) + x.exp) := by (refine not_or.2 ⟨by simp_all, not_or.2 ⟨by omega, by omega⟩⟩)
       rw [Gj, if_neg hn]
       simp_all; done)
    | (rw [Gj]; simp_all; done)
  ·
    refine Ca (Kc Om rfl) ?_
    refine Qd (Zr isAgg3 rfl hF.F 0 rfl rfl) ?_
    refine Ca (Nk rfl rfl) ?_
    refine Ca (Jd rfl rfl) ?_
    refine Ca (Fd rfl) ?_
    refine Cd (d := 15) rfl (fun hg1 => ?_) (fun hg1 => ?_)
    ·
      refine Sa ?_
      refine Sa ?_
      refine Sa ?_
      refine Sa ?_
      refine Sa ?_
      refine Sa ?_
      refine Sa ?_
      refine Ca (Oc rfl rfl) ?_
      refine Ya ?_
      refine Ha ?_
      refine Ae rfl ?_
      refine Ia ?_
      refine Da ?_
      refine Ca (Gc rfl) ?_
      refine Ca (Ec rfl) ?_
      refine Ya ?_
      refine Ha ?_
      refine Fc (Bc (Za (Ye (v := .int .i64 0) (x := .bool false) rfl rfl rfl) ?_))
      refine ⟨?_, hF.same⟩
      first
      | (have hn : ¬ (Pe x = false ∨ x.exp < 0 ∨ 19 < (x.digits.length : Int) + x.exp) := by (refine not_or.2 ⟨by simp_all, not_or.2 ⟨by omega, by omega⟩⟩)
         rw [Gj, if_neg hn]
         simp_all; done)
      | (rw [Gj]; simp_all; done)
    ·
      refine Ca (Kc It rfl) ?_
      refine Qd (Jx isAgg9 rfl hF.F 0 rfl rfl) ?_
      refine Ca (H9 underlying9 rfl) ?_
      refine Ca (Kc Om rfl) ?_
      refine Qd (Zr isAgg3 rfl hF.F 0 rfl rfl) ?_
      refine Ja (v := .int .i64 ((x.digits.length : Int) + x.exp)) (Ct rfl rfl (Un (by have := Ud (x := x) (by simp_all); omega) (by have := Ud (x := x) (by simp_all); omega))) ?_
      refine Ca (X0 rfl rfl) ?_
      refine Ca (Jd rfl rfl) ?_
      refine Ya ?_
      refine Ha ?_
      refine Pc rfl rfl (fun hc0 => ?_) (fun hc0 => ?_)
      ·
        refine Ia ?_
        refine Da ?_
        refine Ca (Gc rfl) ?_
        refine Ca (Ec rfl) ?_
        refine Ya ?_
        refine Ha ?_
        refine Fc (Bc (Za (Ye (v := .int .i64 0) (x := .bool false) rfl rfl rfl) ?_))
        refine ⟨?_, hF.same⟩
        first
        | (have hn : ¬ (Pe x = false ∨ x.exp < 0 ∨ 19 < (x.digits.length : Int) + x.exp) := by (refine not_or.2 ⟨by simp_all, not_or.2 ⟨by omega, by omega⟩⟩)
           rw [Gj, if_neg hn]
           simp_all; done)
        | (rw [Gj]; simp_all; done)
      ·
        refine Wa ?_
        refine Ha ?_
        refine Ia ?_
        refine Uf (zs := []) (.free 0 (.free 1 (.free 2 (.free 3 (.act 4 (.free 5 (.free 6 .nil))))))) hF ?_
        clear hF; intro w hF
        refine Xa rfl (Kc It rfl) ?_
        refine Zo rfl (Jx isAgg9 rfl C0 0 rfl rfl) ?_
        refine Xa rfl (Kc Om rfl) ?_
        refine Zo rfl (Zr isAgg3 rfl C0 0 rfl rfl) ?_
        refine Qn hF (S4 x.exp by_Om by_Om _) rfl (Qb S_ rfl rfl rfl) ?_
        clear hF; intro w hF
        refine ⟨hF, ?_⟩
        refine Qa rfl (v := .string (bs ((x.digits) ++ (Lib.repeatL [48] x.exp.toNat)))) (fun w hC => Uq rfl rfl (by have := Hq 48 x.exp.toNat; have := Ud (x := x) (by simp_all); first | omega | (simp only [List.length_append, List.length_cons, List.length_nil]; omega))) ?_
        refine Xa rfl (Qj rfl) ?_
        refine Jc ?_
        refine Ha ?_
        refine Ia ?_
        refine Gw (fun σ w => AllEq σ [(4, .string (bs (Vu x)))] ∧ FR w0 [] [(b1, .cells #[.bool (x.neg), .string (bs (x.digits)), .int .i64 (x.exp)] 71)] w) ?_ ?_
        ·
          refine Ia ?_
          refine Da ?_
          refine Ca (Kc HC rfl) ?_
          refine Qd (HT isAgg4 rfl hF.F 0 rfl rfl) ?_
          refine Ya ?_
          refine Ha ?_
          refine Pj rfl rfl (fun hc1 => ?_) (fun hc1 => ?_)
          ·
            have eT : [45] ++ (x.digits ++ Lib.repeatL [48] x.exp.toNat) = Vu x := by unfold Vu; rw [if_pos (by assumption)]; rfl
            refine Da ?_
            refine Ca (Lf rfl) ?_
            refine Ja (v := .string (bs (Vu x))) (by rw [← eT]; exact Uq rfl rfl (by have := Hq 48 x.exp.toNat; have := Ud (x := x) (by simp_all); first | omega | (simp only [List.length_append, List.length_cons, List.length_nil]; omega))) ?_
            refine Ca (Qj rfl) ?_
            refine Ya ?_
            exact Ic ⟨RU, hF⟩
          ·
            have eT : x.digits ++ Lib.repeatL [48] x.exp.toNat = Vu x := by unfold Vu; rw [if_neg (by simp_all)]
            rw [eT]
            refine Wa ?_
            exact Ic ⟨RU, hF⟩
        clear hF; rintro σ w ⟨hs, hF⟩
        refine Eg.slots hs ?_
        clear hs; intro σ
        have hT : (Vu x).length ≤ 1020 := by have := Hq 48 x.exp.toNat; have := Ud (x := x) (by simp_all); unfold Vu; split <;> simp only [List.length_append, List.length_cons] <;> omega
        refine Ha ?_
        refine Ia ?_
        refine Ia ?_
        refine Da ?_
        refine Ca (Lf rfl) ?_
        refine Ca (M_ rfl rfl) ?_
        refine Ya ?_
        refine Ha ?_
        refine Pc rfl rfl (fun hc2 => ?_) (fun hc2 => ?_)
        ·
          refine Ia ?_
          refine Da ?_
          refine Ca (Gc rfl) ?_
          refine Ca (Ec rfl) ?_
          refine Ya ?_
          refine Ha ?_
          refine Fc (Bc (Za (Ye (v := .int .i64 0) (x := .bool true) rfl rfl rfl) ?_))
          refine ⟨?_, hF.same⟩
          first
          | (have hn : ¬ (Pe x = false ∨ x.exp < 0 ∨ 19 < (x.digits.length : Int) + x.exp) := by (refine not_or.2 ⟨by simp_all, not_or.2 ⟨by omega, by omega⟩⟩)
             rw [Gj, if_neg hn]
             simp_all; done)
          | (rw [Gj]; simp_all; done)
        ·
          refine Wa ?_
          refine Ha ?_
          refine Ia ?_
          refine Da ?_
          refine Ca (Lf rfl) ?_
          refine Db (GA (Vu x) by_Om (hG.ext hF.same)) (Dc UP rfl rfl rfl rfl) ?_
          rintro _ w ⟨e, rfl, he, hE⟩
          replace hF := hF.ext hE
          clear hE
          refine Ca (Xm rfl) ?_
          refine Ca (Zn rfl rfl) ?_
          refine Ca (KU rfl rfl) ?_
          refine Ca (Gc rfl) ?_
          refine Ca (C1) ?_
          refine Ya ?_
          refine Ha ?_
          refine Ia ?_
          refine Ia ?_
          refine Da ?_
          refine Ca (Z0) ?_
          refine Ja (v := .bool (!(pI (Vu x)).2)) (XF (underlying153) he rfl rfl) ?_
          refine Ya ?_
          refine Ha ?_
          refine Pj rfl rfl (fun hc3 => ?_) (fun hc3 => ?_)
          ·
            refine Ia ?_
            refine Da ?_
            refine Ca (Gc rfl) ?_
            refine Ca (Ec rfl) ?_
            refine Ya ?_
            refine Ha ?_
            refine Fc (Bc (Za (Ye (v := .int .i64 0) (x := .bool false) rfl rfl rfl) ?_))
            refine ⟨?_, hF.same⟩
            first
            | (have hn : ¬ (Pe x = false ∨ x.exp < 0 ∨ 19 < (x.digits.length : Int) + x.exp) := by (refine not_or.2 ⟨by simp_all, not_or.2 ⟨by omega, by omega⟩⟩)
               rw [Gj, if_neg hn]
               simp_all; done)
            | (rw [Gj]; simp_all; done)
          ·
            refine Wa ?_
            refine Ha ?_
            refine Ia ?_
            refine Da ?_
            refine Ca (Hb rfl) ?_
            refine Ca (Gc rfl) ?_
            refine Ca (Ec rfl) ?_
            refine Ya ?_
            refine Ha ?_
            refine Fc (Bc (Za (Ye (v := .int .i64 ((pI (Vu x)).1)) (x := .bool true) rfl rfl rfl) ?_))
            refine ⟨?_, hF.same⟩
            first
            | (have hn : ¬ (Pe x = false ∨ x.exp < 0 ∨ 19 < (x.digits.length : Int) + x.exp) := by (refine not_or.2 ⟨by simp_all, not_or.2 ⟨by omega, by omega⟩⟩)
               rw [Gj, if_neg hn]
               simp_all; done)
            | (rw [Gj]; simp_all; done)
end Go.Scarf
