/- A part of the proof. -/
import Derived.Test.YtepbomjpbdbejaaGreatDoorFacts
import Derived.Test.YtepbomjpbdbejaaGreatDoorNum
import Derived.Test.YtepbomjpbdbejaaGreatDoorShelf
set_option linter.all false
set_option maxHeartbeats 8000000
set_option maxRecDepth 10000
namespace Go.Scarf
open Go.RowKit Go.Proofs Go.Proofs.Tryz
theorem Ly (w : World) (a b : Num) : (Op.equal 71 (Qn a) (Qn b)).run prog w = .ok (decide (a = b)) w := by
  obtain ⟨p, a, m⟩ := a
  obtain ⟨q, b, n⟩ := b
  have h := G7 a b
  simp only [Qn, Num.mk.injEq]
  generalize bs a = u at *
  generalize bs b = v at *
  simp [Op.equal, Op.maxDepth, run_equalIn_struct, go_sem]
  have h' : u.toList = v.toList ↔ a = b := by
    rw [← decide_eq_true_eq (p := a = b), ← h, beq_iff_eq]
  by_cases h1 : p = q <;> by_cases h2 : a = b <;> by_cases h3 : m = n <;> simp [h1, h2, h3, h'.2, show ¬ a = b → ¬ u.toList = v.toList from fun hn he => hn (h'.1 he)]
theorem VJ {ρ : Operand → Value} {w : World} {dst : Option Nat} {ty : TypeId} {pos : String} {aft : Array Edge} {g : Option (Nat × Bool)} {x y : Operand} {a b : Num} (hx : ρ x = Qn a) (hy : ρ y = Qn b) :
    (execOp ρ ⟨dst, .binOp .eql 71 x y 71, ty, pos, aft, g⟩).run prog w = .ok (.value (.bool (decide (a = b)))) w := by
  have hg : (eqGuard .eql 71 x y (Qn a) (Qn b)).run prog w = .ok () w := by
    simp [eqGuard, Qn]
  have h := Ly w a b
  simp only [execOp, hx, hy, Sem.run_bind, hg, Result.andThen_ok]
  have hb : (binOp .eql 71 (Qn a) (Qn b)).run prog w = .ok (.bool (decide (a = b))) w := by
    simp only [Qn, binOp] at h ⊢
    simp only [Sem.run_bind, h, Result.andThen_ok, Sem.run_pure]
  rw [hb]; rfl
theorem Tu (s q : Str) (w : World) : Calls prog 107 #[.string (bs s), .string (bs q)] w (Md fun v w' => v = .tuple #[.string (bs (Lib.trimPrefix s q)), .bool (Lib.hasPrefix s q)] ∧ Same [] w w') := Ep (strings_CutPrefix (bs s) (bs q) w)
theorem I1 (s q : Str) (w : World) : Calls prog 109 #[.string (bs s), .string (bs q)] w (Md fun v w' => v = .string (bs (Lib.trimPrefix s q)) ∧ Same [] w w') := Ep (strings_TrimPrefix (bs s) (bs q) w)
theorem Ru (s : Str) (w : World) : Calls prog 89 #[.string (bs s), .string (bs [48])] w (Md fun v w' => v = .string (bs (Lib.trimLeftB s 48)) ∧ Same [] w w') := Ep (strings_TrimLeft_one (bs s) 48 Ta w)
theorem U2 (s : Str) (w : World) (h : s.length ≤ 9223372036854775807) : Calls prog 90 #[.string (bs s), .string (bs [48])] w (Md fun v w' => v = .string (bs (Lib.trimRightB s 48)) ∧ Same [] w w') := Ep (strings_TrimRight_one (bs s) 48 Ta w h)
theorem J4 (s : Str) (c : UInt8) (w : World) : Calls prog 138 #[.string (bs s), .int .u8 (c.toNat : Int)] w (Md fun v w' => v = .int .i64 (Lib.indexByte s c) ∧ Same [] w w') := by
  have := Ep (strings_IndexByte (bs s) (c.toNat : Int) w)
  simpa using this
theorem Fj (s : Str) (w0 : World) : Calls prog 86 #[.string (bs s)] w0 (Md fun v w' => v = .bool (Xp s) ∧ Same [] w0 w') := by
 refine Ka func86 rfl ntmps86 Gb (Dd _) ?_
 have hF := FR.start w0 []
 refine Ma (Ca (Hc rfl) (Fa (Ja (Ma (Ca (Bf rfl) ?_)))))
 refine Js (str := s) hF underlying9 rfl ?_
 clear hF; rintro b1 w hb1 hF -
 refine Fa (Ya ?_)
 refine Uc (fun μ σ w => ∃ (q : Nat), μ = s.length - q ∧ (q ≤ s.length) ∧ ((s.take q).all Vi = true) ∧ AllEq σ [(0, .string (bs s)), (6, .pointer (some ⟨b1, 0, none⟩))] ∧ FR w0 [] [(b1, .stringIter (bs s) (q))] w) _ ⟨0, rfl, (Nat.zero_le _), Ga, TE, hF⟩ ?_
 clear hF; rintro μ σ w ⟨q, rfl, hq, ha, hs, hF⟩
 refine Cg.slots hs ?_
 clear hs; intro σ
 refine Ma ?_
 by_cases hn0 : (q) < (s : Str).length
 refine Fv 0 (p := q) (str := s) hF rfl rfl hn0 ?_
 clear hF; rintro w hF -
 replace hF : FR w0 [] [(b1, .stringIter (bs s) (q + (Utf8.decode (bs s) (q)).2))] w := hF
 refine Ca (Wp rfl rfl) (Fa (Ja (Rd rfl (Cb (Ha (Ya (Ma (Ca (Mt rfl rfl) (Ca (Pc rfl) (Fa ?_))))))))))
 refine Ma (Ca (Hb rfl) (Ca (Yk rfl rfl) (Ca (Kd rfl) ?_)))
 refine Gd (d := 12) rfl (fun hg1 => ?_) (fun hg1 => ?_)
 refine Ra (Ra (Ca (Rc rfl rfl) (Fa (Rd rfl (Ma (Ca (Hc rfl) (Fa ?_)))))))
 refine Ie (v := .bool false) rfl rfl ?_
 have hd := (Dr s q by_Om).2 by_Om
 exact ⟨by unfold Xp; rw [Iw by_Om hd]; simp, hF.same⟩
 refine Ca (Hb rfl) (Ca (Ey rfl rfl) (Ca (Fd rfl rfl) (Fa ?_)))
 refine Kc rfl rfl (fun hc1 => ?_) (fun hc1 => ?_)
 refine Ma (Ca (Hc rfl) (Fa ?_))
 refine Ie (v := .bool false) rfl rfl ?_
 have hd := (Dr s q by_Om).2 by_Om
 exact ⟨by unfold Xp; rw [Iw by_Om hd]; simp, hF.same⟩
 refine Cb (Kb ?_)
 have hd := (Dr s q by_Om).1 ⟨by omega, by omega⟩
 rw [hd.2] at hF
 refine Dc ⟨_, ?_, q + 1, rfl, by_Om, (Fy by_Om ha hd.1), TE, hF⟩
 omega
 refine Vn 0 (p := q) (str := s) hF rfl rfl hn0 ?_
 refine Ca (Wp rfl rfl) (Fa (Ja (Qg rfl ?_)))
 refine Lc (Jc rfl ?_)
 refine Ha (Ma (Ca (Bf rfl) (Ca (FN rfl rfl) (Ca (Hc rfl) (Fa ?_)))))
 refine Ie (v := .bool _) rfl rfl ?_
 have e : s.take q = s := List.take_of_length_le by_Om
 rw [e] at ha
 exact ⟨by unfold Xp; rw [ha]; simp, hF.same⟩
theorem Z0 (x : Num) (hl : x.digits.length ≤ 140737488355328) (w0 : World) : Calls prog 57 #[Qn x] w0 (Md fun v w' => v = .bool (Le x) ∧ Same [] w0 w') := by
 refine Ka func57 rfl ntmps57 Gb (Dd _) ?_
 have hF := FR.start w0 []
 refine Ma ?_
 refine Kk hF rfl ?_
 clear hF; rintro b1 w hb1 hF -
 refine Ca (Hc rfl) (Cc (Ca (Gc Ns rfl) (Vd (Yx isAgg9 rfl hF.F 0 rfl rfl) (Ca (Zi rfl) (Fa (Ja (Ya (Ma ?_))))))))
 refine Vd (El isAgg71 sizeOf71 rfl hF.F 0 rfl rfl) ?_
 refine Ia (w' := w) (v := .agg #[.bool false, .string (bs []), .int .i64 0]) Db ?_
 refine Ia (v := .bool (decide (x = Num.zero))) (VJ (a := x) (b := Num.zero) rfl rfl) (Ca (Hc rfl) (Fa ?_))
 refine Kc rfl rfl (fun hc0 => ?_) (fun hc0 => ?_)
 refine Ma (Ca (Hc rfl) (Fa ?_))
 refine Ie (v := .bool true) rfl rfl ?_
 exact ⟨by rw [H5 hc0], hF.same⟩
 refine Ja (Ma (Ca (Bf rfl) ?_))
 refine Rb hF (Fj (x.digits) _) (Ob Hs rfl rfl) ?_
 clear hF; intro w hF
 refine Ca (On rfl) (Ca (Hc rfl) (Fa ?_))
 refine Ik rfl rfl (fun hc1 => ?_) (fun hc1 => ?_)
 refine Cb (Ha (Rd rfl (Ma (Ca (Hc rfl) (Fa ?_)))))
 refine Ie (v := .bool false) rfl rfl ?_
 exact ⟨by rw [W5 hc0 hc1], hF.same⟩
 refine Ma (Ca (Bf rfl) (Ca (M7 underlying9 rfl) (Ca (Ey rfl rfl) (Ca (Hc rfl) (Fa ?_)))))
 refine Kc rfl rfl (fun hc2 => ?_) (fun hc2 => ?_)
 refine Cb (Ha (Rd rfl (Ma (Ca (Hc rfl) (Fa ?_)))))
 refine Ie (v := .bool false) rfl rfl ?_
 exact ⟨by rw [I4 hc0 hc2], hF.same⟩
 refine Ma (Ca (Bf rfl) ?_)
 refine Ia (v := .int .u8 ((((x.digits : Str)[0]'(List.length_pos_iff.2 (Yi (by simpa using hc1)))).toNat : Int))) (Ih (0) underlying9 rfl rfl (List.length_pos_iff.2 (Yi (by simpa using hc1)))) ?_
 refine Ca (Ho rfl rfl) (Ca (Hc rfl) (Fa ?_))
 refine Kc rfl rfl (fun hc3 => ?_) (fun hc3 => ?_)
 refine Cb (Ha (Rd rfl (Ma (Ca (Hc rfl) (Fa ?_)))))
 refine Ie (v := .bool false) rfl rfl ?_
 exact ⟨by rw [E4 hc0 _ hc3], hF.same⟩
 refine Ea (Ca (Bf rfl) (Ca (Bf rfl) (Ca (M7 underlying9 rfl) ?_)))
 refine Ia (v := .int .i64 (((x.digits.length - 1 : Nat) : Int))) (Xu rfl rfl (Xh (by have := List.length_pos_iff.2 (Yi (s := x.digits) (by simpa using hc1)); omega) by_Om by_Om)) ?_
 refine Ia (v := .int .u8 ((((x.digits : Str)[x.digits.length - 1]'(by have := List.length_pos_iff.2 (Yi (s := x.digits) (by simpa using hc1)); omega)).toNat : Int))) (Ih (x.digits.length - 1) underlying9 rfl rfl (by have := List.length_pos_iff.2 (Yi (s := x.digits) (by simpa using hc1)); omega)) ?_
 refine Ca (Ho rfl rfl) (Ca (Hc rfl) (Fa ?_))
 refine Kc rfl rfl (fun hc4 => ?_) (fun hc4 => ?_)
 refine Ma (Ca (Hc rfl) (Fa ?_))
 refine Ie (v := .bool false) rfl rfl ?_
 exact ⟨by rw [Z5 hc0 _ hc4], hF.same⟩
 refine Cb (Kb (Ha (Ma (Ca (Gc Vk rfl) (Vd (At isAgg3 rfl hF.F 0 rfl rfl) (Ca (X8 rfl rfl) (Ca (Kd rfl) ?_)))))))
 refine Gd (d := 29) rfl (fun hg0 => ?_) (fun hg0 => ?_)
 refine Ca (Gc Vk rfl) (Vd (At isAgg3 rfl hF.F 0 rfl rfl) (Ca (WF rfl rfl) (Ca (Rc rfl rfl) (Ca (Hc rfl) (Fa ?_)))))
 refine Ie (v := .bool _) rfl rfl ?_
 exact ⟨by rw [Ex hc0 hc1 hc2 _ hc3 _ hc4]; simp [hg0], hF.same⟩
 refine Ra (Ra (Ra (Ca (Fd rfl rfl) (Ca (Hc rfl) (Fa ?_)))))
 refine Ie (v := .bool false) rfl rfl ?_
 exact ⟨by rw [Ex hc0 hc1 hc2 _ hc3 _ hc4]; simp [hg0], hF.same⟩
def J7 : List Int := [0, 1, 56, 2, 57, 49, 28, 3, 61, 58, 42, 50, 38, 29, 17, 4, 62, 47, 59, 36, 45, 43, 51, 22, 53, 39, 33, 30, 24, 18, 12, 5, 63, 55, 48, 27, 60, 41, 37, 16, 46, 35, 44, 21, 52, 32, 23, 11, 54, 26, 40, 15, 34, 20, 31, 10, 25, 14, 19, 9, 13, 8, 7, 6]
structure Gl (w : World) : Prop where
  size : 7 ≤ w.heap.size
  tabs : Lib.Utf8Tabs 0 1 w
  pow : ∃ e fz, w.heap[2]? = some (.cells (Lib.pow10Tab.map (fun z => Value.int .u64 z)).toArray e fz)
  rng : ∃ tp q e fz, w.heap[4]? = some (.cells #[.iface tp q] e fz)
  syn : ∃ tp q e fz, w.heap[3]? = some (.cells #[.iface tp q] e fz)
  bru : ∃ e fz, w.heap[6]? = some (.cells (J7.map (fun z => Value.int .u8 z)).toArray e fz)
theorem Gl.same {w w' : World} {Ds : List Nat} (h : Gl w) (hs : Same Ds w w') (hd : ∀ b ∈ Ds, 7 ≤ b) : Gl w' := by
  have hb : ∀ b, b < 7 → w'.heap[b]? = w.heap[b]? := fun b hb => hs.block b (Nat.lt_of_lt_of_le hb h.size) (fun hi => by have := hd b hi; omega)
  refine ⟨Nat.le_trans h.size hs.size, ⟨fun c hc => ?_, fun i hi => ⟨?_, ?_⟩⟩, ?_, ?_, ?_, ?_⟩
  · rw [← h.tabs.1 c hc]; exact World.cell?_of_block (w := w) (hb 0 by_Om)
  · rw [← (h.tabs.2 i hi).1]; exact World.cell?_of_block (w := w) (hb 1 by_Om)
  · rw [← (h.tabs.2 i hi).2]; exact World.cell?_of_block (w := w) (hb 1 by_Om)
  · rw [hb 2 by_Om]; exact h.pow
  · rw [hb 4 by_Om]; exact h.rng
  · rw [hb 3 by_Om]; exact h.syn
  · rw [hb 6 by_Om]; exact h.bru
theorem Gl.ext {w w' : World} (h : Gl w) (hs : Same [] w w') : Gl w' := h.same hs Ga
theorem Gl.tabIs {w : World} (h : Gl w) : Lib.TabIs prog w "internal/strconv.uint64pow10" IntKind.u64 Lib.pow10Tab := by
  obtain ⟨e, fz, hh⟩ := h.pow
  have hg : prog.globalNamed "internal/strconv.uint64pow10" = some 2 := by kernel_rfl
  simp [Lib.TabIs, World.var?, hg, hh]
theorem Gl.err {w : World} (h : Gl w) : ∃ tp q, World.var? prog w "strconv.ErrRange" = some #[.iface tp q] := by
  obtain ⟨tp, q, e, fz, hh⟩ := h.rng
  have hg : prog.globalNamed "strconv.ErrRange" = some 4 := by kernel_rfl
  exact ⟨tp, q, by simp [World.var?, hg, hh]⟩
theorem Gl.serr {w : World} (h : Gl w) : ∃ tp q, World.var? prog w "strconv.ErrSyntax" = some #[.iface tp q] := by
  obtain ⟨tp, q, e, fz, hh⟩ := h.syn
  have hg : prog.globalNamed "strconv.ErrSyntax" = some 3 := by kernel_rfl
  exact ⟨tp, q, by simp [World.var?, hg, hh]⟩
theorem ZA (w : World) (k : Nat) (os : Array Obj) : Same [] w (Go.Sort.grow (w.drewN k) os) :=
  ⟨rfl, rfl, rfl, by rw [Go.Sort.size_grow]; exact Nat.le_add_right _ _, fun b hb _ => Go.Sort.heap_grow_old (w.drewN k) os hb⟩
theorem I8 (n : Int) (h1 : -9223372036854775808 ≤ n) (h2 : n ≤ 9223372036854775807) {w : World} (hG : Gl w) : Calls prog 58 #[.int .i64 n] w (Md fun v w' => v = .string (bs (Lib.itoa n)) ∧ Same [] w w') :=
  (strconv_Itoa n h1 h2 w hG.tabIs).mono fun e w' ⟨he, k, os, hw⟩ => ⟨_, he, rfl, by subst hw; exact ZA w k os⟩
theorem ED (x : Num) (hl : x.digits.length ≤ 140737488355328) (w0 : World) (hG : Gl w0) : Calls prog 37 #[Qn x] w0 (Md fun v w' => v = .string (bs (Eo x)) ∧ Same [] w0 w') := by
 refine Ka func37 rfl ntmps37 Gb (Dd _) ?_
 have hF := FR.start w0 []
 refine Ma ?_
 refine Kk hF rfl ?_
 clear hF; rintro b1 w hb1 hF -
 refine Ca (Zi rfl) (Fa (Ja (Ma (Vd (El isAgg71 sizeOf71 rfl hF.F 0 rfl rfl) ?_))))
 refine Rb hF (Z0 x hl _) (Ob KD rfl rfl) ?_
 clear hF; intro w hF
 refine Ca (On rfl) (Fa ?_)
 refine Ik rfl rfl (fun hc0 => ?_) (fun hc0 => ?_)
 refine Ma (Ca (Zi rfl) (Fa ?_))
 refine Ie (v := .string (bs [])) rfl rfl ?_
 refine ⟨?_, hF.same⟩
 simp_all [Eo]
 refine Cb (Ha (Ja (Ma (Ca (Gc Ns rfl) (Vd (Yx isAgg9 rfl hF.F 0 rfl rfl) (Ca (G6 rfl rfl) (Fa ?_)))))))
 refine Kc rfl rfl (fun hc1 => ?_) (fun hc1 => ?_)
 refine Ma (Ca (Zi rfl) (Fa ?_))
 refine Ie (v := .string (bs [48])) rfl rfl ?_
 refine ⟨?_, hF.same⟩
 simp_all [Eo]
 refine Cb (Ha (Ma (Ca (Gc Ns rfl) (Vd (Yx isAgg9 rfl hF.F 0 rfl rfl) (Ca (Zi rfl) (Fa (Ja (Ma (Ca (Gc L_ rfl) (Vd (SL isAgg4 rfl hF.F 0 rfl rfl) ?_))))))))))
 refine Fa ?_
 refine Ik rfl rfl (fun hc2 => ?_) (fun hc2 => ?_)
 refine Ea (Ca (Bf rfl) ?_)
 refine Ia (v := .string (bs (([45]) ++ (x.digits)))) (Fp rfl rfl (by simp; omega)) ?_
 refine Ca (Zi rfl) (Fa (Ja (Ma (Ca (Gc Vk rfl) (Vd (At isAgg3 rfl hF.F 0 rfl rfl) (Ca (D6 rfl rfl) (Fa ?_)))))))
 refine Kc rfl rfl (fun hc3 => ?_) (fun hc3 => ?_)
 refine Ea (Ca (Bf rfl) (Ca (Gc Vk rfl) (Vd (At isAgg3 rfl hF.F 0 rfl rfl) ?_)))
 refine Rb hF (I8 x.exp (by have := Jd (x := x) (by simpa using hc0); omega) (by have := Jd (x := x) (by simpa using hc0); omega) (hG.ext hF.same)) (Ob XC rfl rfl) ?_
 clear hF; intro w hF
 refine Ia (v := .string (bs (([101]) ++ (Lib.itoa x.exp)))) (Fp rfl rfl (by have := Lib.itoa_length_le x.exp (by have := Jd (x := x) (by simpa using hc0); omega) (by have := Jd (x := x) (by simpa using hc0); omega); simp; omega)) ?_
 refine Ia (v := .string (bs ((([45]) ++ (x.digits)) ++ (([101]) ++ (Lib.itoa x.exp))))) (Fp rfl rfl (by have := Lib.itoa_length_le x.exp (by have := Jd (x := x) (by simpa using hc0); omega) (by have := Jd (x := x) (by simpa using hc0); omega); simp; omega)) ?_
 refine Ca (Zi rfl) (Cc (Ca (Bf rfl) (Ca (Zi rfl) (Fa ?_))))
 refine Xb (Wb (Va (Gx (v := .string (bs ((([45]) ++ (x.digits)) ++ (([101]) ++ (Lib.itoa x.exp))))) rfl rfl) ?_))
 refine ⟨?_, hF.same⟩
 simp_all [Eo]
 refine Cb (Ha (Ma (Ca (Bf rfl) (Ca (Zi rfl) (Fa ?_)))))
 refine Ie (v := .string (bs (([45]) ++ (x.digits)))) rfl rfl ?_
 refine ⟨?_, hF.same⟩
 simp_all [Eo]
 refine Cb (Ha (Ja (Ma (Ca (Gc Vk rfl) (Vd (At isAgg3 rfl hF.F 0 rfl rfl) (Ca (D6 rfl rfl) (Fa ?_)))))))
 refine Kc rfl rfl (fun hc3 => ?_) (fun hc3 => ?_)
 refine Ea (Ca (Bf rfl) (Ca (Gc Vk rfl) (Vd (At isAgg3 rfl hF.F 0 rfl rfl) ?_)))
 refine Rb hF (I8 x.exp (by have := Jd (x := x) (by simpa using hc0); omega) (by have := Jd (x := x) (by simpa using hc0); omega) (hG.ext hF.same)) (Ob XC rfl rfl) ?_
 clear hF; intro w hF
 refine Ia (v := .string (bs (([101]) ++ (Lib.itoa x.exp)))) (Fp rfl rfl (by have := Lib.itoa_length_le x.exp (by have := Jd (x := x) (by simpa using hc0); omega) (by have := Jd (x := x) (by simpa using hc0); omega); simp; omega)) ?_
 refine Ia (v := .string (bs ((x.digits) ++ (([101]) ++ (Lib.itoa x.exp))))) (Fp rfl rfl (by have := Lib.itoa_length_le x.exp (by have := Jd (x := x) (by simpa using hc0); omega) (by have := Jd (x := x) (by simpa using hc0); omega); simp; omega)) ?_
 refine Ca (Zi rfl) (Cc (Ca (Bf rfl) (Ca (Zi rfl) (Fa ?_))))
 refine Xb (Wb (Va (Gx (v := .string (bs ((x.digits) ++ (([101]) ++ (Lib.itoa x.exp))))) rfl rfl) ?_))
 refine ⟨?_, hF.same⟩
 simp_all [Eo]
 refine Cb (Ha (Ma (Ca (Bf rfl) (Ca (Zi rfl) (Fa ?_)))))
 refine Ie (v := .string (bs (x.digits))) rfl rfl ?_
 refine ⟨?_, hF.same⟩
 simp_all [Eo]
theorem H9 (s at_ : Str) (hl : s.length ≤ 140737488355328) (w0 : World) : Calls prog 108 #[.string (bs s), .string (bs at_)] w0 (Md fun v w' => v = .tuple #[.string (bs (Oa at_ s).1), .string (bs (Oa at_ s).2.1), .bool (Oa at_ s).2.2] ∧ Same [] w0 w') := by
 refine Ka func108 rfl ntmps108 Gb (Sd _ _) ?_
 have hF := FR.start w0 []
 refine Ma (Ca (Zi rfl) (Ca (Zi rfl) (Ca (Hc rfl) (Fa (Ja (Ma (Ca (Bf rfl) (Ca (M7 underlying9 rfl) (Ca (Hb rfl) (Fb ?_))))))))))
 refine Ha (Ya ?_)
 refine Uc (fun μ σ w => ∃ (q : Nat), μ = s.length - q ∧ (q ≤ s.length) ∧ (∀ c ∈ s.take q, at_.contains c = false) ∧ AllEq σ [(0, .string (bs s)), (1, .string (bs at_)), (9, .int .i64 ((((s) : Str).length : Int))), (10, .int .i64 ((q : Int)))] ∧ FR w0 [] [] w) _ ⟨0, rfl, (Nat.zero_le _), Ga, Dq, hF⟩ ?_
 clear hF; rintro μ σ w ⟨q, rfl, hq, hno, hs, hF⟩
 refine Cg.slots hs ?_
 clear hs; intro σ
 refine Ma (Ca (Yk rfl rfl) (Fa (Ja ?_)))
 refine Kc rfl rfl (fun hc0 => ?_) (fun hc0 => ?_)
 refine Cb (Ha (Ja (Ya (Ma (Ca (Hb rfl) (Ca (Pc rfl) (Cc (Ca (Bf rfl) (Ca (Bf rfl) ?_)))))))))
 refine Ca (Hb rfl) (Ia (v := .int .u8 ((((s : Str)[q]'by_Om).toNat : Int))) (Ih (q) underlying9 rfl rfl by_Om) ?_)
 refine Rb hF (J4 at_ _ _) (Mb BJ rfl rfl rfl) ?_
 clear hF; intro w hF
 refine Ca (X8 rfl rfl) (Fa ?_)
 refine Kc rfl rfl (fun hc1 => ?_) (fun hc1 => ?_)
 refine Ja ?_
 refine Hg (zs := []) (.free 0 (.free 1 (.free 2 (.free 3 (.free 4 (.free 5 (.free 6 (.free 7 (.free 8 (.free 9 .nil)))))))))) hF ?_
 clear hF; intro w hF
 refine Xa rfl (Bf rfl) (Xa rfl (Hb rfl) (Qa rfl (v := .string (bs ((s : Str).take (q)))) (fun w hC => GF (q) underlying9 rfl rfl by_Om) (Xa rfl (Bf rfl) (Xa rfl (Hb rfl) (Xa rfl (Di (((q + 1 : Nat) : Int)) rfl rfl) (Qa rfl (v := .string (bs ((s : Str).drop (q + 1)))) (fun w hC => C4 (q + 1) underlying9 rfl rfl by_Om) (Xa rfl (Zi rfl) (Xa rfl (Zi rfl) (Xa rfl (Hc rfl) (Ac (Ha ?_)))))))))))
 refine Xb (Wb (Va (W8 (v := .string (bs ((s : Str).take (q)))) (x := .string (bs ((s : Str).drop (q + 1)))) (y := .bool true) rfl rfl rfl rfl) ?_))
 exact ⟨by rw [Iz by_Om hno (Et hc1)], hF.same⟩
 refine Cb (Kb (Ha (Ea (Ca (To rfl rfl) (Ca (Hb rfl) (Fb ?_))))))
 refine Dc ⟨_, ?_, q + 1, rfl, by_Om, (TG by_Om hno (My hc1)), Dq, hF⟩
 omega
 refine Lc (Jc rfl ?_)
 refine Ha (Ma (Ca (Bf rfl) (Ca (Zi rfl) (Ca (Zi rfl) (Ca (Hc rfl) (Fa ?_))))))
 refine Xb (Wb (Va (W8 (v := .string (bs s)) (x := .string (bs [])) (y := .bool false) rfl rfl rfl rfl) ?_))
 have e : s.take q = s := List.take_of_length_le by_Om
 rw [e] at hno
 exact ⟨by rw [Sy hno], hF.same⟩
theorem RJ (s : Str) (hl : s.length ≤ 140737488355328) (w0 : World) : Calls prog 88 #[.string (bs s)] w0 (Md fun v w' => v = .tuple #[Gm (Qb s).1, .bool (Qb s).2] ∧ Same [] w0 w') := by
 refine Ka func88 rfl ntmps88 Gb (Dd _) ?_
 have hF := FR.start w0 []
 refine Ma ?_
 refine Lh (cs := #[.bool false, .bool false, .string (bs []), .string (bs []), .string (bs [])]) hF zeroValue114 rfl ?_
 clear hF; rintro b1 w hb1 hF -
 refine Ca (Hc rfl) (Cc (Ca (Bf rfl) ?_))
 refine Rb hF (Tu s [45] _) (Mb IE rfl rfl rfl) ?_
 clear hF; intro w hF
 refine Ca (Gn rfl) (Ca (CA rfl rfl) (Ca (Wp rfl rfl) (Ca (Zi rfl) (Ca (Gc T5 rfl) ?_))))
 refine Hm (.bool _) hF sizeOf4 rfl rfl Tl Tl ?_
 clear hF; rintro w hF -
 refine Cc (Ca (Bf rfl) ?_)
 refine Rb hF (H9 (Lib.trimPrefix s [45]) [101, 69] (by have := Df s [45]; have := Hf [101, 69] (Lib.trimPrefix s [45]); omega) _) (Mb L1 rfl rfl rfl) ?_
 clear hF; intro w hF
 refine Ca (Gn rfl) (Ca (CA rfl rfl) (Ca (CA rfl rfl) (Ca (Wp rfl rfl) (Ca (Zi rfl) (Ca (Zi rfl) (Ca (Hc rfl) (Fa (Ja (Ma (Ca (Kd rfl) (Fb ?_)))))))))))
 refine Ha ?_
 refine Ik rfl rfl (fun hc0 => ?_) (fun hc0 => ?_)
 refine Ma (Ca (Bf rfl) ?_)
 refine Rb hF (Tu ((Oa [101, 69] (Lib.trimPrefix s [45])).2.1) [45] _) (Mb IE rfl rfl rfl) ?_
 clear hF; intro w hF
 refine Ca (Gn rfl) (Ca (CA rfl rfl) (Ca (Wp rfl rfl) (Ca (Zi rfl) (Ca (Gc Px rfl) ?_))))
 refine Hm (.bool _) hF sizeOf4 rfl rfl Tl V2 ?_
 clear hF; rintro w hF -
 refine Fa (Ja (Ma (Ca (Gc Px rfl) (Vd (SL isAgg4 rfl hF.F 0 rfl rfl) (Ca (On rfl) (Fa ?_))))))
 refine Ik rfl rfl (fun hc1 => ?_) (fun hc1 => ?_)
 refine Ea (Ca (Bf rfl) ?_)
 refine Rb hF (I1 (Lib.trimPrefix ((Oa [101, 69] (Lib.trimPrefix s [45])).2.1) [45]) [43] _) (Mb XJ rfl rfl rfl) ?_
 clear hF; intro w hF
 refine Ca (Zi rfl) (Cc (Ca (Bf rfl) ?_))
 refine Rb hF (Fj (Lib.trimPrefix (Lib.trimPrefix ((Oa [101, 69] (Lib.trimPrefix s [45])).2.1) [45]) [43]) _) (Ob Hs rfl rfl) ?_
 clear hF; intro w hF
 refine Ca (On rfl) (Fa ?_)
 refine Ik rfl rfl (fun hc2 => ?_) (fun hc2 => ?_)
 refine Ma (Vd (El isAgg114 sizeOf114 rfl hF.F 0 rfl rfl) ?_)
 refine Vl hF sizeOf114 rfl rfl Tl ?_
 clear hF; rintro w hF -
 refine Ca (Hc rfl) (Fa ?_)
 refine Xb (Wb (Va (Be rfl (l := [.bool (Lib.hasPrefix s [45]), .bool (Lib.hasPrefix ((Oa [101, 69] (Lib.trimPrefix s [45])).2.1) [45]), .string (bs []), .string (bs []), .string (bs [])]) rfl isAgg114 sizeOf114 rfl (hF.cellsAll 0 rfl) (v := .bool false) rfl) ?_))
 refine ⟨?_, hF.same⟩
 simp_all [Qb, Ud, Gm, Rg]
 refine Cb (Ha (Ma (Ca (Bf rfl) (Ca (Gc Yr rfl) ?_))))
 refine Hm (.string _) hF sizeOf9 rfl rfl Tl QM ?_
 clear hF; rintro w hF -
 refine Cc (Ca (Bf rfl) ?_)
 refine Rb hF (H9 ((Oa [101, 69] (Lib.trimPrefix s [45])).1) [46] (by have := Df s [45]; have := Hf [101, 69] (Lib.trimPrefix s [45]); omega) _) (Mb L1 rfl rfl rfl) ?_
 clear hF; intro w hF
 refine Ca (Gn rfl) (Ca (CA rfl rfl) (Ca (CA rfl rfl) (Ca (Wp rfl rfl) (Ca (Zi rfl) (Ca (Zi rfl) (Ca (Hc rfl) (Cc (Ca (Bf rfl) (Ca (Bf rfl) (Ca (Gc Vo rfl) ?_))))))))))
 refine Hm (.string _) hF sizeOf9 rfl rfl Tl IG ?_
 clear hF; rintro w hF -
 refine Ca (Gc Um rfl) ?_
 refine Hm (.string _) hF sizeOf9 rfl rfl Tl EK ?_
 clear hF; rintro w hF -
 refine Fa (Ja (Ma (Ca (Bf rfl) ?_)))
 refine Rb hF (Fj ((Oa [46] ((Oa [101, 69] (Lib.trimPrefix s [45])).1)).1) _) (Ob Hs rfl rfl) ?_
 clear hF; intro w hF
 refine Ca (On rfl) (Ca (Kd rfl) ?_)
 refine Pf (d := 52) rfl (fun hg0 => ?_) (fun hg0 => ?_)
 refine Ra (Ra (Ra (Ra (Ra (Ra (Ca (Rc rfl rfl) (Fa (Rd rfl (Ma (Vd (El isAgg114 sizeOf114 rfl hF.F 0 rfl rfl) ?_))))))))))
 refine Vl hF sizeOf114 rfl rfl Tl ?_
 clear hF; rintro w hF -
 refine Ca (Hc rfl) (Fa ?_)
 refine Xb (Wb (Va (Be rfl (l := [.bool (Lib.hasPrefix s [45]), .bool (Lib.hasPrefix ((Oa [101, 69] (Lib.trimPrefix s [45])).2.1) [45]), .string (bs ((Oa [46] ((Oa [101, 69] (Lib.trimPrefix s [45])).1)).1)), .string (bs ((Oa [46] ((Oa [101, 69] (Lib.trimPrefix s [45])).1)).2.1)), .string (bs (Lib.trimPrefix (Lib.trimPrefix ((Oa [101, 69] (Lib.trimPrefix s [45])).2.1) [45]) [43]))]) rfl isAgg114 sizeOf114 rfl (hF.cellsAll 0 rfl) (v := .bool false) rfl) ?_))
 refine ⟨?_, hF.same⟩
 simp_all [Qb, Ud, Gm, Rg]
 refine Ca (Kd rfl) (Ca (Kd rfl) ?_)
 refine Pf (d := 54) rfl (fun hg1 => ?_) (fun hg1 => ?_)
 refine Ca (Bf rfl) ?_
 refine Rb hF (Fj ((Oa [46] ((Oa [101, 69] (Lib.trimPrefix s [45])).1)).2.1) _) (Ob Hs rfl rfl) ?_
 clear hF; intro w hF
 refine Ca (On rfl) (Ca (Rc rfl rfl) (Ca (Fd rfl rfl) (Fa ?_)))
 refine Ik rfl rfl (fun hc3 => ?_) (fun hc3 => ?_)
 refine Ma (Vd (El isAgg114 sizeOf114 rfl hF.F 0 rfl rfl) ?_)
 refine Vl hF sizeOf114 rfl rfl Tl ?_
 clear hF; rintro w hF -
 refine Ca (Hc rfl) (Fa ?_)
 refine Xb (Wb (Va (Be rfl (l := [.bool (Lib.hasPrefix s [45]), .bool (Lib.hasPrefix ((Oa [101, 69] (Lib.trimPrefix s [45])).2.1) [45]), .string (bs ((Oa [46] ((Oa [101, 69] (Lib.trimPrefix s [45])).1)).1)), .string (bs ((Oa [46] ((Oa [101, 69] (Lib.trimPrefix s [45])).1)).2.1)), .string (bs (Lib.trimPrefix (Lib.trimPrefix ((Oa [101, 69] (Lib.trimPrefix s [45])).2.1) [45]) [43]))]) rfl isAgg114 sizeOf114 rfl (hF.cellsAll 0 rfl) (v := .bool false) rfl) ?_))
 refine ⟨?_, hF.same⟩
 simp_all [Qb, Ud, Gm, Rg]
 refine Cb (Ha (Ja ?_))
 refine Hg (zs := []) (.free 0 (.free 1 (.free 2 (.free 3 (.free 4 (.free 5 (.free 6 (.free 7 (.act 8 (.free 9 .nil)))))))))) hF ?_
 clear hF; intro w hF
 refine Jo rfl (El isAgg114 sizeOf114 rfl C0 0 rfl rfl) (Xa rfl (Bf rfl) (Xa rfl (G6 rfl rfl) (Xa rfl (Kd rfl) ?_)))
 refine Lg (d := 64) rfl (fun hg2 => ?_) (fun hg2 => ?_)
 refine Sa rfl ?_
 refine Sa rfl ?_
 refine Sa rfl ?_
 refine Xa rfl (Rc rfl rfl) ?_
 refine Sr rfl hF sizeOf114 rfl rfl Tl ?_
 clear hF; rintro w hF -
 refine ⟨hF, ?_⟩
 refine Xa rfl (Hc rfl) (Ac (Ha ?_))
 refine Xb (Wb (Va (Be rfl (l := [.bool (Lib.hasPrefix s [45]), .bool (Lib.hasPrefix ((Oa [101, 69] (Lib.trimPrefix s [45])).2.1) [45]), .string (bs ((Oa [46] ((Oa [101, 69] (Lib.trimPrefix s [45])).1)).1)), .string (bs ((Oa [46] ((Oa [101, 69] (Lib.trimPrefix s [45])).1)).2.1)), .string (bs (Lib.trimPrefix (Lib.trimPrefix ((Oa [101, 69] (Lib.trimPrefix s [45])).2.1) [45]) [43]))]) rfl isAgg114 sizeOf114 rfl (hF.cellsAll 0 rfl) (v := .bool true) rfl) ?_))
 refine ⟨?_, hF.same⟩
 simp_all [Qb, Ud, Gm, Rg]
 refine Xa rfl (Bf rfl) ?_
 have hpos := List.length_pos_iff.2 (Yi (s := (Oa [46] (Oa [101, 69] (Lib.trimPrefix s [45])).1).1) (by simp_all))
 refine Qa rfl (v := .int .u8 (((((Oa [46] ((Oa [101, 69] (Lib.trimPrefix s [45])).1)).1 : Str)[0]'(hpos)).toNat : Int))) (fun w hC => Ih (0) underlying9 rfl rfl (hpos)) (Xa rfl (D6 rfl rfl) (Xa rfl (Fd rfl rfl) ?_))
 refine Sr rfl hF sizeOf114 rfl rfl Tl ?_
 clear hF; rintro w hF -
 refine ⟨hF, ?_⟩
 refine Xa rfl (Hc rfl) (Ac (Ha ?_))
 refine Xb (Wb (Va (Be rfl (l := [.bool (Lib.hasPrefix s [45]), .bool (Lib.hasPrefix ((Oa [101, 69] (Lib.trimPrefix s [45])).2.1) [45]), .string (bs ((Oa [46] ((Oa [101, 69] (Lib.trimPrefix s [45])).1)).1)), .string (bs ((Oa [46] ((Oa [101, 69] (Lib.trimPrefix s [45])).1)).2.1)), .string (bs (Lib.trimPrefix (Lib.trimPrefix ((Oa [101, 69] (Lib.trimPrefix s [45])).2.1) [45]) [43]))]) rfl isAgg114 sizeOf114 rfl (hF.cellsAll 0 rfl) (v := .bool (decide ((((((Oa [46] ((Oa [101, 69] (Lib.trimPrefix s [45])).1)).1 : Str)[0]'(hpos)).toNat : Int) : Int) ≠ (48 : Int)))) rfl) ?_))
 refine ⟨?_, hF.same⟩
 simp_all [Qb, Ud, Gm, Rg]
 refine Ra (Ra (Ra (Ca (Fd rfl rfl) (Ca (Fd rfl rfl) (Fa (Jr rfl (Ja ?_)))))))
 refine Hg (zs := []) (.free 0 (.free 1 (.free 2 (.free 3 (.free 4 (.free 5 (.free 6 (.free 7 (.act 8 (.free 9 .nil)))))))))) hF ?_
 clear hF; intro w hF
 refine Jo rfl (El isAgg114 sizeOf114 rfl C0 0 rfl rfl) (Xa rfl (Bf rfl) (Xa rfl (G6 rfl rfl) (Xa rfl (Kd rfl) ?_)))
 refine Lg (d := 64) rfl (fun hg3 => ?_) (fun hg3 => ?_)
 refine Sa rfl ?_
 refine Sa rfl ?_
 refine Sa rfl ?_
 refine Xa rfl (Rc rfl rfl) ?_
 refine Sr rfl hF sizeOf114 rfl rfl Tl ?_
 clear hF; rintro w hF -
 refine ⟨hF, ?_⟩
 refine Xa rfl (Hc rfl) (Ac (Ha ?_))
 refine Xb (Wb (Va (Be rfl (l := [.bool (Lib.hasPrefix s [45]), .bool (Lib.hasPrefix ((Oa [101, 69] (Lib.trimPrefix s [45])).2.1) [45]), .string (bs ((Oa [46] ((Oa [101, 69] (Lib.trimPrefix s [45])).1)).1)), .string (bs ((Oa [46] ((Oa [101, 69] (Lib.trimPrefix s [45])).1)).2.1)), .string (bs (Lib.trimPrefix (Lib.trimPrefix ((Oa [101, 69] (Lib.trimPrefix s [45])).2.1) [45]) [43]))]) rfl isAgg114 sizeOf114 rfl (hF.cellsAll 0 rfl) (v := .bool true) rfl) ?_))
 refine ⟨?_, hF.same⟩
 simp_all [Qb, Ud, Gm, Rg]
 refine Xa rfl (Bf rfl) ?_
 have hpos := List.length_pos_iff.2 (Yi (s := (Oa [46] (Oa [101, 69] (Lib.trimPrefix s [45])).1).1) (by simp_all))
 refine Qa rfl (v := .int .u8 (((((Oa [46] ((Oa [101, 69] (Lib.trimPrefix s [45])).1)).1 : Str)[0]'(hpos)).toNat : Int))) (fun w hC => Ih (0) underlying9 rfl rfl (hpos)) (Xa rfl (D6 rfl rfl) (Xa rfl (Fd rfl rfl) ?_))
 refine Sr rfl hF sizeOf114 rfl rfl Tl ?_
 clear hF; rintro w hF -
 refine ⟨hF, ?_⟩
 refine Xa rfl (Hc rfl) (Ac (Ha ?_))
 refine Xb (Wb (Va (Be rfl (l := [.bool (Lib.hasPrefix s [45]), .bool (Lib.hasPrefix ((Oa [101, 69] (Lib.trimPrefix s [45])).2.1) [45]), .string (bs ((Oa [46] ((Oa [101, 69] (Lib.trimPrefix s [45])).1)).1)), .string (bs ((Oa [46] ((Oa [101, 69] (Lib.trimPrefix s [45])).1)).2.1)), .string (bs (Lib.trimPrefix (Lib.trimPrefix ((Oa [101, 69] (Lib.trimPrefix s [45])).2.1) [45]) [43]))]) rfl isAgg114 sizeOf114 rfl (hF.cellsAll 0 rfl) (v := .bool (decide ((((((Oa [46] ((Oa [101, 69] (Lib.trimPrefix s [45])).1)).1 : Str)[0]'(hpos)).toNat : Int) : Int) ≠ (48 : Int)))) rfl) ?_))
 refine ⟨?_, hF.same⟩
 simp_all [Qb, Ud, Gm, Rg]
 refine Cb (Ha (Ma (Ca (Bf rfl) ?_)))
 refine Rb hF (Fj (Lib.trimPrefix ((Oa [101, 69] (Lib.trimPrefix s [45])).2.1) [45]) _) (Ob Hs rfl rfl) ?_
 clear hF; intro w hF
 refine Ca (On rfl) (Fa ?_)
 refine Ik rfl rfl (fun hc2 => ?_) (fun hc2 => ?_)
 refine Ma (Vd (El isAgg114 sizeOf114 rfl hF.F 0 rfl rfl) ?_)
 refine Vl hF sizeOf114 rfl rfl Tl ?_
 clear hF; rintro w hF -
 refine Ca (Hc rfl) (Fa ?_)
 refine Xb (Wb (Va (Be rfl (l := [.bool (Lib.hasPrefix s [45]), .bool (Lib.hasPrefix ((Oa [101, 69] (Lib.trimPrefix s [45])).2.1) [45]), .string (bs []), .string (bs []), .string (bs [])]) rfl isAgg114 sizeOf114 rfl (hF.cellsAll 0 rfl) (v := .bool false) rfl) ?_))
 refine ⟨?_, hF.same⟩
 simp_all [Qb, Ud, Gm, Rg]
 refine Cb (Ha (Ma (Ca (Bf rfl) (Ca (Gc Yr rfl) ?_))))
 refine Hm (.string _) hF sizeOf9 rfl rfl Tl QM ?_
 clear hF; rintro w hF -
 refine Cc (Ca (Bf rfl) ?_)
 refine Rb hF (H9 ((Oa [101, 69] (Lib.trimPrefix s [45])).1) [46] (by have := Df s [45]; have := Hf [101, 69] (Lib.trimPrefix s [45]); omega) _) (Mb L1 rfl rfl rfl) ?_
 clear hF; intro w hF
 refine Ca (Gn rfl) (Ca (CA rfl rfl) (Ca (CA rfl rfl) (Ca (Wp rfl rfl) (Ca (Zi rfl) (Ca (Zi rfl) (Ca (Hc rfl) (Cc (Ca (Bf rfl) (Ca (Bf rfl) (Ca (Gc Vo rfl) ?_))))))))))
 refine Hm (.string _) hF sizeOf9 rfl rfl Tl IG ?_
 clear hF; rintro w hF -
 refine Ca (Gc Um rfl) ?_
 refine Hm (.string _) hF sizeOf9 rfl rfl Tl EK ?_
 clear hF; rintro w hF -
 refine Fa (Ja (Ma (Ca (Bf rfl) ?_)))
 refine Rb hF (Fj ((Oa [46] ((Oa [101, 69] (Lib.trimPrefix s [45])).1)).1) _) (Ob Hs rfl rfl) ?_
 clear hF; intro w hF
 refine Ca (On rfl) (Ca (Kd rfl) ?_)
 refine Pf (d := 52) rfl (fun hg4 => ?_) (fun hg4 => ?_)
 refine Ra (Ra (Ra (Ra (Ra (Ra (Ca (Rc rfl rfl) (Fa (Rd rfl (Ma (Vd (El isAgg114 sizeOf114 rfl hF.F 0 rfl rfl) ?_))))))))))
 refine Vl hF sizeOf114 rfl rfl Tl ?_
 clear hF; rintro w hF -
 refine Ca (Hc rfl) (Fa ?_)
 refine Xb (Wb (Va (Be rfl (l := [.bool (Lib.hasPrefix s [45]), .bool (Lib.hasPrefix ((Oa [101, 69] (Lib.trimPrefix s [45])).2.1) [45]), .string (bs ((Oa [46] ((Oa [101, 69] (Lib.trimPrefix s [45])).1)).1)), .string (bs ((Oa [46] ((Oa [101, 69] (Lib.trimPrefix s [45])).1)).2.1)), .string (bs (Lib.trimPrefix ((Oa [101, 69] (Lib.trimPrefix s [45])).2.1) [45]))]) rfl isAgg114 sizeOf114 rfl (hF.cellsAll 0 rfl) (v := .bool false) rfl) ?_))
 refine ⟨?_, hF.same⟩
 simp_all [Qb, Ud, Gm, Rg]
 refine Ca (Kd rfl) (Ca (Kd rfl) ?_)
 refine Pf (d := 54) rfl (fun hg5 => ?_) (fun hg5 => ?_)
 refine Ca (Bf rfl) ?_
 refine Rb hF (Fj ((Oa [46] ((Oa [101, 69] (Lib.trimPrefix s [45])).1)).2.1) _) (Ob Hs rfl rfl) ?_
 clear hF; intro w hF
 refine Ca (On rfl) (Ca (Rc rfl rfl) (Ca (Fd rfl rfl) (Fa ?_)))
 refine Ik rfl rfl (fun hc3 => ?_) (fun hc3 => ?_)
 refine Ma (Vd (El isAgg114 sizeOf114 rfl hF.F 0 rfl rfl) ?_)
 refine Vl hF sizeOf114 rfl rfl Tl ?_
 clear hF; rintro w hF -
 refine Ca (Hc rfl) (Fa ?_)
 refine Xb (Wb (Va (Be rfl (l := [.bool (Lib.hasPrefix s [45]), .bool (Lib.hasPrefix ((Oa [101, 69] (Lib.trimPrefix s [45])).2.1) [45]), .string (bs ((Oa [46] ((Oa [101, 69] (Lib.trimPrefix s [45])).1)).1)), .string (bs ((Oa [46] ((Oa [101, 69] (Lib.trimPrefix s [45])).1)).2.1)), .string (bs (Lib.trimPrefix ((Oa [101, 69] (Lib.trimPrefix s [45])).2.1) [45]))]) rfl isAgg114 sizeOf114 rfl (hF.cellsAll 0 rfl) (v := .bool false) rfl) ?_))
 refine ⟨?_, hF.same⟩
 simp_all [Qb, Ud, Gm, Rg]
 refine Cb (Ha (Ja ?_))
 refine Hg (zs := []) (.free 0 (.free 1 (.free 2 (.free 3 (.free 4 (.free 5 (.free 6 (.free 7 (.act 8 (.free 9 .nil)))))))))) hF ?_
 clear hF; intro w hF
 refine Jo rfl (El isAgg114 sizeOf114 rfl C0 0 rfl rfl) (Xa rfl (Bf rfl) (Xa rfl (G6 rfl rfl) (Xa rfl (Kd rfl) ?_)))
 refine Lg (d := 64) rfl (fun hg6 => ?_) (fun hg6 => ?_)
 refine Sa rfl ?_
 refine Sa rfl ?_
 refine Sa rfl ?_
 refine Xa rfl (Rc rfl rfl) ?_
 refine Sr rfl hF sizeOf114 rfl rfl Tl ?_
 clear hF; rintro w hF -
 refine ⟨hF, ?_⟩
 refine Xa rfl (Hc rfl) (Ac (Ha ?_))
 refine Xb (Wb (Va (Be rfl (l := [.bool (Lib.hasPrefix s [45]), .bool (Lib.hasPrefix ((Oa [101, 69] (Lib.trimPrefix s [45])).2.1) [45]), .string (bs ((Oa [46] ((Oa [101, 69] (Lib.trimPrefix s [45])).1)).1)), .string (bs ((Oa [46] ((Oa [101, 69] (Lib.trimPrefix s [45])).1)).2.1)), .string (bs (Lib.trimPrefix ((Oa [101, 69] (Lib.trimPrefix s [45])).2.1) [45]))]) rfl isAgg114 sizeOf114 rfl (hF.cellsAll 0 rfl) (v := .bool true) rfl) ?_))
 refine ⟨?_, hF.same⟩
 simp_all [Qb, Ud, Gm, Rg]
 refine Xa rfl (Bf rfl) ?_
 have hpos := List.length_pos_iff.2 (Yi (s := (Oa [46] (Oa [101, 69] (Lib.trimPrefix s [45])).1).1) (by simp_all))
 refine Qa rfl (v := .int .u8 (((((Oa [46] ((Oa [101, 69] (Lib.trimPrefix s [45])).1)).1 : Str)[0]'(hpos)).toNat : Int))) (fun w hC => Ih (0) underlying9 rfl rfl (hpos)) (Xa rfl (D6 rfl rfl) (Xa rfl (Fd rfl rfl) ?_))
 refine Sr rfl hF sizeOf114 rfl rfl Tl ?_
 clear hF; rintro w hF -
 refine ⟨hF, ?_⟩
 refine Xa rfl (Hc rfl) (Ac (Ha ?_))
 refine Xb (Wb (Va (Be rfl (l := [.bool (Lib.hasPrefix s [45]), .bool (Lib.hasPrefix ((Oa [101, 69] (Lib.trimPrefix s [45])).2.1) [45]), .string (bs ((Oa [46] ((Oa [101, 69] (Lib.trimPrefix s [45])).1)).1)), .string (bs ((Oa [46] ((Oa [101, 69] (Lib.trimPrefix s [45])).1)).2.1)), .string (bs (Lib.trimPrefix ((Oa [101, 69] (Lib.trimPrefix s [45])).2.1) [45]))]) rfl isAgg114 sizeOf114 rfl (hF.cellsAll 0 rfl) (v := .bool (decide ((((((Oa [46] ((Oa [101, 69] (Lib.trimPrefix s [45])).1)).1 : Str)[0]'(hpos)).toNat : Int) : Int) ≠ (48 : Int)))) rfl) ?_))
 refine ⟨?_, hF.same⟩
 simp_all [Qb, Ud, Gm, Rg]
 refine Ra (Ra (Ra (Ca (Fd rfl rfl) (Ca (Fd rfl rfl) (Fa (Jr rfl (Ja ?_)))))))
 refine Hg (zs := []) (.free 0 (.free 1 (.free 2 (.free 3 (.free 4 (.free 5 (.free 6 (.free 7 (.act 8 (.free 9 .nil)))))))))) hF ?_
 clear hF; intro w hF
 refine Jo rfl (El isAgg114 sizeOf114 rfl C0 0 rfl rfl) (Xa rfl (Bf rfl) (Xa rfl (G6 rfl rfl) (Xa rfl (Kd rfl) ?_)))
 refine Lg (d := 64) rfl (fun hg7 => ?_) (fun hg7 => ?_)
 refine Sa rfl ?_
 refine Sa rfl ?_
 refine Sa rfl ?_
 refine Xa rfl (Rc rfl rfl) ?_
 refine Sr rfl hF sizeOf114 rfl rfl Tl ?_
 clear hF; rintro w hF -
 refine ⟨hF, ?_⟩
 refine Xa rfl (Hc rfl) (Ac (Ha ?_))
 refine Xb (Wb (Va (Be rfl (l := [.bool (Lib.hasPrefix s [45]), .bool (Lib.hasPrefix ((Oa [101, 69] (Lib.trimPrefix s [45])).2.1) [45]), .string (bs ((Oa [46] ((Oa [101, 69] (Lib.trimPrefix s [45])).1)).1)), .string (bs ((Oa [46] ((Oa [101, 69] (Lib.trimPrefix s [45])).1)).2.1)), .string (bs (Lib.trimPrefix ((Oa [101, 69] (Lib.trimPrefix s [45])).2.1) [45]))]) rfl isAgg114 sizeOf114 rfl (hF.cellsAll 0 rfl) (v := .bool true) rfl) ?_))
 refine ⟨?_, hF.same⟩
 simp_all [Qb, Ud, Gm, Rg]
 refine Xa rfl (Bf rfl) ?_
 have hpos := List.length_pos_iff.2 (Yi (s := (Oa [46] (Oa [101, 69] (Lib.trimPrefix s [45])).1).1) (by simp_all))
 refine Qa rfl (v := .int .u8 (((((Oa [46] ((Oa [101, 69] (Lib.trimPrefix s [45])).1)).1 : Str)[0]'(hpos)).toNat : Int))) (fun w hC => Ih (0) underlying9 rfl rfl (hpos)) (Xa rfl (D6 rfl rfl) (Xa rfl (Fd rfl rfl) ?_))
 refine Sr rfl hF sizeOf114 rfl rfl Tl ?_
 clear hF; rintro w hF -
 refine ⟨hF, ?_⟩
 refine Xa rfl (Hc rfl) (Ac (Ha ?_))
 refine Xb (Wb (Va (Be rfl (l := [.bool (Lib.hasPrefix s [45]), .bool (Lib.hasPrefix ((Oa [101, 69] (Lib.trimPrefix s [45])).2.1) [45]), .string (bs ((Oa [46] ((Oa [101, 69] (Lib.trimPrefix s [45])).1)).1)), .string (bs ((Oa [46] ((Oa [101, 69] (Lib.trimPrefix s [45])).1)).2.1)), .string (bs (Lib.trimPrefix ((Oa [101, 69] (Lib.trimPrefix s [45])).2.1) [45]))]) rfl isAgg114 sizeOf114 rfl (hF.cellsAll 0 rfl) (v := .bool (decide ((((((Oa [46] ((Oa [101, 69] (Lib.trimPrefix s [45])).1)).1 : Str)[0]'(hpos)).toNat : Int) : Int) ≠ (48 : Int)))) rfl) ?_))
 refine ⟨?_, hF.same⟩
 simp_all [Qb, Ud, Gm, Rg]
 refine Cb (Ha (Ma (Ca (Bf rfl) (Ca (Gc Yr rfl) ?_))))
 refine Hm (.string _) hF sizeOf9 rfl rfl Tl QM ?_
 clear hF; rintro w hF -
 refine Cc (Ca (Bf rfl) ?_)
 refine Rb hF (H9 ((Oa [101, 69] (Lib.trimPrefix s [45])).1) [46] (by have := Df s [45]; have := Hf [101, 69] (Lib.trimPrefix s [45]); omega) _) (Mb L1 rfl rfl rfl) ?_
 clear hF; intro w hF
 refine Ca (Gn rfl) (Ca (CA rfl rfl) (Ca (CA rfl rfl) (Ca (Wp rfl rfl) (Ca (Zi rfl) (Ca (Zi rfl) (Ca (Hc rfl) (Cc (Ca (Bf rfl) (Ca (Bf rfl) (Ca (Gc Vo rfl) ?_))))))))))
 refine Hm (.string _) hF sizeOf9 rfl rfl Tl IG ?_
 clear hF; rintro w hF -
 refine Ca (Gc Um rfl) ?_
 refine Hm (.string _) hF sizeOf9 rfl rfl Tl EK ?_
 clear hF; rintro w hF -
 refine Fa (Ja (Ma (Ca (Bf rfl) ?_)))
 refine Rb hF (Fj ((Oa [46] ((Oa [101, 69] (Lib.trimPrefix s [45])).1)).1) _) (Ob Hs rfl rfl) ?_
 clear hF; intro w hF
 refine Ca (On rfl) (Ca (Kd rfl) ?_)
 refine Pf (d := 52) rfl (fun hg8 => ?_) (fun hg8 => ?_)
 refine Ra (Ra (Ra (Ra (Ra (Ra (Ca (Rc rfl rfl) (Fa (Rd rfl (Ma (Vd (El isAgg114 sizeOf114 rfl hF.F 0 rfl rfl) ?_))))))))))
 refine Vl hF sizeOf114 rfl rfl Tl ?_
 clear hF; rintro w hF -
 refine Ca (Hc rfl) (Fa ?_)
 refine Xb (Wb (Va (Be rfl (l := [.bool (Lib.hasPrefix s [45]), .bool false, .string (bs ((Oa [46] ((Oa [101, 69] (Lib.trimPrefix s [45])).1)).1)), .string (bs ((Oa [46] ((Oa [101, 69] (Lib.trimPrefix s [45])).1)).2.1)), .string (bs ((Oa [101, 69] (Lib.trimPrefix s [45])).2.1))]) rfl isAgg114 sizeOf114 rfl (hF.cellsAll 0 rfl) (v := .bool false) rfl) ?_))
 refine ⟨?_, hF.same⟩
 simp_all [Qb, Ud, Gm, Rg]
 refine Ca (Kd rfl) (Ca (Kd rfl) ?_)
 refine Pf (d := 54) rfl (fun hg9 => ?_) (fun hg9 => ?_)
 refine Ca (Bf rfl) ?_
 refine Rb hF (Fj ((Oa [46] ((Oa [101, 69] (Lib.trimPrefix s [45])).1)).2.1) _) (Ob Hs rfl rfl) ?_
 clear hF; intro w hF
 refine Ca (On rfl) (Ca (Rc rfl rfl) (Ca (Fd rfl rfl) (Fa ?_)))
 refine Ik rfl rfl (fun hc3 => ?_) (fun hc3 => ?_)
 refine Ma (Vd (El isAgg114 sizeOf114 rfl hF.F 0 rfl rfl) ?_)
 refine Vl hF sizeOf114 rfl rfl Tl ?_
 clear hF; rintro w hF -
 refine Ca (Hc rfl) (Fa ?_)
 refine Xb (Wb (Va (Be rfl (l := [.bool (Lib.hasPrefix s [45]), .bool false, .string (bs ((Oa [46] ((Oa [101, 69] (Lib.trimPrefix s [45])).1)).1)), .string (bs ((Oa [46] ((Oa [101, 69] (Lib.trimPrefix s [45])).1)).2.1)), .string (bs ((Oa [101, 69] (Lib.trimPrefix s [45])).2.1))]) rfl isAgg114 sizeOf114 rfl (hF.cellsAll 0 rfl) (v := .bool false) rfl) ?_))
 refine ⟨?_, hF.same⟩
 simp_all [Qb, Ud, Gm, Rg]
 refine Cb (Ha (Ja ?_))
 refine Hg (zs := []) (.free 0 (.free 1 (.free 2 (.free 3 (.free 4 (.free 5 (.free 6 (.free 7 (.act 8 (.free 9 .nil)))))))))) hF ?_
 clear hF; intro w hF
 refine Jo rfl (El isAgg114 sizeOf114 rfl C0 0 rfl rfl) (Xa rfl (Bf rfl) (Xa rfl (G6 rfl rfl) (Xa rfl (Kd rfl) ?_)))
 refine Lg (d := 64) rfl (fun hg10 => ?_) (fun hg10 => ?_)
 refine Sa rfl ?_
 refine Sa rfl ?_
 refine Sa rfl ?_
 refine Xa rfl (Rc rfl rfl) ?_
 refine Sr rfl hF sizeOf114 rfl rfl Tl ?_
 clear hF; rintro w hF -
 refine ⟨hF, ?_⟩
 refine Xa rfl (Hc rfl) (Ac (Ha ?_))
 refine Xb (Wb (Va (Be rfl (l := [.bool (Lib.hasPrefix s [45]), .bool false, .string (bs ((Oa [46] ((Oa [101, 69] (Lib.trimPrefix s [45])).1)).1)), .string (bs ((Oa [46] ((Oa [101, 69] (Lib.trimPrefix s [45])).1)).2.1)), .string (bs ((Oa [101, 69] (Lib.trimPrefix s [45])).2.1))]) rfl isAgg114 sizeOf114 rfl (hF.cellsAll 0 rfl) (v := .bool true) rfl) ?_))
 refine ⟨?_, hF.same⟩
 simp_all [Qb, Ud, Gm, Rg]
 refine Xa rfl (Bf rfl) ?_
 have hpos := List.length_pos_iff.2 (Yi (s := (Oa [46] (Oa [101, 69] (Lib.trimPrefix s [45])).1).1) (by simp_all))
 refine Qa rfl (v := .int .u8 (((((Oa [46] ((Oa [101, 69] (Lib.trimPrefix s [45])).1)).1 : Str)[0]'(hpos)).toNat : Int))) (fun w hC => Ih (0) underlying9 rfl rfl (hpos)) (Xa rfl (D6 rfl rfl) (Xa rfl (Fd rfl rfl) ?_))
 refine Sr rfl hF sizeOf114 rfl rfl Tl ?_
 clear hF; rintro w hF -
 refine ⟨hF, ?_⟩
 refine Xa rfl (Hc rfl) (Ac (Ha ?_))
 refine Xb (Wb (Va (Be rfl (l := [.bool (Lib.hasPrefix s [45]), .bool false, .string (bs ((Oa [46] ((Oa [101, 69] (Lib.trimPrefix s [45])).1)).1)), .string (bs ((Oa [46] ((Oa [101, 69] (Lib.trimPrefix s [45])).1)).2.1)), .string (bs ((Oa [101, 69] (Lib.trimPrefix s [45])).2.1))]) rfl isAgg114 sizeOf114 rfl (hF.cellsAll 0 rfl) (v := .bool (decide ((((((Oa [46] ((Oa [101, 69] (Lib.trimPrefix s [45])).1)).1 : Str)[0]'(hpos)).toNat : Int) : Int) ≠ (48 : Int)))) rfl) ?_))
 refine ⟨?_, hF.same⟩
 simp_all [Qb, Ud, Gm, Rg]
 refine Ra (Ra (Ra (Ca (Fd rfl rfl) (Ca (Fd rfl rfl) (Fa (Jr rfl (Ja ?_)))))))
 refine Hg (zs := []) (.free 0 (.free 1 (.free 2 (.free 3 (.free 4 (.free 5 (.free 6 (.free 7 (.act 8 (.free 9 .nil)))))))))) hF ?_
 clear hF; intro w hF
 refine Jo rfl (El isAgg114 sizeOf114 rfl C0 0 rfl rfl) (Xa rfl (Bf rfl) (Xa rfl (G6 rfl rfl) (Xa rfl (Kd rfl) ?_)))
 refine Lg (d := 64) rfl (fun hg11 => ?_) (fun hg11 => ?_)
 refine Sa rfl ?_
 refine Sa rfl ?_
 refine Sa rfl ?_
 refine Xa rfl (Rc rfl rfl) ?_
 refine Sr rfl hF sizeOf114 rfl rfl Tl ?_
 clear hF; rintro w hF -
 refine ⟨hF, ?_⟩
 refine Xa rfl (Hc rfl) (Ac (Ha ?_))
 refine Xb (Wb (Va (Be rfl (l := [.bool (Lib.hasPrefix s [45]), .bool false, .string (bs ((Oa [46] ((Oa [101, 69] (Lib.trimPrefix s [45])).1)).1)), .string (bs ((Oa [46] ((Oa [101, 69] (Lib.trimPrefix s [45])).1)).2.1)), .string (bs ((Oa [101, 69] (Lib.trimPrefix s [45])).2.1))]) rfl isAgg114 sizeOf114 rfl (hF.cellsAll 0 rfl) (v := .bool true) rfl) ?_))
 refine ⟨?_, hF.same⟩
 simp_all [Qb, Ud, Gm, Rg]
 refine Xa rfl (Bf rfl) ?_
 have hpos := List.length_pos_iff.2 (Yi (s := (Oa [46] (Oa [101, 69] (Lib.trimPrefix s [45])).1).1) (by simp_all))
 refine Qa rfl (v := .int .u8 (((((Oa [46] ((Oa [101, 69] (Lib.trimPrefix s [45])).1)).1 : Str)[0]'(hpos)).toNat : Int))) (fun w hC => Ih (0) underlying9 rfl rfl (hpos)) (Xa rfl (D6 rfl rfl) (Xa rfl (Fd rfl rfl) ?_))
 refine Sr rfl hF sizeOf114 rfl rfl Tl ?_
 clear hF; rintro w hF -
 refine ⟨hF, ?_⟩
 refine Xa rfl (Hc rfl) (Ac (Ha ?_))
 refine Xb (Wb (Va (Be rfl (l := [.bool (Lib.hasPrefix s [45]), .bool false, .string (bs ((Oa [46] ((Oa [101, 69] (Lib.trimPrefix s [45])).1)).1)), .string (bs ((Oa [46] ((Oa [101, 69] (Lib.trimPrefix s [45])).1)).2.1)), .string (bs ((Oa [101, 69] (Lib.trimPrefix s [45])).2.1))]) rfl isAgg114 sizeOf114 rfl (hF.cellsAll 0 rfl) (v := .bool (decide ((((((Oa [46] ((Oa [101, 69] (Lib.trimPrefix s [45])).1)).1 : Str)[0]'(hpos)).toNat : Int) : Int) ≠ (48 : Int)))) rfl) ?_))
 refine ⟨?_, hF.same⟩
 simp_all [Qb, Ud, Gm, Rg]
end Go.Scarf
