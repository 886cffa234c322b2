/- A part of the proof. -/
import Derived.Test.YtehigfneiofjnaaGreatDoorFacts
import Derived.Test.YtehigfneiofjnaaGreatDoorNum
import Derived.Test.YtehigfneiofjnaaGreatDoorShelf
set_option linter.all false
set_option maxHeartbeats 8000000
set_option maxRecDepth 10000
namespace Go.Scarf
open Go.RowKit Go.Proofs Go.Proofs.Tryz
theorem U0 (w : World) (a b : Num) : (Op.equal 49 (Ml a) (Ml b)).run prog w = .ok (decide (a = b)) w := by
  obtain ⟨p, a, m⟩ := a
  obtain ⟨q, b, n⟩ := b
  have h := G9 a b
  simp only [Ml, Num.mk.injEq]
  generalize bs a = u at *
  generalize bs b = v at *
  simp [Op.equal, Op.maxDepth, run_equalIn_struct, go_sem]
  have h' : u.toList = v.toList ↔ a = b := by
    rw [← decide_eq_true_eq (p := a = b), ← h, beq_iff_eq]
  by_cases h1 : p = q <;> by_cases h2 : a = b <;> by_cases h3 : m = n <;> simp [h1, h2, h3, h'.2, show ¬ a = b → ¬ u.toList = v.toList from fun hn he => hn (h'.1 he)]
theorem BI {ρ : Operand → Value} {w : World} {dst : Option Nat} {ty : TypeId} {pos : String} {aft : Array Edge} {g : Option (Nat × Bool)} {x y : Operand} {a b : Num} (hx : ρ x = Ml a) (hy : ρ y = Ml b) :
    (execOp ρ ⟨dst, .binOp .eql 49 x y 49, ty, pos, aft, g⟩).run prog w = .ok (.value (.bool (decide (a = b)))) w := by
  have hg : (eqGuard .eql 49 x y (Ml a) (Ml b)).run prog w = .ok () w := by
    simp [eqGuard, Ml]
  have h := U0 w a b
  simp only [execOp, hx, hy, Sem.run_bind, hg, Result.andThen_ok]
  have hb : (binOp .eql 49 (Ml a) (Ml b)).run prog w = .ok (.bool (decide (a = b))) w := by
    simp only [Ml, binOp] at h ⊢
    simp only [Sem.run_bind, h, Result.andThen_ok, Sem.run_pure]
  rw [hb]; rfl
theorem Hx (s q : Str) (w : World) : Calls prog 89 #[.string (bs s), .string (bs q)] w (Ce fun v w' => v = .tuple #[.string (bs (Lib.trimPrefix s q)), .bool (Lib.hasPrefix s q)] ∧ Same [] w w') := Rq (strings_CutPrefix (bs s) (bs q) w)
theorem S4 (s q : Str) (w : World) : Calls prog 91 #[.string (bs s), .string (bs q)] w (Ce fun v w' => v = .string (bs (Lib.trimPrefix s q)) ∧ Same [] w w') := Rq (strings_TrimPrefix (bs s) (bs q) w)
theorem Fx (s : Str) (w : World) : Calls prog 73 #[.string (bs s), .string (bs [48])] w (Ce fun v w' => v = .string (bs (Lib.trimLeftB s 48)) ∧ Same [] w w') := Rq (strings_TrimLeft_one (bs s) 48 Oa w)
theorem C5 (s : Str) (w : World) (h : s.length ≤ 9223372036854775807) : Calls prog 74 #[.string (bs s), .string (bs [48])] w (Ce fun v w' => v = .string (bs (Lib.trimRightB s 48)) ∧ Same [] w w') := Rq (strings_TrimRight_one (bs s) 48 Oa w h)
theorem W5 (s : Str) (c : UInt8) (w : World) : Calls prog 122 #[.string (bs s), .int .u8 (c.toNat : Int)] w (Ce fun v w' => v = .int .i64 (Lib.indexByte s c) ∧ Same [] w w') := by
  have := Rq (strings_IndexByte (bs s) (c.toNat : Int) w)
  simpa using this
theorem Xk (s : Str) (w0 : World) : Calls prog 70 #[.string (bs s)] w0 (Ce fun v w' => v = .bool (Oh s) ∧ Same [] w0 w') := by
 refine Ma func70 rfl ntmps70 Qb (Rc _) ?_
 have hF := FR.start w0 []
 refine Ha (Ca (Cc rfl) (Da (Ia (Ha (Ca (Pc rfl) ?_)))))
 refine Nu (str := s) hF underlying9 rfl ?_
 clear hF; rintro b1 w hb1 hF -
 refine Da (Db ?_)
 refine Xc (fun μ σ w => ∃ (q : Nat), μ = s.length - q ∧ (q ≤ s.length) ∧ ((s.take q).all Le = true) ∧ AllEq σ [(0, .string (bs s)), (6, .pointer (some ⟨b1, 0, none⟩))] ∧ FR w0 [] [(b1, .stringIter (bs s) (q))] w) _ ⟨0, rfl, (Nat.zero_le _), Sa, Nv, hF⟩ ?_
 clear hF; rintro μ σ w ⟨q, rfl, hq, ha, hs, hF⟩
 refine Cg.slots hs ?_
 clear hs; intro σ
 refine Ha ?_
 by_cases hn0 : (q) < (s : Str).length
 refine Ay 0 (p := q) (str := s) hF rfl rfl hn0 ?_
 clear hF; rintro w hF -
 replace hF : FR w0 [] [(b1, .stringIter (bs s) (q + (Utf8.decode (bs s) (q)).2))] w := hF
 refine Ca (Xs rfl rfl) (Da (Ia (Qd rfl (Ra (Ja (Db (Ha (Ca (Re rfl rfl) (Ca (Kb rfl) (Da ?_))))))))))
 refine Ha (Ca (Za rfl) (Ca (Fj rfl rfl) (Ca (Jc rfl) ?_)))
 refine Mb (d := 12) rfl (fun hg1 => ?_) (fun hg1 => ?_)
 refine Ea (Ea (Ca (Lc rfl rfl) (Da (Qd rfl (Ha (Ca (Cc rfl) (Da ?_)))))))
 refine Ud (v := .bool false) rfl rfl ?_
 have hd := (Lt s q by_Om).2 by_Om
 exact ⟨by unfold Oh; rw [Ot by_Om hd]; simp, hF.same⟩
 refine Ca (Za rfl) (Ca (Gn rfl rfl) (Ca (Dc rfl rfl) (Da ?_)))
 refine Bc rfl rfl (fun hc1 => ?_) (fun hc1 => ?_)
 refine Ha (Ca (Cc rfl) (Da ?_))
 refine Ud (v := .bool false) rfl rfl ?_
 have hd := (Lt s q by_Om).2 by_Om
 exact ⟨by unfold Oh; rw [Ot by_Om hd]; simp, hF.same⟩
 refine Ra (Wb ?_)
 have hd := (Lt s q by_Om).1 ⟨by omega, by omega⟩
 rw [hd.2] at hF
 refine Gb ⟨_, ?_, q + 1, rfl, by_Om, (Ss by_Om ha hd.1), Nv, hF⟩
 omega
 refine Aq 0 (p := q) (str := s) hF rfl rfl hn0 ?_
 refine Ca (Xs rfl rfl) (Da (Ia (Xe rfl ?_)))
 refine Oc (Nc rfl ?_)
 refine Ja (Ha (Ca (Pc rfl) (Ca (DU rfl rfl) (Ca (Cc rfl) (Da ?_)))))
 refine Ud (v := .bool _) rfl rfl ?_
 have e : s.take q = s := List.take_of_length_le by_Om
 rw [e] at ha
 exact ⟨by unfold Oh; rw [ha]; simp, hF.same⟩
theorem W2 (x : Num) (hl : x.digits.length ≤ 140737488355328) (w0 : World) : Calls prog 44 #[Ml x] w0 (Ce fun v w' => v = .bool (Sd x) ∧ Same [] w0 w') := by
 refine Ma func44 rfl ntmps44 Qb (Rc _) ?_
 have hF := FR.start w0 []
 refine Ha ?_
 refine Bh hF rfl ?_
 clear hF; rintro b1 w hb1 hF -
 refine Ca (Cc rfl) (Yb (Ca (Fc Dj rfl) (Uc (Ko isAgg9 rfl hF.F 0 rfl rfl) (Ca (Ld rfl) (Da (Ia (Db (Ha ?_))))))))
 refine Uc (Bi isAgg49 sizeOf49 rfl hF.F 0 rfl rfl) ?_
 refine Fa (w' := w) (v := .agg #[.bool false, .string (bs []), .int .i64 0]) Fb ?_
 refine Fa (v := .bool (decide (x = Num.zero))) (BI (a := x) (b := Num.zero) rfl rfl) (Ca (Cc rfl) (Da ?_))
 refine Bc rfl rfl (fun hc0 => ?_) (fun hc0 => ?_)
 refine Ha (Ca (Cc rfl) (Da ?_))
 refine Ud (v := .bool true) rfl rfl ?_
 exact ⟨by rw [Ww hc0], hF.same⟩
 refine Ia (Ha (Ca (Pc rfl) ?_))
 refine Va hF (Xk (x.digits) _) (Ua Eu rfl rfl) ?_
 clear hF; intro w hF
 refine Ca (Dm rfl) (Ca (Cc rfl) (Da ?_))
 refine Vh rfl rfl (fun hc1 => ?_) (fun hc1 => ?_)
 refine Ra (Ja (Qd rfl (Ha (Ca (Cc rfl) (Da ?_)))))
 refine Ud (v := .bool false) rfl rfl ?_
 exact ⟨by rw [Sx hc0 hc1], hF.same⟩
 refine Ha (Ca (Pc rfl) (Ca (Hk underlying9 rfl) (Ca (Gn rfl rfl) (Ca (Cc rfl) (Da ?_)))))
 refine Bc rfl rfl (fun hc2 => ?_) (fun hc2 => ?_)
 refine Ra (Ja (Qd rfl (Ha (Ca (Cc rfl) (Da ?_)))))
 refine Ud (v := .bool false) rfl rfl ?_
 exact ⟨by rw [Tx hc0 hc2], hF.same⟩
 refine Ha (Ca (Pc rfl) ?_)
 refine Fa (v := .int .u8 ((((x.digits : Str)[0]'(List.length_pos_iff.2 (Mg (by simpa using hc1)))).toNat : Int))) (Fd (0) underlying9 rfl rfl (List.length_pos_iff.2 (Mg (by simpa using hc1)))) ?_
 refine Ca (Li rfl rfl) (Ca (Cc rfl) (Da ?_))
 refine Bc rfl rfl (fun hc3 => ?_) (fun hc3 => ?_)
 refine Ra (Ja (Qd rfl (Ha (Ca (Cc rfl) (Da ?_)))))
 refine Ud (v := .bool false) rfl rfl ?_
 exact ⟨by rw [Kx hc0 _ hc3], hF.same⟩
 refine Ga (Ca (Pc rfl) (Ca (Pc rfl) (Ca (Hk underlying9 rfl) ?_)))
 refine Fa (v := .int .i64 (((x.digits.length - 1 : Nat) : Int))) (Wu rfl rfl (Me (by have := List.length_pos_iff.2 (Mg (s := x.digits) (by simpa using hc1)); omega) by_Om by_Om)) ?_
 refine Fa (v := .int .u8 ((((x.digits : Str)[x.digits.length - 1]'(by have := List.length_pos_iff.2 (Mg (s := x.digits) (by simpa using hc1)); omega)).toNat : Int))) (Fd (x.digits.length - 1) underlying9 rfl rfl (by have := List.length_pos_iff.2 (Mg (s := x.digits) (by simpa using hc1)); omega)) ?_
 refine Ca (Li rfl rfl) (Ca (Cc rfl) (Da ?_))
 refine Bc rfl rfl (fun hc4 => ?_) (fun hc4 => ?_)
 refine Ha (Ca (Cc rfl) (Da ?_))
 refine Ud (v := .bool false) rfl rfl ?_
 exact ⟨by rw [Ox hc0 _ hc4], hF.same⟩
 refine Ra (Wb (Ja (Ha (Ca (Fc Ih rfl) (Uc (Nm isAgg3 rfl hF.F 0 rfl rfl) (Ca (Zv rfl rfl) (Ca (Jc rfl) ?_)))))))
 refine Mb (d := 29) rfl (fun hg0 => ?_) (fun hg0 => ?_)
 refine Ca (Fc Ih rfl) (Uc (Nm isAgg3 rfl hF.F 0 rfl rfl) (Ca (T6 rfl rfl) (Ca (Lc rfl rfl) (Ca (Cc rfl) (Da ?_)))))
 refine Ud (v := .bool _) rfl rfl ?_
 exact ⟨by rw [On hc0 hc1 hc2 _ hc3 _ hc4]; simp [hg0], hF.same⟩
 refine Ea (Ea (Ea (Ca (Dc rfl rfl) (Ca (Cc rfl) (Da ?_)))))
 refine Ud (v := .bool false) rfl rfl ?_
 exact ⟨by rw [On hc0 hc1 hc2 _ hc3 _ hc4]; simp [hg0], hF.same⟩
def H9 : List Int := [0, 1, 56, 2, 57, 49, 28, 3, 61, 58, 42, 50, 38, 29, 17, 4, 62, 47, 59, 36, 45, 43, 51, 22, 53, 39, 33, 30, 24, 18, 12, 5, 63, 55, 48, 27, 60, 41, 37, 16, 46, 35, 44, 21, 52, 32, 23, 11, 54, 26, 40, 15, 34, 20, 31, 10, 25, 14, 19, 9, 13, 8, 7, 6]
structure Gl (w : World) : Prop where
  size : 7 ≤ w.heap.size
  tabs : Lib.Utf8Tabs 0 1 w
  pow : ∃ e fz, w.heap[2]? = some (.cells (Lib.pow10Tab.map (fun z => Value.int .u64 z)).toArray e fz)
  rng : ∃ tp q e fz, w.heap[4]? = some (.cells #[.iface tp q] e fz)
  syn : ∃ tp q e fz, w.heap[3]? = some (.cells #[.iface tp q] e fz)
  bru : ∃ e fz, w.heap[6]? = some (.cells (H9.map (fun z => Value.int .u8 z)).toArray e fz)
theorem Gl.same {w w' : World} {Ds : List Nat} (h : Gl w) (hs : Same Ds w w') (hd : ∀ b ∈ Ds, 7 ≤ b) : Gl w' := by
  have hb : ∀ b, b < 7 → w'.heap[b]? = w.heap[b]? := fun b hb => hs.block b (Nat.lt_of_lt_of_le hb h.size) (fun hi => by have := hd b hi; omega)
  refine ⟨Nat.le_trans h.size hs.size, ⟨fun c hc => ?_, fun i hi => ⟨?_, ?_⟩⟩, ?_, ?_, ?_, ?_⟩
  · rw [← h.tabs.1 c hc]; exact World.cell?_of_block (w := w) (hb 0 by_Om)
  · rw [← (h.tabs.2 i hi).1]; exact World.cell?_of_block (w := w) (hb 1 by_Om)
  · rw [← (h.tabs.2 i hi).2]; exact World.cell?_of_block (w := w) (hb 1 by_Om)
  · rw [hb 2 by_Om]; exact h.pow
  · rw [hb 4 by_Om]; exact h.rng
  · rw [hb 3 by_Om]; exact h.syn
  · rw [hb 6 by_Om]; exact h.bru
theorem Gl.ext {w w' : World} (h : Gl w) (hs : Same [] w w') : Gl w' := h.same hs Sa
theorem Gl.tabIs {w : World} (h : Gl w) : Lib.TabIs prog w "internal/strconv.uint64pow10" IntKind.u64 Lib.pow10Tab := by
  obtain ⟨e, fz, hh⟩ := h.pow
  have hg : prog.globalNamed "internal/strconv.uint64pow10" = some 2 := by kernel_rfl
  simp [Lib.TabIs, World.var?, hg, hh]
theorem Gl.err {w : World} (h : Gl w) : ∃ tp q, World.var? prog w "strconv.ErrRange" = some #[.iface tp q] := by
  obtain ⟨tp, q, e, fz, hh⟩ := h.rng
  have hg : prog.globalNamed "strconv.ErrRange" = some 4 := by kernel_rfl
  exact ⟨tp, q, by simp [World.var?, hg, hh]⟩
theorem Gl.serr {w : World} (h : Gl w) : ∃ tp q, World.var? prog w "strconv.ErrSyntax" = some #[.iface tp q] := by
  obtain ⟨tp, q, e, fz, hh⟩ := h.syn
  have hg : prog.globalNamed "strconv.ErrSyntax" = some 3 := by kernel_rfl
  exact ⟨tp, q, by simp [World.var?, hg, hh]⟩
theorem VE (w : World) (k : Nat) (os : Array Obj) : Same [] w (Go.Sort.grow (w.drewN k) os) :=
  ⟨rfl, rfl, rfl, by rw [Go.Sort.size_grow]; exact Nat.le_add_right _ _, fun b hb _ => Go.Sort.heap_grow_old (w.drewN k) os hb⟩
theorem M9 (n : Int) (h1 : -9223372036854775808 ≤ n) (h2 : n ≤ 9223372036854775807) {w : World} (hG : Gl w) : Calls prog 45 #[.int .i64 n] w (Ce fun v w' => v = .string (bs (Lib.itoa n)) ∧ Same [] w w') :=
  (strconv_Itoa n h1 h2 w hG.tabIs).mono fun e w' ⟨he, k, os, hw⟩ => ⟨_, he, rfl, by subst hw; exact VE w k os⟩
theorem NJ (x : Num) (hl : x.digits.length ≤ 140737488355328) (w0 : World) (hG : Gl w0) : Calls prog 20 #[Ml x] w0 (Ce fun v w' => v = .string (bs (Uk x)) ∧ Same [] w0 w') := by
 refine Ma func20 rfl ntmps20 Qb (Rc _) ?_
 have hF := FR.start w0 []
 refine Ha ?_
 refine Bh hF rfl ?_
 clear hF; rintro b1 w hb1 hF -
 refine Ca (Ld rfl) (Da (Ia (Ha (Uc (Bi isAgg49 sizeOf49 rfl hF.F 0 rfl rfl) ?_))))
 refine Va hF (W2 x hl _) (Ua HI rfl rfl) ?_
 clear hF; intro w hF
 refine Ca (Dm rfl) (Da ?_)
 refine Vh rfl rfl (fun hc0 => ?_) (fun hc0 => ?_)
 refine Ha (Ca (Ld rfl) (Da ?_))
 refine Ud (v := .string (bs [])) rfl rfl ?_
 refine ⟨?_, hF.same⟩
 simp_all [Uk]
 refine Ra (Ja (Ia (Ha (Ca (Fc Dj rfl) (Uc (Ko isAgg9 rfl hF.F 0 rfl rfl) (Ca (Mv rfl rfl) (Da ?_)))))))
 refine Bc rfl rfl (fun hc1 => ?_) (fun hc1 => ?_)
 refine Ha (Ca (Ld rfl) (Da ?_))
 refine Ud (v := .string (bs [48])) rfl rfl ?_
 refine ⟨?_, hF.same⟩
 simp_all [Uk]
 refine Ra (Ja (Ha (Ca (Fc Dj rfl) (Uc (Ko isAgg9 rfl hF.F 0 rfl rfl) (Ca (Ld rfl) (Da (Ia (Ha (Ca (Fc Ly rfl) (Uc (NO isAgg4 rfl hF.F 0 rfl rfl) ?_))))))))))
 refine Da ?_
 refine Vh rfl rfl (fun hc2 => ?_) (fun hc2 => ?_)
 refine Ga (Ca (Pc rfl) ?_)
 refine Fa (v := .string (bs (([45]) ++ (x.digits)))) (Tg rfl rfl (by simp; omega)) ?_
 refine Ca (Ld rfl) (Da (Ia (Ha (Ca (Fc Ih rfl) (Uc (Nm isAgg3 rfl hF.F 0 rfl rfl) (Ca (Vs rfl rfl) (Da ?_)))))))
 refine Bc rfl rfl (fun hc3 => ?_) (fun hc3 => ?_)
 refine Ga (Ca (Pc rfl) (Ca (Fc Ih rfl) (Uc (Nm isAgg3 rfl hF.F 0 rfl rfl) ?_)))
 refine Va hF (M9 x.exp (by have := Id (x := x) (by simpa using hc0); omega) (by have := Id (x := x) (by simpa using hc0); omega) (hG.ext hF.same)) (Ua TH rfl rfl) ?_
 clear hF; intro w hF
 refine Fa (v := .string (bs (([101]) ++ (Lib.itoa x.exp)))) (Tg rfl rfl (by have := Lib.itoa_length_le x.exp (by have := Id (x := x) (by simpa using hc0); omega) (by have := Id (x := x) (by simpa using hc0); omega); simp; omega)) ?_
 refine Fa (v := .string (bs ((([45]) ++ (x.digits)) ++ (([101]) ++ (Lib.itoa x.exp))))) (Tg rfl rfl (by have := Lib.itoa_length_le x.exp (by have := Id (x := x) (by simpa using hc0); omega) (by have := Id (x := x) (by simpa using hc0); omega); simp; omega)) ?_
 refine Ca (Ld rfl) (Yb (Ca (Pc rfl) (Ca (Ld rfl) (Da ?_))))
 refine Pb (Ob (Qa (Do (v := .string (bs ((([45]) ++ (x.digits)) ++ (([101]) ++ (Lib.itoa x.exp))))) rfl rfl) ?_))
 refine ⟨?_, hF.same⟩
 simp_all [Uk]
 refine Ra (Ja (Ha (Ca (Pc rfl) (Ca (Ld rfl) (Da ?_)))))
 refine Ud (v := .string (bs (([45]) ++ (x.digits)))) rfl rfl ?_
 refine ⟨?_, hF.same⟩
 simp_all [Uk]
 refine Ra (Ja (Ia (Ha (Ca (Fc Ih rfl) (Uc (Nm isAgg3 rfl hF.F 0 rfl rfl) (Ca (Vs rfl rfl) (Da ?_)))))))
 refine Bc rfl rfl (fun hc3 => ?_) (fun hc3 => ?_)
 refine Ga (Ca (Pc rfl) (Ca (Fc Ih rfl) (Uc (Nm isAgg3 rfl hF.F 0 rfl rfl) ?_)))
 refine Va hF (M9 x.exp (by have := Id (x := x) (by simpa using hc0); omega) (by have := Id (x := x) (by simpa using hc0); omega) (hG.ext hF.same)) (Ua TH rfl rfl) ?_
 clear hF; intro w hF
 refine Fa (v := .string (bs (([101]) ++ (Lib.itoa x.exp)))) (Tg rfl rfl (by have := Lib.itoa_length_le x.exp (by have := Id (x := x) (by simpa using hc0); omega) (by have := Id (x := x) (by simpa using hc0); omega); simp; omega)) ?_
 refine Fa (v := .string (bs ((x.digits) ++ (([101]) ++ (Lib.itoa x.exp))))) (Tg rfl rfl (by have := Lib.itoa_length_le x.exp (by have := Id (x := x) (by simpa using hc0); omega) (by have := Id (x := x) (by simpa using hc0); omega); simp; omega)) ?_
 refine Ca (Ld rfl) (Yb (Ca (Pc rfl) (Ca (Ld rfl) (Da ?_))))
 refine Pb (Ob (Qa (Do (v := .string (bs ((x.digits) ++ (([101]) ++ (Lib.itoa x.exp))))) rfl rfl) ?_))
 refine ⟨?_, hF.same⟩
 simp_all [Uk]
 refine Ra (Ja (Ha (Ca (Pc rfl) (Ca (Ld rfl) (Da ?_)))))
 refine Ud (v := .string (bs (x.digits))) rfl rfl ?_
 refine ⟨?_, hF.same⟩
 simp_all [Uk]
theorem EB (s at_ : Str) (hl : s.length ≤ 140737488355328) (w0 : World) : Calls prog 90 #[.string (bs s), .string (bs at_)] w0 (Ce fun v w' => v = .tuple #[.string (bs (Ta at_ s).1), .string (bs (Ta at_ s).2.1), .bool (Ta at_ s).2.2] ∧ Same [] w0 w') := by
 refine Ma func90 rfl ntmps90 Qb (Wd _ _) ?_
 have hF := FR.start w0 []
 refine Ha (Ca (Ld rfl) (Ca (Ld rfl) (Ca (Cc rfl) (Da (Ia (Ha (Ca (Pc rfl) (Ca (Hk underlying9 rfl) (Ca (Za rfl) (Cb ?_))))))))))
 refine Ja (Db ?_)
 refine Xc (fun μ σ w => ∃ (q : Nat), μ = s.length - q ∧ (q ≤ s.length) ∧ (∀ c ∈ s.take q, at_.contains c = false) ∧ AllEq σ [(0, .string (bs s)), (1, .string (bs at_)), (9, .int .i64 ((((s) : Str).length : Int))), (10, .int .i64 ((q : Int)))] ∧ FR w0 [] [] w) _ ⟨0, rfl, (Nat.zero_le _), Sa, An, hF⟩ ?_
 clear hF; rintro μ σ w ⟨q, rfl, hq, hno, hs, hF⟩
 refine Cg.slots hs ?_
 clear hs; intro σ
 refine Ha (Ca (Fj rfl rfl) (Da (Ia ?_)))
 refine Bc rfl rfl (fun hc0 => ?_) (fun hc0 => ?_)
 refine Ra (Ja (Ia (Db (Ha (Ca (Za rfl) (Ca (Kb rfl) (Yb (Ca (Pc rfl) (Ca (Pc rfl) ?_)))))))))
 refine Ca (Za rfl) (Fa (v := .int .u8 ((((s : Str)[q]'by_Om).toNat : Int))) (Fd (q) underlying9 rfl rfl by_Om) ?_)
 refine Va hF (W5 at_ _ _) (Pa FO rfl rfl rfl) ?_
 clear hF; intro w hF
 refine Ca (Zv rfl rfl) (Da ?_)
 refine Bc rfl rfl (fun hc1 => ?_) (fun hc1 => ?_)
 refine Ia ?_
 refine Ag (zs := []) (.free 0 (.free 1 (.free 2 (.free 3 (.free 4 (.free 5 (.free 6 (.free 7 (.free 8 (.free 9 .nil)))))))))) hF ?_
 clear hF; intro w hF
 refine Eb rfl (Pc rfl) (Eb rfl (Za rfl) (Ib rfl (v := .string (bs ((s : Str).take (q)))) (fun w hC => Vo (q) underlying9 rfl rfl by_Om) (Eb rfl (Pc rfl) (Eb rfl (Za rfl) (Eb rfl (Di (((q + 1 : Nat) : Int)) rfl rfl) (Ib rfl (v := .string (bs ((s : Str).drop (q + 1)))) (fun w hC => Gh (q + 1) underlying9 rfl rfl by_Om) (Eb rfl (Ld rfl) (Eb rfl (Ld rfl) (Eb rfl (Cc rfl) (Ic (Ja ?_)))))))))))
 refine Pb (Ob (Qa (SN (v := .string (bs ((s : Str).take (q)))) (x := .string (bs ((s : Str).drop (q + 1)))) (y := .bool true) rfl rfl rfl rfl) ?_))
 exact ⟨by rw [Hw by_Om hno (Cw hc1)], hF.same⟩
 refine Ra (Wb (Ja (Ga (Ca (El rfl rfl) (Ca (Za rfl) (Cb ?_))))))
 refine Gb ⟨_, ?_, q + 1, rfl, by_Om, (Uu by_Om hno (Q0 hc1)), An, hF⟩
 omega
 refine Oc (Nc rfl ?_)
 refine Ja (Ha (Ca (Pc rfl) (Ca (Ld rfl) (Ca (Ld rfl) (Ca (Cc rfl) (Da ?_))))))
 refine Pb (Ob (Qa (SN (v := .string (bs s)) (x := .string (bs [])) (y := .bool false) rfl rfl rfl rfl) ?_))
 have e : s.take q = s := List.take_of_length_le by_Om
 rw [e] at hno
 exact ⟨by rw [Qw hno], hF.same⟩
theorem BO (s : Str) (hl : s.length ≤ 140737488355328) (w0 : World) : Calls prog 72 #[.string (bs s)] w0 (Ce fun v w' => v = .tuple #[Qo (Ub s).1, .bool (Ub s).2] ∧ Same [] w0 w') := by
 refine Ma func72 rfl ntmps72 Qb (Rc _) ?_
 have hF := FR.start w0 []
 refine Ha ?_
 refine Af (cs := #[.bool false, .bool false, .string (bs []), .string (bs []), .string (bs [])]) hF zeroValue99 rfl ?_
 clear hF; rintro b1 w hb1 hF -
 refine Ca (Cc rfl) (Yb (Ca (Pc rfl) ?_))
 refine Va hF (Hx s [45] _) (Pa YN rfl rfl rfl) ?_
 clear hF; intro w hF
 refine Ca (Qg rfl) (Ca (M1 rfl rfl) (Ca (Xs rfl rfl) (Ca (Ld rfl) (Ca (Fc NC rfl) ?_))))
 refine Dp (.bool _) hF sizeOf4 rfl rfl Dl Dl ?_
 clear hF; rintro w hF -
 refine Yb (Ca (Pc rfl) ?_)
 refine Va hF (EB (Lib.trimPrefix s [45]) [101, 69] (by have := Dh s [45]; have := Rf [101, 69] (Lib.trimPrefix s [45]); omega) _) (Pa LC rfl rfl rfl) ?_
 clear hF; intro w hF
 refine Ca (Qg rfl) (Ca (M1 rfl rfl) (Ca (M1 rfl rfl) (Ca (Xs rfl rfl) (Ca (Ld rfl) (Ca (Ld rfl) (Ca (Cc rfl) (Da (Ia (Ha (Ca (Jc rfl) (Cb ?_)))))))))))
 refine Ja ?_
 refine Vh rfl rfl (fun hc0 => ?_) (fun hc0 => ?_)
 refine Ha (Ca (Pc rfl) ?_)
 refine Va hF (Hx ((Ta [101, 69] (Lib.trimPrefix s [45])).2.1) [45] _) (Pa YN rfl rfl rfl) ?_
 clear hF; intro w hF
 refine Ca (Qg rfl) (Ca (M1 rfl rfl) (Ca (Xs rfl rfl) (Ca (Ld rfl) (Ca (Fc R3 rfl) ?_))))
 refine Dp (.bool _) hF sizeOf4 rfl rfl Dl Y1 ?_
 clear hF; rintro w hF -
 refine Da (Ia (Ha (Ca (Fc R3 rfl) (Uc (NO isAgg4 rfl hF.F 0 rfl rfl) (Ca (Dm rfl) (Da ?_))))))
 refine Vh rfl rfl (fun hc1 => ?_) (fun hc1 => ?_)
 refine Ga (Ca (Pc rfl) ?_)
 refine Va hF (S4 (Lib.trimPrefix ((Ta [101, 69] (Lib.trimPrefix s [45])).2.1) [45]) [43] _) (Pa PR rfl rfl rfl) ?_
 clear hF; intro w hF
 refine Ca (Ld rfl) (Yb (Ca (Pc rfl) ?_))
 refine Va hF (Xk (Lib.trimPrefix (Lib.trimPrefix ((Ta [101, 69] (Lib.trimPrefix s [45])).2.1) [45]) [43]) _) (Ua Eu rfl rfl) ?_
 clear hF; intro w hF
 refine Ca (Dm rfl) (Da ?_)
 refine Vh rfl rfl (fun hc2 => ?_) (fun hc2 => ?_)
 refine Ha (Uc (Bi isAgg99 sizeOf99 rfl hF.F 0 rfl rfl) ?_)
 refine Ij hF sizeOf99 rfl rfl Dl ?_
 clear hF; rintro w hF -
 refine Ca (Cc rfl) (Da ?_)
 refine Pb (Ob (Qa (Ie rfl (l := [.bool (Lib.hasPrefix s [45]), .bool (Lib.hasPrefix ((Ta [101, 69] (Lib.trimPrefix s [45])).2.1) [45]), .string (bs []), .string (bs []), .string (bs [])]) rfl isAgg99 sizeOf99 rfl (hF.cellsAll 0 rfl) (v := .bool false) rfl) ?_))
 refine ⟨?_, hF.same⟩
 simp_all [Ub, Oe, Qo, Uh]
 refine Ra (Ja (Ha (Ca (Pc rfl) (Ca (Fc Dy rfl) ?_))))
 refine Dp (.string _) hF sizeOf9 rfl rfl Dl ET ?_
 clear hF; rintro w hF -
 refine Yb (Ca (Pc rfl) ?_)
 refine Va hF (EB ((Ta [101, 69] (Lib.trimPrefix s [45])).1) [46] (by have := Dh s [45]; have := Rf [101, 69] (Lib.trimPrefix s [45]); omega) _) (Pa LC rfl rfl rfl) ?_
 clear hF; intro w hF
 refine Ca (Qg rfl) (Ca (M1 rfl rfl) (Ca (M1 rfl rfl) (Ca (Xs rfl rfl) (Ca (Ld rfl) (Ca (Ld rfl) (Ca (Cc rfl) (Yb (Ca (Pc rfl) (Ca (Pc rfl) (Ca (Fc Jv rfl) ?_))))))))))
 refine Dp (.string _) hF sizeOf9 rfl rfl Dl UM ?_
 clear hF; rintro w hF -
 refine Ca (Fc Rr rfl) ?_
 refine Dp (.string _) hF sizeOf9 rfl rfl Dl NQ ?_
 clear hF; rintro w hF -
 refine Da (Ia (Ha (Ca (Pc rfl) ?_)))
 refine Va hF (Xk ((Ta [46] ((Ta [101, 69] (Lib.trimPrefix s [45])).1)).1) _) (Ua Eu rfl rfl) ?_
 clear hF; intro w hF
 refine Ca (Dm rfl) (Ca (Jc rfl) ?_)
 refine Qe (d := 52) rfl (fun hg0 => ?_) (fun hg0 => ?_)
 refine Ea (Ea (Ea (Ea (Ea (Ea (Ca (Lc rfl rfl) (Da (Qd rfl (Ha (Uc (Bi isAgg99 sizeOf99 rfl hF.F 0 rfl rfl) ?_))))))))))
 refine Ij hF sizeOf99 rfl rfl Dl ?_
 clear hF; rintro w hF -
 refine Ca (Cc rfl) (Da ?_)
 refine Pb (Ob (Qa (Ie rfl (l := [.bool (Lib.hasPrefix s [45]), .bool (Lib.hasPrefix ((Ta [101, 69] (Lib.trimPrefix s [45])).2.1) [45]), .string (bs ((Ta [46] ((Ta [101, 69] (Lib.trimPrefix s [45])).1)).1)), .string (bs ((Ta [46] ((Ta [101, 69] (Lib.trimPrefix s [45])).1)).2.1)), .string (bs (Lib.trimPrefix (Lib.trimPrefix ((Ta [101, 69] (Lib.trimPrefix s [45])).2.1) [45]) [43]))]) rfl isAgg99 sizeOf99 rfl (hF.cellsAll 0 rfl) (v := .bool false) rfl) ?_))
 refine ⟨?_, hF.same⟩
 simp_all [Ub, Oe, Qo, Uh]
 refine Ca (Jc rfl) (Ca (Jc rfl) ?_)
 refine Qe (d := 54) rfl (fun hg1 => ?_) (fun hg1 => ?_)
 refine Ca (Pc rfl) ?_
 refine Va hF (Xk ((Ta [46] ((Ta [101, 69] (Lib.trimPrefix s [45])).1)).2.1) _) (Ua Eu rfl rfl) ?_
 clear hF; intro w hF
 refine Ca (Dm rfl) (Ca (Lc rfl rfl) (Ca (Dc rfl rfl) (Da ?_)))
 refine Vh rfl rfl (fun hc3 => ?_) (fun hc3 => ?_)
 refine Ha (Uc (Bi isAgg99 sizeOf99 rfl hF.F 0 rfl rfl) ?_)
 refine Ij hF sizeOf99 rfl rfl Dl ?_
 clear hF; rintro w hF -
 refine Ca (Cc rfl) (Da ?_)
 refine Pb (Ob (Qa (Ie rfl (l := [.bool (Lib.hasPrefix s [45]), .bool (Lib.hasPrefix ((Ta [101, 69] (Lib.trimPrefix s [45])).2.1) [45]), .string (bs ((Ta [46] ((Ta [101, 69] (Lib.trimPrefix s [45])).1)).1)), .string (bs ((Ta [46] ((Ta [101, 69] (Lib.trimPrefix s [45])).1)).2.1)), .string (bs (Lib.trimPrefix (Lib.trimPrefix ((Ta [101, 69] (Lib.trimPrefix s [45])).2.1) [45]) [43]))]) rfl isAgg99 sizeOf99 rfl (hF.cellsAll 0 rfl) (v := .bool false) rfl) ?_))
 refine ⟨?_, hF.same⟩
 simp_all [Ub, Oe, Qo, Uh]
 refine Ra (Ja (Ia ?_))
 refine Ag (zs := []) (.free 0 (.free 1 (.free 2 (.free 3 (.free 4 (.free 5 (.free 6 (.free 7 (.act 8 (.free 9 .nil)))))))))) hF ?_
 clear hF; intro w hF
 refine Bk rfl (Bi isAgg99 sizeOf99 rfl C0 0 rfl rfl) (Eb rfl (Pc rfl) (Eb rfl (Mv rfl rfl) (Eb rfl (Jc rfl) ?_)))
 refine Jk (d := 64) rfl (fun hg2 => ?_) (fun hg2 => ?_)
 refine Kg rfl ?_
 refine Kg rfl ?_
 refine Kg rfl ?_
 refine Eb rfl (Lc rfl rfl) ?_
 refine Hs rfl hF sizeOf99 rfl rfl Dl ?_
 clear hF; rintro w hF -
 refine ⟨hF, ?_⟩
 refine Eb rfl (Cc rfl) (Ic (Ja ?_))
 refine Pb (Ob (Qa (Ie rfl (l := [.bool (Lib.hasPrefix s [45]), .bool (Lib.hasPrefix ((Ta [101, 69] (Lib.trimPrefix s [45])).2.1) [45]), .string (bs ((Ta [46] ((Ta [101, 69] (Lib.trimPrefix s [45])).1)).1)), .string (bs ((Ta [46] ((Ta [101, 69] (Lib.trimPrefix s [45])).1)).2.1)), .string (bs (Lib.trimPrefix (Lib.trimPrefix ((Ta [101, 69] (Lib.trimPrefix s [45])).2.1) [45]) [43]))]) rfl isAgg99 sizeOf99 rfl (hF.cellsAll 0 rfl) (v := .bool true) rfl) ?_))
 refine ⟨?_, hF.same⟩
 simp_all [Ub, Oe, Qo, Uh]
 refine Eb rfl (Pc rfl) ?_
 have hpos := List.length_pos_iff.2 (Mg (s := (Ta [46] (Ta [101, 69] (Lib.trimPrefix s [45])).1).1) (by simp_all))
 refine Ib rfl (v := .int .u8 (((((Ta [46] ((Ta [101, 69] (Lib.trimPrefix s [45])).1)).1 : Str)[0]'(hpos)).toNat : Int))) (fun w hC => Fd (0) underlying9 rfl rfl (hpos)) (Eb rfl (Vs rfl rfl) (Eb rfl (Dc rfl rfl) ?_))
 refine Hs rfl hF sizeOf99 rfl rfl Dl ?_
 clear hF; rintro w hF -
 refine ⟨hF, ?_⟩
 refine Eb rfl (Cc rfl) (Ic (Ja ?_))
 refine Pb (Ob (Qa (Ie rfl (l := [.bool (Lib.hasPrefix s [45]), .bool (Lib.hasPrefix ((Ta [101, 69] (Lib.trimPrefix s [45])).2.1) [45]), .string (bs ((Ta [46] ((Ta [101, 69] (Lib.trimPrefix s [45])).1)).1)), .string (bs ((Ta [46] ((Ta [101, 69] (Lib.trimPrefix s [45])).1)).2.1)), .string (bs (Lib.trimPrefix (Lib.trimPrefix ((Ta [101, 69] (Lib.trimPrefix s [45])).2.1) [45]) [43]))]) rfl isAgg99 sizeOf99 rfl (hF.cellsAll 0 rfl) (v := .bool (decide ((((((Ta [46] ((Ta [101, 69] (Lib.trimPrefix s [45])).1)).1 : Str)[0]'(hpos)).toNat : Int) : Int) ≠ (48 : Int)))) rfl) ?_))
 refine ⟨?_, hF.same⟩
 simp_all [Ub, Oe, Qo, Uh]
 refine Ea (Ea (Ea (Ca (Dc rfl rfl) (Ca (Dc rfl rfl) (Da (Ni rfl (Ia ?_)))))))
 refine Ag (zs := []) (.free 0 (.free 1 (.free 2 (.free 3 (.free 4 (.free 5 (.free 6 (.free 7 (.act 8 (.free 9 .nil)))))))))) hF ?_
 clear hF; intro w hF
 refine Bk rfl (Bi isAgg99 sizeOf99 rfl C0 0 rfl rfl) (Eb rfl (Pc rfl) (Eb rfl (Mv rfl rfl) (Eb rfl (Jc rfl) ?_)))
 refine Jk (d := 64) rfl (fun hg3 => ?_) (fun hg3 => ?_)
 refine Kg rfl ?_
 refine Kg rfl ?_
 refine Kg rfl ?_
 refine Eb rfl (Lc rfl rfl) ?_
 refine Hs rfl hF sizeOf99 rfl rfl Dl ?_
 clear hF; rintro w hF -
 refine ⟨hF, ?_⟩
 refine Eb rfl (Cc rfl) (Ic (Ja ?_))
 refine Pb (Ob (Qa (Ie rfl (l := [.bool (Lib.hasPrefix s [45]), .bool (Lib.hasPrefix ((Ta [101, 69] (Lib.trimPrefix s [45])).2.1) [45]), .string (bs ((Ta [46] ((Ta [101, 69] (Lib.trimPrefix s [45])).1)).1)), .string (bs ((Ta [46] ((Ta [101, 69] (Lib.trimPrefix s [45])).1)).2.1)), .string (bs (Lib.trimPrefix (Lib.trimPrefix ((Ta [101, 69] (Lib.trimPrefix s [45])).2.1) [45]) [43]))]) rfl isAgg99 sizeOf99 rfl (hF.cellsAll 0 rfl) (v := .bool true) rfl) ?_))
 refine ⟨?_, hF.same⟩
 simp_all [Ub, Oe, Qo, Uh]
 refine Eb rfl (Pc rfl) ?_
 have hpos := List.length_pos_iff.2 (Mg (s := (Ta [46] (Ta [101, 69] (Lib.trimPrefix s [45])).1).1) (by simp_all))
 refine Ib rfl (v := .int .u8 (((((Ta [46] ((Ta [101, 69] (Lib.trimPrefix s [45])).1)).1 : Str)[0]'(hpos)).toNat : Int))) (fun w hC => Fd (0) underlying9 rfl rfl (hpos)) (Eb rfl (Vs rfl rfl) (Eb rfl (Dc rfl rfl) ?_))
 refine Hs rfl hF sizeOf99 rfl rfl Dl ?_
 clear hF; rintro w hF -
 refine ⟨hF, ?_⟩
 refine Eb rfl (Cc rfl) (Ic (Ja ?_))
 refine Pb (Ob (Qa (Ie rfl (l := [.bool (Lib.hasPrefix s [45]), .bool (Lib.hasPrefix ((Ta [101, 69] (Lib.trimPrefix s [45])).2.1) [45]), .string (bs ((Ta [46] ((Ta [101, 69] (Lib.trimPrefix s [45])).1)).1)), .string (bs ((Ta [46] ((Ta [101, 69] (Lib.trimPrefix s [45])).1)).2.1)), .string (bs (Lib.trimPrefix (Lib.trimPrefix ((Ta [101, 69] (Lib.trimPrefix s [45])).2.1) [45]) [43]))]) rfl isAgg99 sizeOf99 rfl (hF.cellsAll 0 rfl) (v := .bool (decide ((((((Ta [46] ((Ta [101, 69] (Lib.trimPrefix s [45])).1)).1 : Str)[0]'(hpos)).toNat : Int) : Int) ≠ (48 : Int)))) rfl) ?_))
 refine ⟨?_, hF.same⟩
 simp_all [Ub, Oe, Qo, Uh]
 refine Ra (Ja (Ha (Ca (Pc rfl) ?_)))
 refine Va hF (Xk (Lib.trimPrefix ((Ta [101, 69] (Lib.trimPrefix s [45])).2.1) [45]) _) (Ua Eu rfl rfl) ?_
 clear hF; intro w hF
 refine Ca (Dm rfl) (Da ?_)
 refine Vh rfl rfl (fun hc2 => ?_) (fun hc2 => ?_)
 refine Ha (Uc (Bi isAgg99 sizeOf99 rfl hF.F 0 rfl rfl) ?_)
 refine Ij hF sizeOf99 rfl rfl Dl ?_
 clear hF; rintro w hF -
 refine Ca (Cc rfl) (Da ?_)
 refine Pb (Ob (Qa (Ie rfl (l := [.bool (Lib.hasPrefix s [45]), .bool (Lib.hasPrefix ((Ta [101, 69] (Lib.trimPrefix s [45])).2.1) [45]), .string (bs []), .string (bs []), .string (bs [])]) rfl isAgg99 sizeOf99 rfl (hF.cellsAll 0 rfl) (v := .bool false) rfl) ?_))
 refine ⟨?_, hF.same⟩
 simp_all [Ub, Oe, Qo, Uh]
 refine Ra (Ja (Ha (Ca (Pc rfl) (Ca (Fc Dy rfl) ?_))))
 refine Dp (.string _) hF sizeOf9 rfl rfl Dl ET ?_
 clear hF; rintro w hF -
 refine Yb (Ca (Pc rfl) ?_)
 refine Va hF (EB ((Ta [101, 69] (Lib.trimPrefix s [45])).1) [46] (by have := Dh s [45]; have := Rf [101, 69] (Lib.trimPrefix s [45]); omega) _) (Pa LC rfl rfl rfl) ?_
 clear hF; intro w hF
 refine Ca (Qg rfl) (Ca (M1 rfl rfl) (Ca (M1 rfl rfl) (Ca (Xs rfl rfl) (Ca (Ld rfl) (Ca (Ld rfl) (Ca (Cc rfl) (Yb (Ca (Pc rfl) (Ca (Pc rfl) (Ca (Fc Jv rfl) ?_))))))))))
 refine Dp (.string _) hF sizeOf9 rfl rfl Dl UM ?_
 clear hF; rintro w hF -
 refine Ca (Fc Rr rfl) ?_
 refine Dp (.string _) hF sizeOf9 rfl rfl Dl NQ ?_
 clear hF; rintro w hF -
 refine Da (Ia (Ha (Ca (Pc rfl) ?_)))
 refine Va hF (Xk ((Ta [46] ((Ta [101, 69] (Lib.trimPrefix s [45])).1)).1) _) (Ua Eu rfl rfl) ?_
 clear hF; intro w hF
 refine Ca (Dm rfl) (Ca (Jc rfl) ?_)
 refine Qe (d := 52) rfl (fun hg4 => ?_) (fun hg4 => ?_)
 refine Ea (Ea (Ea (Ea (Ea (Ea (Ca (Lc rfl rfl) (Da (Qd rfl (Ha (Uc (Bi isAgg99 sizeOf99 rfl hF.F 0 rfl rfl) ?_))))))))))
 refine Ij hF sizeOf99 rfl rfl Dl ?_
 clear hF; rintro w hF -
 refine Ca (Cc rfl) (Da ?_)
 refine Pb (Ob (Qa (Ie rfl (l := [.bool (Lib.hasPrefix s [45]), .bool (Lib.hasPrefix ((Ta [101, 69] (Lib.trimPrefix s [45])).2.1) [45]), .string (bs ((Ta [46] ((Ta [101, 69] (Lib.trimPrefix s [45])).1)).1)), .string (bs ((Ta [46] ((Ta [101, 69] (Lib.trimPrefix s [45])).1)).2.1)), .string (bs (Lib.trimPrefix ((Ta [101, 69] (Lib.trimPrefix s [45])).2.1) [45]))]) rfl isAgg99 sizeOf99 rfl (hF.cellsAll 0 rfl) (v := .bool false) rfl) ?_))
 refine ⟨?_, hF.same⟩
 simp_all [Ub, Oe, Qo, Uh]
 refine Ca (Jc rfl) (Ca (Jc rfl) ?_)
 refine Qe (d := 54) rfl (fun hg5 => ?_) (fun hg5 => ?_)
 refine Ca (Pc rfl) ?_
 refine Va hF (Xk ((Ta [46] ((Ta [101, 69] (Lib.trimPrefix s [45])).1)).2.1) _) (Ua Eu rfl rfl) ?_
 clear hF; intro w hF
 refine Ca (Dm rfl) (Ca (Lc rfl rfl) (Ca (Dc rfl rfl) (Da ?_)))
 refine Vh rfl rfl (fun hc3 => ?_) (fun hc3 => ?_)
 refine Ha (Uc (Bi isAgg99 sizeOf99 rfl hF.F 0 rfl rfl) ?_)
 refine Ij hF sizeOf99 rfl rfl Dl ?_
 clear hF; rintro w hF -
 refine Ca (Cc rfl) (Da ?_)
 refine Pb (Ob (Qa (Ie rfl (l := [.bool (Lib.hasPrefix s [45]), .bool (Lib.hasPrefix ((Ta [101, 69] (Lib.trimPrefix s [45])).2.1) [45]), .string (bs ((Ta [46] ((Ta [101, 69] (Lib.trimPrefix s [45])).1)).1)), .string (bs ((Ta [46] ((Ta [101, 69] (Lib.trimPrefix s [45])).1)).2.1)), .string (bs (Lib.trimPrefix ((Ta [101, 69] (Lib.trimPrefix s [45])).2.1) [45]))]) rfl isAgg99 sizeOf99 rfl (hF.cellsAll 0 rfl) (v := .bool false) rfl) ?_))
 refine ⟨?_, hF.same⟩
 simp_all [Ub, Oe, Qo, Uh]
 refine Ra (Ja (Ia ?_))
 refine Ag (zs := []) (.free 0 (.free 1 (.free 2 (.free 3 (.free 4 (.free 5 (.free 6 (.free 7 (.act 8 (.free 9 .nil)))))))))) hF ?_
 clear hF; intro w hF
 refine Bk rfl (Bi isAgg99 sizeOf99 rfl C0 0 rfl rfl) (Eb rfl (Pc rfl) (Eb rfl (Mv rfl rfl) (Eb rfl (Jc rfl) ?_)))
 refine Jk (d := 64) rfl (fun hg6 => ?_) (fun hg6 => ?_)
 refine Kg rfl ?_
 refine Kg rfl ?_
 refine Kg rfl ?_
 refine Eb rfl (Lc rfl rfl) ?_
 refine Hs rfl hF sizeOf99 rfl rfl Dl ?_
 clear hF; rintro w hF -
 refine ⟨hF, ?_⟩
 refine Eb rfl (Cc rfl) (Ic (Ja ?_))
 refine Pb (Ob (Qa (Ie rfl (l := [.bool (Lib.hasPrefix s [45]), .bool (Lib.hasPrefix ((Ta [101, 69] (Lib.trimPrefix s [45])).2.1) [45]), .string (bs ((Ta [46] ((Ta [101, 69] (Lib.trimPrefix s [45])).1)).1)), .string (bs ((Ta [46] ((Ta [101, 69] (Lib.trimPrefix s [45])).1)).2.1)), .string (bs (Lib.trimPrefix ((Ta [101, 69] (Lib.trimPrefix s [45])).2.1) [45]))]) rfl isAgg99 sizeOf99 rfl (hF.cellsAll 0 rfl) (v := .bool true) rfl) ?_))
 refine ⟨?_, hF.same⟩
 simp_all [Ub, Oe, Qo, Uh]
 refine Eb rfl (Pc rfl) ?_
 have hpos := List.length_pos_iff.2 (Mg (s := (Ta [46] (Ta [101, 69] (Lib.trimPrefix s [45])).1).1) (by simp_all))
 refine Ib rfl (v := .int .u8 (((((Ta [46] ((Ta [101, 69] (Lib.trimPrefix s [45])).1)).1 : Str)[0]'(hpos)).toNat : Int))) (fun w hC => Fd (0) underlying9 rfl rfl (hpos)) (Eb rfl (Vs rfl rfl) (Eb rfl (Dc rfl rfl) ?_))
 refine Hs rfl hF sizeOf99 rfl rfl Dl ?_
 clear hF; rintro w hF -
 refine ⟨hF, ?_⟩
 refine Eb rfl (Cc rfl) (Ic (Ja ?_))
 refine Pb (Ob (Qa (Ie rfl (l := [.bool (Lib.hasPrefix s [45]), .bool (Lib.hasPrefix ((Ta [101, 69] (Lib.trimPrefix s [45])).2.1) [45]), .string (bs ((Ta [46] ((Ta [101, 69] (Lib.trimPrefix s [45])).1)).1)), .string (bs ((Ta [46] ((Ta [101, 69] (Lib.trimPrefix s [45])).1)).2.1)), .string (bs (Lib.trimPrefix ((Ta [101, 69] (Lib.trimPrefix s [45])).2.1) [45]))]) rfl isAgg99 sizeOf99 rfl (hF.cellsAll 0 rfl) (v := .bool (decide ((((((Ta [46] ((Ta [101, 69] (Lib.trimPrefix s [45])).1)).1 : Str)[0]'(hpos)).toNat : Int) : Int) ≠ (48 : Int)))) rfl) ?_))
 refine ⟨?_, hF.same⟩
 simp_all [Ub, Oe, Qo, Uh]
 refine Ea (Ea (Ea (Ca (Dc rfl rfl) (Ca (Dc rfl rfl) (Da (Ni rfl (Ia ?_)))))))
 refine Ag (zs := []) (.free 0 (.free 1 (.free 2 (.free 3 (.free 4 (.free 5 (.free 6 (.free 7 (.act 8 (.free 9 .nil)))))))))) hF ?_
 clear hF; intro w hF
 refine Bk rfl (Bi isAgg99 sizeOf99 rfl C0 0 rfl rfl) (Eb rfl (Pc rfl) (Eb rfl (Mv rfl rfl) (Eb rfl (Jc rfl) ?_)))
 refine Jk (d := 64) rfl (fun hg7 => ?_) (fun hg7 => ?_)
 refine Kg rfl ?_
 refine Kg rfl ?_
 refine Kg rfl ?_
 refine Eb rfl (Lc rfl rfl) ?_
 refine Hs rfl hF sizeOf99 rfl rfl Dl ?_
 clear hF; rintro w hF -
 refine ⟨hF, ?_⟩
 refine Eb rfl (Cc rfl) (Ic (Ja ?_))
 refine Pb (Ob (Qa (Ie rfl (l := [.bool (Lib.hasPrefix s [45]), .bool (Lib.hasPrefix ((Ta [101, 69] (Lib.trimPrefix s [45])).2.1) [45]), .string (bs ((Ta [46] ((Ta [101, 69] (Lib.trimPrefix s [45])).1)).1)), .string (bs ((Ta [46] ((Ta [101, 69] (Lib.trimPrefix s [45])).1)).2.1)), .string (bs (Lib.trimPrefix ((Ta [101, 69] (Lib.trimPrefix s [45])).2.1) [45]))]) rfl isAgg99 sizeOf99 rfl (hF.cellsAll 0 rfl) (v := .bool true) rfl) ?_))
 refine ⟨?_, hF.same⟩
 simp_all [Ub, Oe, Qo, Uh]
 refine Eb rfl (Pc rfl) ?_
 have hpos := List.length_pos_iff.2 (Mg (s := (Ta [46] (Ta [101, 69] (Lib.trimPrefix s [45])).1).1) (by simp_all))
 refine Ib rfl (v := .int .u8 (((((Ta [46] ((Ta [101, 69] (Lib.trimPrefix s [45])).1)).1 : Str)[0]'(hpos)).toNat : Int))) (fun w hC => Fd (0) underlying9 rfl rfl (hpos)) (Eb rfl (Vs rfl rfl) (Eb rfl (Dc rfl rfl) ?_))
 refine Hs rfl hF sizeOf99 rfl rfl Dl ?_
 clear hF; rintro w hF -
 refine ⟨hF, ?_⟩
 refine Eb rfl (Cc rfl) (Ic (Ja ?_))
 refine Pb (Ob (Qa (Ie rfl (l := [.bool (Lib.hasPrefix s [45]), .bool (Lib.hasPrefix ((Ta [101, 69] (Lib.trimPrefix s [45])).2.1) [45]), .string (bs ((Ta [46] ((Ta [101, 69] (Lib.trimPrefix s [45])).1)).1)), .string (bs ((Ta [46] ((Ta [101, 69] (Lib.trimPrefix s [45])).1)).2.1)), .string (bs (Lib.trimPrefix ((Ta [101, 69] (Lib.trimPrefix s [45])).2.1) [45]))]) rfl isAgg99 sizeOf99 rfl (hF.cellsAll 0 rfl) (v := .bool (decide ((((((Ta [46] ((Ta [101, 69] (Lib.trimPrefix s [45])).1)).1 : Str)[0]'(hpos)).toNat : Int) : Int) ≠ (48 : Int)))) rfl) ?_))
 refine ⟨?_, hF.same⟩
 simp_all [Ub, Oe, Qo, Uh]
 refine Ra (Ja (Ha (Ca (Pc rfl) (Ca (Fc Dy rfl) ?_))))
 refine Dp (.string _) hF sizeOf9 rfl rfl Dl ET ?_
 clear hF; rintro w hF -
 refine Yb (Ca (Pc rfl) ?_)
 refine Va hF (EB ((Ta [101, 69] (Lib.trimPrefix s [45])).1) [46] (by have := Dh s [45]; have := Rf [101, 69] (Lib.trimPrefix s [45]); omega) _) (Pa LC rfl rfl rfl) ?_
 clear hF; intro w hF
 refine Ca (Qg rfl) (Ca (M1 rfl rfl) (Ca (M1 rfl rfl) (Ca (Xs rfl rfl) (Ca (Ld rfl) (Ca (Ld rfl) (Ca (Cc rfl) (Yb (Ca (Pc rfl) (Ca (Pc rfl) (Ca (Fc Jv rfl) ?_))))))))))
 refine Dp (.string _) hF sizeOf9 rfl rfl Dl UM ?_
 clear hF; rintro w hF -
 refine Ca (Fc Rr rfl) ?_
 refine Dp (.string _) hF sizeOf9 rfl rfl Dl NQ ?_
 clear hF; rintro w hF -
 refine Da (Ia (Ha (Ca (Pc rfl) ?_)))
 refine Va hF (Xk ((Ta [46] ((Ta [101, 69] (Lib.trimPrefix s [45])).1)).1) _) (Ua Eu rfl rfl) ?_
 clear hF; intro w hF
 refine Ca (Dm rfl) (Ca (Jc rfl) ?_)
 refine Qe (d := 52) rfl (fun hg8 => ?_) (fun hg8 => ?_)
 refine Ea (Ea (Ea (Ea (Ea (Ea (Ca (Lc rfl rfl) (Da (Qd rfl (Ha (Uc (Bi isAgg99 sizeOf99 rfl hF.F 0 rfl rfl) ?_))))))))))
 refine Ij hF sizeOf99 rfl rfl Dl ?_
 clear hF; rintro w hF -
 refine Ca (Cc rfl) (Da ?_)
 refine Pb (Ob (Qa (Ie rfl (l := [.bool (Lib.hasPrefix s [45]), .bool false, .string (bs ((Ta [46] ((Ta [101, 69] (Lib.trimPrefix s [45])).1)).1)), .string (bs ((Ta [46] ((Ta [101, 69] (Lib.trimPrefix s [45])).1)).2.1)), .string (bs ((Ta [101, 69] (Lib.trimPrefix s [45])).2.1))]) rfl isAgg99 sizeOf99 rfl (hF.cellsAll 0 rfl) (v := .bool false) rfl) ?_))
 refine ⟨?_, hF.same⟩
 simp_all [Ub, Oe, Qo, Uh]
 refine Ca (Jc rfl) (Ca (Jc rfl) ?_)
 refine Qe (d := 54) rfl (fun hg9 => ?_) (fun hg9 => ?_)
 refine Ca (Pc rfl) ?_
 refine Va hF (Xk ((Ta [46] ((Ta [101, 69] (Lib.trimPrefix s [45])).1)).2.1) _) (Ua Eu rfl rfl) ?_
 clear hF; intro w hF
 refine Ca (Dm rfl) (Ca (Lc rfl rfl) (Ca (Dc rfl rfl) (Da ?_)))
 refine Vh rfl rfl (fun hc3 => ?_) (fun hc3 => ?_)
 refine Ha (Uc (Bi isAgg99 sizeOf99 rfl hF.F 0 rfl rfl) ?_)
 refine Ij hF sizeOf99 rfl rfl Dl ?_
 clear hF; rintro w hF -
 refine Ca (Cc rfl) (Da ?_)
 refine Pb (Ob (Qa (Ie rfl (l := [.bool (Lib.hasPrefix s [45]), .bool false, .string (bs ((Ta [46] ((Ta [101, 69] (Lib.trimPrefix s [45])).1)).1)), .string (bs ((Ta [46] ((Ta [101, 69] (Lib.trimPrefix s [45])).1)).2.1)), .string (bs ((Ta [101, 69] (Lib.trimPrefix s [45])).2.1))]) rfl isAgg99 sizeOf99 rfl (hF.cellsAll 0 rfl) (v := .bool false) rfl) ?_))
 refine ⟨?_, hF.same⟩
 simp_all [Ub, Oe, Qo, Uh]
 refine Ra (Ja (Ia ?_))
 refine Ag (zs := []) (.free 0 (.free 1 (.free 2 (.free 3 (.free 4 (.free 5 (.free 6 (.free 7 (.act 8 (.free 9 .nil)))))))))) hF ?_
 clear hF; intro w hF
 refine Bk rfl (Bi isAgg99 sizeOf99 rfl C0 0 rfl rfl) (Eb rfl (Pc rfl) (Eb rfl (Mv rfl rfl) (Eb rfl (Jc rfl) ?_)))
 refine Jk (d := 64) rfl (fun hg10 => ?_) (fun hg10 => ?_)
 refine Kg rfl ?_
 refine Kg rfl ?_
 refine Kg rfl ?_
 refine Eb rfl (Lc rfl rfl) ?_
 refine Hs rfl hF sizeOf99 rfl rfl Dl ?_
 clear hF; rintro w hF -
 refine ⟨hF, ?_⟩
 refine Eb rfl (Cc rfl) (Ic (Ja ?_))
 refine Pb (Ob (Qa (Ie rfl (l := [.bool (Lib.hasPrefix s [45]), .bool false, .string (bs ((Ta [46] ((Ta [101, 69] (Lib.trimPrefix s [45])).1)).1)), .string (bs ((Ta [46] ((Ta [101, 69] (Lib.trimPrefix s [45])).1)).2.1)), .string (bs ((Ta [101, 69] (Lib.trimPrefix s [45])).2.1))]) rfl isAgg99 sizeOf99 rfl (hF.cellsAll 0 rfl) (v := .bool true) rfl) ?_))
 refine ⟨?_, hF.same⟩
 simp_all [Ub, Oe, Qo, Uh]
 refine Eb rfl (Pc rfl) ?_
 have hpos := List.length_pos_iff.2 (Mg (s := (Ta [46] (Ta [101, 69] (Lib.trimPrefix s [45])).1).1) (by simp_all))
 refine Ib rfl (v := .int .u8 (((((Ta [46] ((Ta [101, 69] (Lib.trimPrefix s [45])).1)).1 : Str)[0]'(hpos)).toNat : Int))) (fun w hC => Fd (0) underlying9 rfl rfl (hpos)) (Eb rfl (Vs rfl rfl) (Eb rfl (Dc rfl rfl) ?_))
 refine Hs rfl hF sizeOf99 rfl rfl Dl ?_
 clear hF; rintro w hF -
 refine ⟨hF, ?_⟩
 refine Eb rfl (Cc rfl) (Ic (Ja ?_))
 refine Pb (Ob (Qa (Ie rfl (l := [.bool (Lib.hasPrefix s [45]), .bool false, .string (bs ((Ta [46] ((Ta [101, 69] (Lib.trimPrefix s [45])).1)).1)), .string (bs ((Ta [46] ((Ta [101, 69] (Lib.trimPrefix s [45])).1)).2.1)), .string (bs ((Ta [101, 69] (Lib.trimPrefix s [45])).2.1))]) rfl isAgg99 sizeOf99 rfl (hF.cellsAll 0 rfl) (v := .bool (decide ((((((Ta [46] ((Ta [101, 69] (Lib.trimPrefix s [45])).1)).1 : Str)[0]'(hpos)).toNat : Int) : Int) ≠ (48 : Int)))) rfl) ?_))
 refine ⟨?_, hF.same⟩
 simp_all [Ub, Oe, Qo, Uh]
 refine Ea (Ea (Ea (Ca (Dc rfl rfl) (Ca (Dc rfl rfl) (Da (Ni rfl (Ia ?_)))))))
 refine Ag (zs := []) (.free 0 (.free 1 (.free 2 (.free 3 (.free 4 (.free 5 (.free 6 (.free 7 (.act 8 (.free 9 .nil)))))))))) hF ?_
 clear hF; intro w hF
 refine Bk rfl (Bi isAgg99 sizeOf99 rfl C0 0 rfl rfl) (Eb rfl (Pc rfl) (Eb rfl (Mv rfl rfl) (Eb rfl (Jc rfl) ?_)))
 refine Jk (d := 64) rfl (fun hg11 => ?_) (fun hg11 => ?_)
 refine Kg rfl ?_
 refine Kg rfl ?_
 refine Kg rfl ?_
 refine Eb rfl (Lc rfl rfl) ?_
 refine Hs rfl hF sizeOf99 rfl rfl Dl ?_
 clear hF; rintro w hF -
 refine ⟨hF, ?_⟩
 refine Eb rfl (Cc rfl) (Ic (Ja ?_))
 refine Pb (Ob (Qa (Ie rfl (l := [.bool (Lib.hasPrefix s [45]), .bool false, .string (bs ((Ta [46] ((Ta [101, 69] (Lib.trimPrefix s [45])).1)).1)), .string (bs ((Ta [46] ((Ta [101, 69] (Lib.trimPrefix s [45])).1)).2.1)), .string (bs ((Ta [101, 69] (Lib.trimPrefix s [45])).2.1))]) rfl isAgg99 sizeOf99 rfl (hF.cellsAll 0 rfl) (v := .bool true) rfl) ?_))
 refine ⟨?_, hF.same⟩
 simp_all [Ub, Oe, Qo, Uh]
 refine Eb rfl (Pc rfl) ?_
 have hpos := List.length_pos_iff.2 (Mg (s := (Ta [46] (Ta [101, 69] (Lib.trimPrefix s [45])).1).1) (by simp_all))
 refine Ib rfl (v := .int .u8 (((((Ta [46] ((Ta [101, 69] (Lib.trimPrefix s [45])).1)).1 : Str)[0]'(hpos)).toNat : Int))) (fun w hC => Fd (0) underlying9 rfl rfl (hpos)) (Eb rfl (Vs rfl rfl) (Eb rfl (Dc rfl rfl) ?_))
 refine Hs rfl hF sizeOf99 rfl rfl Dl ?_
 clear hF; rintro w hF -
 refine ⟨hF, ?_⟩
 refine Eb rfl (Cc rfl) (Ic (Ja ?_))
 refine Pb (Ob (Qa (Ie rfl (l := [.bool (Lib.hasPrefix s [45]), .bool false, .string (bs ((Ta [46] ((Ta [101, 69] (Lib.trimPrefix s [45])).1)).1)), .string (bs ((Ta [46] ((Ta [101, 69] (Lib.trimPrefix s [45])).1)).2.1)), .string (bs ((Ta [101, 69] (Lib.trimPrefix s [45])).2.1))]) rfl isAgg99 sizeOf99 rfl (hF.cellsAll 0 rfl) (v := .bool (decide ((((((Ta [46] ((Ta [101, 69] (Lib.trimPrefix s [45])).1)).1 : Str)[0]'(hpos)).toNat : Int) : Int) ≠ (48 : Int)))) rfl) ?_))
 refine ⟨?_, hF.same⟩
 simp_all [Ub, Oe, Qo, Uh]
end Go.Scarf
