/- A part of the proof. -/
import Derived.Test.YtepbomjpbdbejaaGreatDoorFacts
import Derived.Test.YtepbomjpbdbejaaGreatDoorNum
import Derived.Test.YtepbomjpbdbejaaGreatDoorShelf
set_option linter.all false
set_option maxHeartbeats 8000000
set_option maxRecDepth 10000
namespace Go.Scarf
open Go.RowKit Go.Proofs Go.Proofs.Tryz
theorem W1 (w : World) (a b : Num) : (Op.equal 71 (Bp a) (Bp b)).run prog w = .ok (decide (a = b)) w := by
  obtain ⟨p, a, m⟩ := a
  obtain ⟨q, b, n⟩ := b
  have h := PB a b
  simp only [Bp, Num.mk.injEq]
  generalize bs a = u at *
  generalize bs b = v at *
  simp [Op.equal, Op.maxDepth, run_equalIn_struct, go_sem]
  have h' : u.toList = v.toList ↔ a = b := by
    rw [← decide_eq_true_eq (p := a = b), ← h, beq_iff_eq]
  by_cases h1 : p = q <;> by_cases h2 : a = b <;> by_cases h3 : m = n <;> simp [h1, h2, h3, h'.2, show ¬ a = b → ¬ u.toList = v.toList from fun hn he => hn (h'.1 he)]
theorem MR {ρ : Operand → Value} {w : World} {dst : Option Nat} {ty : TypeId} {pos : String} {aft : Array Edge} {g : Option (Nat × Bool)} {x y : Operand} {a b : Num} (hx : ρ x = Bp a) (hy : ρ y = Bp b) :
    (execOp ρ ⟨dst, .binOp .eql 71 x y 71, ty, pos, aft, g⟩).run prog w = .ok (.value (.bool (decide (a = b)))) w := by
  have hg : (eqGuard .eql 71 x y (Bp a) (Bp b)).run prog w = .ok () w := by
    simp [eqGuard, Bp]
  have h := W1 w a b
  simp only [execOp, hx, hy, Sem.run_bind, hg, Result.andThen_ok]
  have hb : (binOp .eql 71 (Bp a) (Bp b)).run prog w = .ok (.bool (decide (a = b))) w := by
    simp only [Bp, binOp] at h ⊢
    simp only [Sem.run_bind, h, Result.andThen_ok, Sem.run_pure]
  rw [hb]; rfl
theorem Gx (s q : Str) (w : World) : Calls prog 107 #[.string (bs s), .string (bs q)] w (Rd fun v w' => v = .tuple #[.string (bs (Lib.trimPrefix s q)), .bool (Lib.hasPrefix s q)] ∧ Same [] w w') := Wp (strings_CutPrefix (bs s) (bs q) w)
theorem G5 (s q : Str) (w : World) : Calls prog 109 #[.string (bs s), .string (bs q)] w (Rd fun v w' => v = .string (bs (Lib.trimPrefix s q)) ∧ Same [] w w') := Wp (strings_TrimPrefix (bs s) (bs q) w)
theorem Dx (s : Str) (w : World) : Calls prog 89 #[.string (bs s), .string (bs [48])] w (Rd fun v w' => v = .string (bs (Lib.trimLeftB s 48)) ∧ Same [] w w') := Wp (strings_TrimLeft_one (bs s) 48 Ra w)
theorem O6 (s : Str) (w : World) (h : s.length ≤ 9223372036854775807) : Calls prog 90 #[.string (bs s), .string (bs [48])] w (Rd fun v w' => v = .string (bs (Lib.trimRightB s 48)) ∧ Same [] w w') := Wp (strings_TrimRight_one (bs s) 48 Ra w h)
theorem J9 (s : Str) (c : UInt8) (w : World) : Calls prog 138 #[.string (bs s), .int .u8 (c.toNat : Int)] w (Rd fun v w' => v = .int .i64 (Lib.indexByte s c) ∧ Same [] w w') := by
  have := Wp (strings_IndexByte (bs s) (c.toNat : Int) w)
  simpa using this
theorem Xj (s : Str) (w0 : World) : Calls prog 86 #[.string (bs s)] w0 (Rd fun v w' => v = .bool (Np s) ∧ Same [] w0 w') := by
 refine Ma func86 rfl ntmps86 Jb (Ed _) ?_
 have hF := FR.start w0 []
 refine Ka (Ca (Ec rfl) (Ea (Ia (Ka (Ca (Lf rfl) ?_)))))
 refine Qt (str := s) hF underlying9 rfl ?_
 clear hF; rintro b1 w hb1 hF -
 refine Ea (Va ?_)
 refine Uc (fun μ σ w => ∃ (q : Nat), μ = s.length - q ∧ (q ≤ s.length) ∧ ((s.take q).all Nh = true) ∧ AllEq σ [(0, .string (bs s)), (6, .pointer (some ⟨b1, 0, none⟩))] ∧ FR w0 [] [(b1, .stringIter (bs s) (q))] w) _ ⟨0, rfl, (Nat.zero_le _), Ga, O7, hF⟩ ?_
 clear hF; rintro μ σ w ⟨q, rfl, hq, ha, hs, hF⟩
 refine Cg.slots hs ?_
 clear hs; intro σ
 refine Ka ?_
 by_cases hn0 : (q) < (s : Str).length
 refine Vx 0 (p := q) (str := s) hF rfl rfl hn0 ?_
 clear hF; rintro w hF -
 replace hF : FR w0 [] [(b1, .stringIter (bs s) (q + (Utf8.decode (bs s) (q)).2))] w := hF
 refine Ca (Ar rfl rfl) (Ea (Ia (Ae rfl (Wa (Ha (Va (Ka (Ca (Zn rfl rfl) (Ca (Gc rfl) (Ea ?_))))))))))
 refine Ka (Ca (Hb rfl) (Ca (Nk rfl rfl) (Ca (Fd rfl) ?_)))
 refine Cd (d := 12) rfl (fun hg1 => ?_) (fun hg1 => ?_)
 refine Sa (Sa (Ca (Oc rfl rfl) (Ea (Ae rfl (Ka (Ca (Ec rfl) (Ea ?_)))))))
 refine Xd (v := .bool false) rfl rfl ?_
 have hd := (Ms s q by_Om).2 by_Om
 exact ⟨by unfold Np; rw [Cz by_Om hd]; simp, hF.same⟩
 refine Ca (Hb rfl) (Ca (X0 rfl rfl) (Ca (Jd rfl rfl) (Ea ?_)))
 refine Pc rfl rfl (fun hc1 => ?_) (fun hc1 => ?_)
 refine Ka (Ca (Ec rfl) (Ea ?_))
 refine Xd (v := .bool false) rfl rfl ?_
 have hd := (Ms s q by_Om).2 by_Om
 exact ⟨by unfold Np; rw [Cz by_Om hd]; simp, hF.same⟩
 refine Wa (Mb ?_)
 have hd := (Ms s q by_Om).1 ⟨by omega, by omega⟩
 rw [hd.2] at hF
 refine Ic ⟨_, ?_, q + 1, rfl, by_Om, (M1 by_Om ha hd.1), O7, hF⟩
 omega
 refine Wo 0 (p := q) (str := s) hF rfl rfl hn0 ?_
 refine Ca (Ar rfl rfl) (Ea (Ia (Bg rfl ?_)))
 refine Nc (Lc rfl ?_)
 refine Ha (Ka (Ca (Lf rfl) (Ca (TU rfl rfl) (Ca (Ec rfl) (Ea ?_)))))
 refine Xd (v := .bool _) rfl rfl ?_
 have e : s.take q = s := List.take_of_length_le by_Om
 rw [e] at ha
 exact ⟨by unfold Np; rw [ha]; simp, hF.same⟩
theorem C6 (x : Num) (hl : x.digits.length ≤ 140737488355328) (w0 : World) : Calls prog 57 #[Bp x] w0 (Rd fun v w' => v = .bool (Pe x) ∧ Same [] w0 w') := by
 refine Ma func57 rfl ntmps57 Jb (Ed _) ?_
 have hF := FR.start w0 []
 refine Ka ?_
 refine Sj hF rfl ?_
 clear hF; rintro b1 w hb1 hF -
 refine Ca (Ec rfl) (Cc (Ca (Kc It rfl) (Qd (Jx isAgg9 rfl hF.F 0 rfl rfl) (Ca (Qj rfl) (Ea (Ia (Va (Ka ?_))))))))
 refine Qd (Bm isAgg71 sizeOf71 rfl hF.F 0 rfl rfl) ?_
 refine Ja (w' := w) (v := .agg #[.bool false, .string (bs []), .int .i64 0]) Ib ?_
 refine Ja (v := .bool (decide (x = Num.zero))) (MR (a := x) (b := Num.zero) rfl rfl) (Ca (Ec rfl) (Ea ?_))
 refine Pc rfl rfl (fun hc0 => ?_) (fun hc0 => ?_)
 refine Ka (Ca (Ec rfl) (Ea ?_))
 refine Xd (v := .bool true) rfl rfl ?_
 exact ⟨by rw [W7 hc0], hF.same⟩
 refine Ia (Ka (Ca (Lf rfl) ?_))
 refine Pb hF (Xj (x.digits) _) (Eb Wt rfl rfl) ?_
 clear hF; intro w hF
 refine Ca (Oo rfl) (Ca (Ec rfl) (Ea ?_))
 refine Pj rfl rfl (fun hc1 => ?_) (fun hc1 => ?_)
 refine Wa (Ha (Ae rfl (Ka (Ca (Ec rfl) (Ea ?_)))))
 refine Xd (v := .bool false) rfl rfl ?_
 exact ⟨by rw [C7 hc0 hc1], hF.same⟩
 refine Ka (Ca (Lf rfl) (Ca (H9 underlying9 rfl) (Ca (X0 rfl rfl) (Ca (Ec rfl) (Ea ?_)))))
 refine Pc rfl rfl (fun hc2 => ?_) (fun hc2 => ?_)
 refine Wa (Ha (Ae rfl (Ka (Ca (Ec rfl) (Ea ?_)))))
 refine Xd (v := .bool false) rfl rfl ?_
 exact ⟨by rw [I8 hc0 hc2], hF.same⟩
 refine Ka (Ca (Lf rfl) ?_)
 refine Ja (v := .int .u8 ((((x.digits : Str)[0]'(List.length_pos_iff.2 (Hk (by simpa using hc1)))).toNat : Int))) (Xh (0) underlying9 rfl rfl (List.length_pos_iff.2 (Hk (by simpa using hc1)))) ?_
 refine Ca (Fo rfl rfl) (Ca (Ec rfl) (Ea ?_))
 refine Pc rfl rfl (fun hc3 => ?_) (fun hc3 => ?_)
 refine Wa (Ha (Ae rfl (Ka (Ca (Ec rfl) (Ea ?_)))))
 refine Xd (v := .bool false) rfl rfl ?_
 exact ⟨by rw [L7 hc0 _ hc3], hF.same⟩
 refine Da (Ca (Lf rfl) (Ca (Lf rfl) (Ca (H9 underlying9 rfl) ?_)))
 refine Ja (v := .int .i64 (((x.digits.length - 1 : Nat) : Int))) (Uw rfl rfl (Bi (by have := List.length_pos_iff.2 (Hk (s := x.digits) (by simpa using hc1)); omega) by_Om by_Om)) ?_
 refine Ja (v := .int .u8 ((((x.digits : Str)[x.digits.length - 1]'(by have := List.length_pos_iff.2 (Hk (s := x.digits) (by simpa using hc1)); omega)).toNat : Int))) (Xh (x.digits.length - 1) underlying9 rfl rfl (by have := List.length_pos_iff.2 (Hk (s := x.digits) (by simpa using hc1)); omega)) ?_
 refine Ca (Fo rfl rfl) (Ca (Ec rfl) (Ea ?_))
 refine Pc rfl rfl (fun hc4 => ?_) (fun hc4 => ?_)
 refine Ka (Ca (Ec rfl) (Ea ?_))
 refine Xd (v := .bool false) rfl rfl ?_
 exact ⟨by rw [N8 hc0 _ hc4], hF.same⟩
 refine Wa (Mb (Ha (Ka (Ca (Kc Om rfl) (Qd (Zr isAgg3 rfl hF.F 0 rfl rfl) (Ca (CD rfl rfl) (Ca (Fd rfl) ?_)))))))
 refine Cd (d := 29) rfl (fun hg0 => ?_) (fun hg0 => ?_)
 refine Ca (Kc Om rfl) (Qd (Zr isAgg3 rfl hF.F 0 rfl rfl) (Ca (II rfl rfl) (Ca (Oc rfl rfl) (Ca (Ec rfl) (Ea ?_)))))
 refine Xd (v := .bool _) rfl rfl ?_
 exact ⟨by rw [Ez hc0 hc1 hc2 _ hc3 _ hc4]; simp [hg0], hF.same⟩
 refine Sa (Sa (Sa (Ca (Jd rfl rfl) (Ca (Ec rfl) (Ea ?_)))))
 refine Xd (v := .bool false) rfl rfl ?_
 exact ⟨by rw [Ez hc0 hc1 hc2 _ hc3 _ hc4]; simp [hg0], hF.same⟩
def UA : List Int := [0, 1, 56, 2, 57, 49, 28, 3, 61, 58, 42, 50, 38, 29, 17, 4, 62, 47, 59, 36, 45, 43, 51, 22, 53, 39, 33, 30, 24, 18, 12, 5, 63, 55, 48, 27, 60, 41, 37, 16, 46, 35, 44, 21, 52, 32, 23, 11, 54, 26, 40, 15, 34, 20, 31, 10, 25, 14, 19, 9, 13, 8, 7, 6]
structure Gl (w : World) : Prop where
  size : 7 ≤ w.heap.size
  tabs : Lib.Utf8Tabs 0 1 w
  pow : ∃ e fz, w.heap[2]? = some (.cells (Lib.pow10Tab.map (fun z => Value.int .u64 z)).toArray e fz)
  rng : ∃ tp q e fz, w.heap[4]? = some (.cells #[.iface tp q] e fz)
  syn : ∃ tp q e fz, w.heap[3]? = some (.cells #[.iface tp q] e fz)
  bru : ∃ e fz, w.heap[6]? = some (.cells (UA.map (fun z => Value.int .u8 z)).toArray e fz)
theorem Gl.same {w w' : World} {Ds : List Nat} (h : Gl w) (hs : Same Ds w w') (hd : ∀ b ∈ Ds, 7 ≤ b) : Gl w' := by
  have hb : ∀ b, b < 7 → w'.heap[b]? = w.heap[b]? := fun b hb => hs.block b (Nat.lt_of_lt_of_le hb h.size) (fun hi => by have := hd b hi; omega)
  refine ⟨Nat.le_trans h.size hs.size, ⟨fun c hc => ?_, fun i hi => ⟨?_, ?_⟩⟩, ?_, ?_, ?_, ?_⟩
  · rw [← h.tabs.1 c hc]; exact World.cell?_of_block (w := w) (hb 0 by_Om)
  · rw [← (h.tabs.2 i hi).1]; exact World.cell?_of_block (w := w) (hb 1 by_Om)
  · rw [← (h.tabs.2 i hi).2]; exact World.cell?_of_block (w := w) (hb 1 by_Om)
  · rw [hb 2 by_Om]; exact h.pow
  · rw [hb 4 by_Om]; exact h.rng
  · rw [hb 3 by_Om]; exact h.syn
  · rw [hb 6 by_Om]; exact h.bru
theorem Gl.ext {w w' : World} (h : Gl w) (hs : Same [] w w') : Gl w' := h.same hs Ga
theorem Gl.tabIs {w : World} (h : Gl w) : Lib.TabIs prog w "internal/strconv.uint64pow10" IntKind.u64 Lib.pow10Tab := by
  obtain ⟨e, fz, hh⟩ := h.pow
  have hg : prog.globalNamed "internal/strconv.uint64pow10" = some 2 := by kernel_rfl
  simp [Lib.TabIs, World.var?, hg, hh]
theorem Gl.err {w : World} (h : Gl w) : ∃ tp q, World.var? prog w "strconv.ErrRange" = some #[.iface tp q] := by
  obtain ⟨tp, q, e, fz, hh⟩ := h.rng
  have hg : prog.globalNamed "strconv.ErrRange" = some 4 := by kernel_rfl
  exact ⟨tp, q, by simp [World.var?, hg, hh]⟩
theorem Gl.serr {w : World} (h : Gl w) : ∃ tp q, World.var? prog w "strconv.ErrSyntax" = some #[.iface tp q] := by
  obtain ⟨tp, q, e, fz, hh⟩ := h.syn
  have hg : prog.globalNamed "strconv.ErrSyntax" = some 3 := by kernel_rfl
  exact ⟨tp, q, by simp [World.var?, hg, hh]⟩
theorem NG (w : World) (k : Nat) (os : Array Obj) : Same [] w (Go.Sort.grow (w.drewN k) os) :=
  ⟨rfl, rfl, rfl, by rw [Go.Sort.size_grow]; exact Nat.le_add_right _ _, fun b hb _ => Go.Sort.heap_grow_old (w.drewN k) os hb⟩
theorem GB (n : Int) (h1 : -9223372036854775808 ≤ n) (h2 : n ≤ 9223372036854775807) {w : World} (hG : Gl w) : Calls prog 58 #[.int .i64 n] w (Rd fun v w' => v = .string (bs (Lib.itoa n)) ∧ Same [] w w') :=
  (strconv_Itoa n h1 h2 w hG.tabIs).mono fun e w' ⟨he, k, os, hw⟩ => ⟨_, he, rfl, by subst hw; exact NG w k os⟩
theorem LL (x : Num) (hl : x.digits.length ≤ 140737488355328) (w0 : World) (hG : Gl w0) : Calls prog 37 #[Bp x] w0 (Rd fun v w' => v = .string (bs (Mn x)) ∧ Same [] w0 w') := by
 refine Ma func37 rfl ntmps37 Jb (Ed _) ?_
 have hF := FR.start w0 []
 refine Ka ?_
 refine Sj hF rfl ?_
 clear hF; rintro b1 w hb1 hF -
 refine Ca (Qj rfl) (Ea (Ia (Ka (Qd (Bm isAgg71 sizeOf71 rfl hF.F 0 rfl rfl) ?_))))
 refine Pb hF (C6 x hl _) (Eb NL rfl rfl) ?_
 clear hF; intro w hF
 refine Ca (Oo rfl) (Ea ?_)
 refine Pj rfl rfl (fun hc0 => ?_) (fun hc0 => ?_)
 refine Ka (Ca (Qj rfl) (Ea ?_))
 refine Xd (v := .string (bs [])) rfl rfl ?_
 refine ⟨?_, hF.same⟩
 simp_all [Mn]
 refine Wa (Ha (Ia (Ka (Ca (Kc It rfl) (Qd (Jx isAgg9 rfl hF.F 0 rfl rfl) (Ca (M_ rfl rfl) (Ea ?_)))))))
 refine Pc rfl rfl (fun hc1 => ?_) (fun hc1 => ?_)
 refine Ka (Ca (Qj rfl) (Ea ?_))
 refine Xd (v := .string (bs [48])) rfl rfl ?_
 refine ⟨?_, hF.same⟩
 simp_all [Mn]
 refine Wa (Ha (Ka (Ca (Kc It rfl) (Qd (Jx isAgg9 rfl hF.F 0 rfl rfl) (Ca (Qj rfl) (Ea (Ia (Ka (Ca (Kc HC rfl) (Qd (HT isAgg4 rfl hF.F 0 rfl rfl) ?_))))))))))
 refine Ea ?_
 refine Pj rfl rfl (fun hc2 => ?_) (fun hc2 => ?_)
 refine Da (Ca (Lf rfl) ?_)
 refine Ja (v := .string (bs (([45]) ++ (x.digits)))) (Uq rfl rfl (by simp; omega)) ?_
 refine Ca (Qj rfl) (Ea (Ia (Ka (Ca (Kc Om rfl) (Qd (Zr isAgg3 rfl hF.F 0 rfl rfl) (Ca (Ux rfl rfl) (Ea ?_)))))))
 refine Pc rfl rfl (fun hc3 => ?_) (fun hc3 => ?_)
 refine Da (Ca (Lf rfl) (Ca (Kc Om rfl) (Qd (Zr isAgg3 rfl hF.F 0 rfl rfl) ?_)))
 refine Pb hF (GB x.exp (by have := Ud (x := x) (by simpa using hc0); omega) (by have := Ud (x := x) (by simpa using hc0); omega) (hG.ext hF.same)) (Eb BK rfl rfl) ?_
 clear hF; intro w hF
 refine Ja (v := .string (bs (([101]) ++ (Lib.itoa x.exp)))) (Uq rfl rfl (by have := Lib.itoa_length_le x.exp (by have := Ud (x := x) (by simpa using hc0); omega) (by have := Ud (x := x) (by simpa using hc0); omega); simp; omega)) ?_
 refine Ja (v := .string (bs ((([45]) ++ (x.digits)) ++ (([101]) ++ (Lib.itoa x.exp))))) (Uq rfl rfl (by have := Lib.itoa_length_le x.exp (by have := Ud (x := x) (by simpa using hc0); omega) (by have := Ud (x := x) (by simpa using hc0); omega); simp; omega)) ?_
 refine Ca (Qj rfl) (Cc (Ca (Lf rfl) (Ca (Qj rfl) (Ea ?_))))
 refine Fc (Bc (Za (By (v := .string (bs ((([45]) ++ (x.digits)) ++ (([101]) ++ (Lib.itoa x.exp))))) rfl rfl) ?_))
 refine ⟨?_, hF.same⟩
 simp_all [Mn]
 refine Wa (Ha (Ka (Ca (Lf rfl) (Ca (Qj rfl) (Ea ?_)))))
 refine Xd (v := .string (bs (([45]) ++ (x.digits)))) rfl rfl ?_
 refine ⟨?_, hF.same⟩
 simp_all [Mn]
 refine Wa (Ha (Ia (Ka (Ca (Kc Om rfl) (Qd (Zr isAgg3 rfl hF.F 0 rfl rfl) (Ca (Ux rfl rfl) (Ea ?_)))))))
 refine Pc rfl rfl (fun hc3 => ?_) (fun hc3 => ?_)
 refine Da (Ca (Lf rfl) (Ca (Kc Om rfl) (Qd (Zr isAgg3 rfl hF.F 0 rfl rfl) ?_)))
 refine Pb hF (GB x.exp (by have := Ud (x := x) (by simpa using hc0); omega) (by have := Ud (x := x) (by simpa using hc0); omega) (hG.ext hF.same)) (Eb BK rfl rfl) ?_
 clear hF; intro w hF
 refine Ja (v := .string (bs (([101]) ++ (Lib.itoa x.exp)))) (Uq rfl rfl (by have := Lib.itoa_length_le x.exp (by have := Ud (x := x) (by simpa using hc0); omega) (by have := Ud (x := x) (by simpa using hc0); omega); simp; omega)) ?_
 refine Ja (v := .string (bs ((x.digits) ++ (([101]) ++ (Lib.itoa x.exp))))) (Uq rfl rfl (by have := Lib.itoa_length_le x.exp (by have := Ud (x := x) (by simpa using hc0); omega) (by have := Ud (x := x) (by simpa using hc0); omega); simp; omega)) ?_
 refine Ca (Qj rfl) (Cc (Ca (Lf rfl) (Ca (Qj rfl) (Ea ?_))))
 refine Fc (Bc (Za (By (v := .string (bs ((x.digits) ++ (([101]) ++ (Lib.itoa x.exp))))) rfl rfl) ?_))
 refine ⟨?_, hF.same⟩
 simp_all [Mn]
 refine Wa (Ha (Ka (Ca (Lf rfl) (Ca (Qj rfl) (Ea ?_)))))
 refine Xd (v := .string (bs (x.digits))) rfl rfl ?_
 refine ⟨?_, hF.same⟩
 simp_all [Mn]
theorem LC (s at_ : Str) (hl : s.length ≤ 140737488355328) (w0 : World) : Calls prog 108 #[.string (bs s), .string (bs at_)] w0 (Rd fun v w' => v = .tuple #[.string (bs (Pa at_ s).1), .string (bs (Pa at_ s).2.1), .bool (Pa at_ s).2.2] ∧ Same [] w0 w') := by
 refine Ma func108 rfl ntmps108 Jb (Vd _ _) ?_
 have hF := FR.start w0 []
 refine Ka (Ca (Qj rfl) (Ca (Qj rfl) (Ca (Ec rfl) (Ea (Ia (Ka (Ca (Lf rfl) (Ca (H9 underlying9 rfl) (Ca (Hb rfl) (Ya ?_))))))))))
 refine Ha (Va ?_)
 refine Uc (fun μ σ w => ∃ (q : Nat), μ = s.length - q ∧ (q ≤ s.length) ∧ (∀ c ∈ s.take q, at_.contains c = false) ∧ AllEq σ [(0, .string (bs s)), (1, .string (bs at_)), (9, .int .i64 ((((s) : Str).length : Int))), (10, .int .i64 ((q : Int)))] ∧ FR w0 [] [] w) _ ⟨0, rfl, (Nat.zero_le _), Ga, Gt, hF⟩ ?_
 clear hF; rintro μ σ w ⟨q, rfl, hq, hno, hs, hF⟩
 refine Cg.slots hs ?_
 clear hs; intro σ
 refine Ka (Ca (Nk rfl rfl) (Ea (Ia ?_)))
 refine Pc rfl rfl (fun hc0 => ?_) (fun hc0 => ?_)
 refine Wa (Ha (Ia (Va (Ka (Ca (Hb rfl) (Ca (Gc rfl) (Cc (Ca (Lf rfl) (Ca (Lf rfl) ?_)))))))))
 refine Ca (Hb rfl) (Ja (v := .int .u8 ((((s : Str)[q]'by_Om).toNat : Int))) (Xh (q) underlying9 rfl rfl by_Om) ?_)
 refine Pb hF (J9 at_ _ _) (Qb RQ rfl rfl rfl) ?_
 clear hF; intro w hF
 refine Ca (CD rfl rfl) (Ea ?_)
 refine Pc rfl rfl (fun hc1 => ?_) (fun hc1 => ?_)
 refine Ia ?_
 refine Uf (zs := []) (.free 0 (.free 1 (.free 2 (.free 3 (.free 4 (.free 5 (.free 6 (.free 7 (.free 8 (.free 9 .nil)))))))))) hF ?_
 clear hF; intro w hF
 refine Xa rfl (Lf rfl) (Xa rfl (Hb rfl) (Qa rfl (v := .string (bs ((s : Str).take (q)))) (fun w hC => BJ (q) underlying9 rfl rfl by_Om) (Xa rfl (Lf rfl) (Xa rfl (Hb rfl) (Xa rfl (Qi (((q + 1 : Nat) : Int)) rfl rfl) (Qa rfl (v := .string (bs ((s : Str).drop (q + 1)))) (fun w hC => H7 (q + 1) underlying9 rfl rfl by_Om) (Xa rfl (Qj rfl) (Xa rfl (Qj rfl) (Xa rfl (Ec rfl) (Jc (Ha ?_)))))))))))
 refine Fc (Bc (Za (Ex (v := .string (bs ((s : Str).take (q)))) (x := .string (bs ((s : Str).drop (q + 1)))) (y := .bool true) rfl rfl rfl rfl) ?_))
 exact ⟨by rw [L3 by_Om hno (Sv hc1)], hF.same⟩
 refine Wa (Mb (Ha (Da (Ca (Jn rfl rfl) (Ca (Hb rfl) (Ya ?_))))))
 refine Ic ⟨_, ?_, q + 1, rfl, by_Om, (ZN by_Om hno (I1 hc1)), Gt, hF⟩
 omega
 refine Nc (Lc rfl ?_)
 refine Ha (Ka (Ca (Lf rfl) (Ca (Qj rfl) (Ca (Qj rfl) (Ca (Ec rfl) (Ea ?_))))))
 refine Fc (Bc (Za (Ex (v := .string (bs s)) (x := .string (bs [])) (y := .bool false) rfl rfl rfl rfl) ?_))
 have e : s.take q = s := List.take_of_length_le by_Om
 rw [e] at hno
 exact ⟨by rw [I2 hno], hF.same⟩
theorem FQ (s : Str) (hl : s.length ≤ 140737488355328) (w0 : World) : Calls prog 88 #[.string (bs s)] w0 (Rd fun v w' => v = .tuple #[Do (Rb s).1, .bool (Rb s).2] ∧ Same [] w0 w') := by
 refine Ma func88 rfl ntmps88 Jb (Ed _) ?_
 have hF := FR.start w0 []
 refine Ka ?_
 refine Ig (cs := #[.bool false, .bool false, .string (bs []), .string (bs []), .string (bs [])]) hF zeroValue114 rfl ?_
 clear hF; rintro b1 w hb1 hF -
 refine Ca (Ec rfl) (Cc (Ca (Lf rfl) ?_))
 refine Pb hF (Gx s [45] _) (Qb JJ rfl rfl rfl) ?_
 clear hF; intro w hF
 refine Ca (Xm rfl) (Ca (TC rfl rfl) (Ca (Ar rfl rfl) (Ca (Qj rfl) (Ca (Kc Y7 rfl) ?_))))
 refine Co (.bool _) hF sizeOf4 rfl rfl Gn Gn ?_
 clear hF; rintro w hF -
 refine Cc (Ca (Lf rfl) ?_)
 refine Pb hF (LC (Lib.trimPrefix s [45]) [101, 69] (by have := Rf s [45]; have := Tf [101, 69] (Lib.trimPrefix s [45]); omega) _) (Qb Q6 rfl rfl rfl) ?_
 clear hF; intro w hF
 refine Ca (Xm rfl) (Ca (TC rfl rfl) (Ca (TC rfl rfl) (Ca (Ar rfl rfl) (Ca (Qj rfl) (Ca (Qj rfl) (Ca (Ec rfl) (Ea (Ia (Ka (Ca (Fd rfl) (Ya ?_)))))))))))
 refine Ha ?_
 refine Pj rfl rfl (fun hc0 => ?_) (fun hc0 => ?_)
 refine Ka (Ca (Lf rfl) ?_)
 refine Pb hF (Gx ((Pa [101, 69] (Lib.trimPrefix s [45])).2.1) [45] _) (Qb JJ rfl rfl rfl) ?_
 clear hF; intro w hF
 refine Ca (Xm rfl) (Ca (TC rfl rfl) (Ca (Ar rfl rfl) (Ca (Qj rfl) (Ca (Kc Jy rfl) ?_))))
 refine Co (.bool _) hF sizeOf4 rfl rfl Gn Y6 ?_
 clear hF; rintro w hF -
 refine Ea (Ia (Ka (Ca (Kc Jy rfl) (Qd (HT isAgg4 rfl hF.F 0 rfl rfl) (Ca (Oo rfl) (Ea ?_))))))
 refine Pj rfl rfl (fun hc1 => ?_) (fun hc1 => ?_)
 refine Da (Ca (Lf rfl) ?_)
 refine Pb hF (G5 (Lib.trimPrefix ((Pa [101, 69] (Lib.trimPrefix s [45])).2.1) [45]) [43] _) (Qb OR rfl rfl rfl) ?_
 clear hF; intro w hF
 refine Ca (Qj rfl) (Cc (Ca (Lf rfl) ?_))
 refine Pb hF (Xj (Lib.trimPrefix (Lib.trimPrefix ((Pa [101, 69] (Lib.trimPrefix s [45])).2.1) [45]) [43]) _) (Eb Wt rfl rfl) ?_
 clear hF; intro w hF
 refine Ca (Oo rfl) (Ea ?_)
 refine Pj rfl rfl (fun hc2 => ?_) (fun hc2 => ?_)
 refine Ka (Qd (Bm isAgg114 sizeOf114 rfl hF.F 0 rfl rfl) ?_)
 refine An hF sizeOf114 rfl rfl Gn ?_
 clear hF; rintro w hF -
 refine Ca (Ec rfl) (Ea ?_)
 refine Fc (Bc (Za (Le rfl (l := [.bool (Lib.hasPrefix s [45]), .bool (Lib.hasPrefix ((Pa [101, 69] (Lib.trimPrefix s [45])).2.1) [45]), .string (bs []), .string (bs []), .string (bs [])]) rfl isAgg114 sizeOf114 rfl (hF.cellsAll 0 rfl) (v := .bool false) rfl) ?_))
 refine ⟨?_, hF.same⟩
 simp_all [Rb, Ge, Do, Ch]
 refine Wa (Ha (Ka (Ca (Lf rfl) (Ca (Kc Jt rfl) ?_))))
 refine Co (.string _) hF sizeOf9 rfl rfl Gn OU ?_
 clear hF; rintro w hF -
 refine Cc (Ca (Lf rfl) ?_)
 refine Pb hF (LC ((Pa [101, 69] (Lib.trimPrefix s [45])).1) [46] (by have := Rf s [45]; have := Tf [101, 69] (Lib.trimPrefix s [45]); omega) _) (Qb Q6 rfl rfl rfl) ?_
 clear hF; intro w hF
 refine Ca (Xm rfl) (Ca (TC rfl rfl) (Ca (TC rfl rfl) (Ca (Ar rfl rfl) (Ca (Qj rfl) (Ca (Qj rfl) (Ca (Ec rfl) (Cc (Ca (Lf rfl) (Ca (Lf rfl) (Ca (Kc Qp rfl) ?_))))))))))
 refine Co (.string _) hF sizeOf9 rfl rfl Gn WM ?_
 clear hF; rintro w hF -
 refine Ca (Kc Mo rfl) ?_
 refine Co (.string _) hF sizeOf9 rfl rfl Gn LP ?_
 clear hF; rintro w hF -
 refine Ea (Ia (Ka (Ca (Lf rfl) ?_)))
 refine Pb hF (Xj ((Pa [46] ((Pa [101, 69] (Lib.trimPrefix s [45])).1)).1) _) (Eb Wt rfl rfl) ?_
 clear hF; intro w hF
 refine Ca (Oo rfl) (Ca (Fd rfl) ?_)
 refine We (d := 52) rfl (fun hg0 => ?_) (fun hg0 => ?_)
 refine Sa (Sa (Sa (Sa (Sa (Sa (Ca (Oc rfl rfl) (Ea (Ae rfl (Ka (Qd (Bm isAgg114 sizeOf114 rfl hF.F 0 rfl rfl) ?_))))))))))
 refine An hF sizeOf114 rfl rfl Gn ?_
 clear hF; rintro w hF -
 refine Ca (Ec rfl) (Ea ?_)
 refine Fc (Bc (Za (Le rfl (l := [.bool (Lib.hasPrefix s [45]), .bool (Lib.hasPrefix ((Pa [101, 69] (Lib.trimPrefix s [45])).2.1) [45]), .string (bs ((Pa [46] ((Pa [101, 69] (Lib.trimPrefix s [45])).1)).1)), .string (bs ((Pa [46] ((Pa [101, 69] (Lib.trimPrefix s [45])).1)).2.1)), .string (bs (Lib.trimPrefix (Lib.trimPrefix ((Pa [101, 69] (Lib.trimPrefix s [45])).2.1) [45]) [43]))]) rfl isAgg114 sizeOf114 rfl (hF.cellsAll 0 rfl) (v := .bool false) rfl) ?_))
 refine ⟨?_, hF.same⟩
 simp_all [Rb, Ge, Do, Ch]
 refine Ca (Fd rfl) (Ca (Fd rfl) ?_)
 refine We (d := 54) rfl (fun hg1 => ?_) (fun hg1 => ?_)
 refine Ca (Lf rfl) ?_
 refine Pb hF (Xj ((Pa [46] ((Pa [101, 69] (Lib.trimPrefix s [45])).1)).2.1) _) (Eb Wt rfl rfl) ?_
 clear hF; intro w hF
 refine Ca (Oo rfl) (Ca (Oc rfl rfl) (Ca (Jd rfl rfl) (Ea ?_)))
 refine Pj rfl rfl (fun hc3 => ?_) (fun hc3 => ?_)
 refine Ka (Qd (Bm isAgg114 sizeOf114 rfl hF.F 0 rfl rfl) ?_)
 refine An hF sizeOf114 rfl rfl Gn ?_
 clear hF; rintro w hF -
 refine Ca (Ec rfl) (Ea ?_)
 refine Fc (Bc (Za (Le rfl (l := [.bool (Lib.hasPrefix s [45]), .bool (Lib.hasPrefix ((Pa [101, 69] (Lib.trimPrefix s [45])).2.1) [45]), .string (bs ((Pa [46] ((Pa [101, 69] (Lib.trimPrefix s [45])).1)).1)), .string (bs ((Pa [46] ((Pa [101, 69] (Lib.trimPrefix s [45])).1)).2.1)), .string (bs (Lib.trimPrefix (Lib.trimPrefix ((Pa [101, 69] (Lib.trimPrefix s [45])).2.1) [45]) [43]))]) rfl isAgg114 sizeOf114 rfl (hF.cellsAll 0 rfl) (v := .bool false) rfl) ?_))
 refine ⟨?_, hF.same⟩
 simp_all [Rb, Ge, Do, Ch]
 refine Wa (Ha (Ia ?_))
 refine Uf (zs := []) (.free 0 (.free 1 (.free 2 (.free 3 (.free 4 (.free 5 (.free 6 (.free 7 (.act 8 (.free 9 .nil)))))))))) hF ?_
 clear hF; intro w hF
 refine Zo rfl (Bm isAgg114 sizeOf114 rfl C0 0 rfl rfl) (Xa rfl (Lf rfl) (Xa rfl (M_ rfl rfl) (Xa rfl (Fd rfl) ?_)))
 refine Bh (d := 64) rfl (fun hg2 => ?_) (fun hg2 => ?_)
 refine Ta rfl ?_
 refine Ta rfl ?_
 refine Ta rfl ?_
 refine Xa rfl (Oc rfl rfl) ?_
 refine Tt rfl hF sizeOf114 rfl rfl Gn ?_
 clear hF; rintro w hF -
 refine ⟨hF, ?_⟩
 refine Xa rfl (Ec rfl) (Jc (Ha ?_))
 refine Fc (Bc (Za (Le rfl (l := [.bool (Lib.hasPrefix s [45]), .bool (Lib.hasPrefix ((Pa [101, 69] (Lib.trimPrefix s [45])).2.1) [45]), .string (bs ((Pa [46] ((Pa [101, 69] (Lib.trimPrefix s [45])).1)).1)), .string (bs ((Pa [46] ((Pa [101, 69] (Lib.trimPrefix s [45])).1)).2.1)), .string (bs (Lib.trimPrefix (Lib.trimPrefix ((Pa [101, 69] (Lib.trimPrefix s [45])).2.1) [45]) [43]))]) rfl isAgg114 sizeOf114 rfl (hF.cellsAll 0 rfl) (v := .bool true) rfl) ?_))
 refine ⟨?_, hF.same⟩
 simp_all [Rb, Ge, Do, Ch]
 refine Xa rfl (Lf rfl) ?_
 have hpos := List.length_pos_iff.2 (Hk (s := (Pa [46] (Pa [101, 69] (Lib.trimPrefix s [45])).1).1) (by simp_all))
 refine Qa rfl (v := .int .u8 (((((Pa [46] ((Pa [101, 69] (Lib.trimPrefix s [45])).1)).1 : Str)[0]'(hpos)).toNat : Int))) (fun w hC => Xh (0) underlying9 rfl rfl (hpos)) (Xa rfl (Ux rfl rfl) (Xa rfl (Jd rfl rfl) ?_))
 refine Tt rfl hF sizeOf114 rfl rfl Gn ?_
 clear hF; rintro w hF -
 refine ⟨hF, ?_⟩
 refine Xa rfl (Ec rfl) (Jc (Ha ?_))
 refine Fc (Bc (Za (Le rfl (l := [.bool (Lib.hasPrefix s [45]), .bool (Lib.hasPrefix ((Pa [101, 69] (Lib.trimPrefix s [45])).2.1) [45]), .string (bs ((Pa [46] ((Pa [101, 69] (Lib.trimPrefix s [45])).1)).1)), .string (bs ((Pa [46] ((Pa [101, 69] (Lib.trimPrefix s [45])).1)).2.1)), .string (bs (Lib.trimPrefix (Lib.trimPrefix ((Pa [101, 69] (Lib.trimPrefix s [45])).2.1) [45]) [43]))]) rfl isAgg114 sizeOf114 rfl (hF.cellsAll 0 rfl) (v := .bool (decide ((((((Pa [46] ((Pa [101, 69] (Lib.trimPrefix s [45])).1)).1 : Str)[0]'(hpos)).toNat : Int) : Int) ≠ (48 : Int)))) rfl) ?_))
 refine ⟨?_, hF.same⟩
 simp_all [Rb, Ge, Do, Ch]
 refine Sa (Sa (Sa (Ca (Jd rfl rfl) (Ca (Jd rfl rfl) (Ea (Wq rfl (Ia ?_)))))))
 refine Uf (zs := []) (.free 0 (.free 1 (.free 2 (.free 3 (.free 4 (.free 5 (.free 6 (.free 7 (.act 8 (.free 9 .nil)))))))))) hF ?_
 clear hF; intro w hF
 refine Zo rfl (Bm isAgg114 sizeOf114 rfl C0 0 rfl rfl) (Xa rfl (Lf rfl) (Xa rfl (M_ rfl rfl) (Xa rfl (Fd rfl) ?_)))
 refine Bh (d := 64) rfl (fun hg3 => ?_) (fun hg3 => ?_)
 refine Ta rfl ?_
 refine Ta rfl ?_
 refine Ta rfl ?_
 refine Xa rfl (Oc rfl rfl) ?_
 refine Tt rfl hF sizeOf114 rfl rfl Gn ?_
 clear hF; rintro w hF -
 refine ⟨hF, ?_⟩
 refine Xa rfl (Ec rfl) (Jc (Ha ?_))
 refine Fc (Bc (Za (Le rfl (l := [.bool (Lib.hasPrefix s [45]), .bool (Lib.hasPrefix ((Pa [101, 69] (Lib.trimPrefix s [45])).2.1) [45]), .string (bs ((Pa [46] ((Pa [101, 69] (Lib.trimPrefix s [45])).1)).1)), .string (bs ((Pa [46] ((Pa [101, 69] (Lib.trimPrefix s [45])).1)).2.1)), .string (bs (Lib.trimPrefix (Lib.trimPrefix ((Pa [101, 69] (Lib.trimPrefix s [45])).2.1) [45]) [43]))]) rfl isAgg114 sizeOf114 rfl (hF.cellsAll 0 rfl) (v := .bool true) rfl) ?_))
 refine ⟨?_, hF.same⟩
 simp_all [Rb, Ge, Do, Ch]
 refine Xa rfl (Lf rfl) ?_
 have hpos := List.length_pos_iff.2 (Hk (s := (Pa [46] (Pa [101, 69] (Lib.trimPrefix s [45])).1).1) (by simp_all))
 refine Qa rfl (v := .int .u8 (((((Pa [46] ((Pa [101, 69] (Lib.trimPrefix s [45])).1)).1 : Str)[0]'(hpos)).toNat : Int))) (fun w hC => Xh (0) underlying9 rfl rfl (hpos)) (Xa rfl (Ux rfl rfl) (Xa rfl (Jd rfl rfl) ?_))
 refine Tt rfl hF sizeOf114 rfl rfl Gn ?_
 clear hF; rintro w hF -
 refine ⟨hF, ?_⟩
 refine Xa rfl (Ec rfl) (Jc (Ha ?_))
 refine Fc (Bc (Za (Le rfl (l := [.bool (Lib.hasPrefix s [45]), .bool (Lib.hasPrefix ((Pa [101, 69] (Lib.trimPrefix s [45])).2.1) [45]), .string (bs ((Pa [46] ((Pa [101, 69] (Lib.trimPrefix s [45])).1)).1)), .string (bs ((Pa [46] ((Pa [101, 69] (Lib.trimPrefix s [45])).1)).2.1)), .string (bs (Lib.trimPrefix (Lib.trimPrefix ((Pa [101, 69] (Lib.trimPrefix s [45])).2.1) [45]) [43]))]) rfl isAgg114 sizeOf114 rfl (hF.cellsAll 0 rfl) (v := .bool (decide ((((((Pa [46] ((Pa [101, 69] (Lib.trimPrefix s [45])).1)).1 : Str)[0]'(hpos)).toNat : Int) : Int) ≠ (48 : Int)))) rfl) ?_))
 refine ⟨?_, hF.same⟩
 simp_all [Rb, Ge, Do, Ch]
 refine Wa (Ha (Ka (Ca (Lf rfl) ?_)))
 refine Pb hF (Xj (Lib.trimPrefix ((Pa [101, 69] (Lib.trimPrefix s [45])).2.1) [45]) _) (Eb Wt rfl rfl) ?_
 clear hF; intro w hF
 refine Ca (Oo rfl) (Ea ?_)
 refine Pj rfl rfl (fun hc2 => ?_) (fun hc2 => ?_)
 refine Ka (Qd (Bm isAgg114 sizeOf114 rfl hF.F 0 rfl rfl) ?_)
 refine An hF sizeOf114 rfl rfl Gn ?_
 clear hF; rintro w hF -
 refine Ca (Ec rfl) (Ea ?_)
 refine Fc (Bc (Za (Le rfl (l := [.bool (Lib.hasPrefix s [45]), .bool (Lib.hasPrefix ((Pa [101, 69] (Lib.trimPrefix s [45])).2.1) [45]), .string (bs []), .string (bs []), .string (bs [])]) rfl isAgg114 sizeOf114 rfl (hF.cellsAll 0 rfl) (v := .bool false) rfl) ?_))
 refine ⟨?_, hF.same⟩
 simp_all [Rb, Ge, Do, Ch]
 refine Wa (Ha (Ka (Ca (Lf rfl) (Ca (Kc Jt rfl) ?_))))
 refine Co (.string _) hF sizeOf9 rfl rfl Gn OU ?_
 clear hF; rintro w hF -
 refine Cc (Ca (Lf rfl) ?_)
 refine Pb hF (LC ((Pa [101, 69] (Lib.trimPrefix s [45])).1) [46] (by have := Rf s [45]; have := Tf [101, 69] (Lib.trimPrefix s [45]); omega) _) (Qb Q6 rfl rfl rfl) ?_
 clear hF; intro w hF
 refine Ca (Xm rfl) (Ca (TC rfl rfl) (Ca (TC rfl rfl) (Ca (Ar rfl rfl) (Ca (Qj rfl) (Ca (Qj rfl) (Ca (Ec rfl) (Cc (Ca (Lf rfl) (Ca (Lf rfl) (Ca (Kc Qp rfl) ?_))))))))))
 refine Co (.string _) hF sizeOf9 rfl rfl Gn WM ?_
 clear hF; rintro w hF -
 refine Ca (Kc Mo rfl) ?_
 refine Co (.string _) hF sizeOf9 rfl rfl Gn LP ?_
 clear hF; rintro w hF -
 refine Ea (Ia (Ka (Ca (Lf rfl) ?_)))
 refine Pb hF (Xj ((Pa [46] ((Pa [101, 69] (Lib.trimPrefix s [45])).1)).1) _) (Eb Wt rfl rfl) ?_
 clear hF; intro w hF
 refine Ca (Oo rfl) (Ca (Fd rfl) ?_)
 refine We (d := 52) rfl (fun hg4 => ?_) (fun hg4 => ?_)
 refine Sa (Sa (Sa (Sa (Sa (Sa (Ca (Oc rfl rfl) (Ea (Ae rfl (Ka (Qd (Bm isAgg114 sizeOf114 rfl hF.F 0 rfl rfl) ?_))))))))))
 refine An hF sizeOf114 rfl rfl Gn ?_
 clear hF; rintro w hF -
 refine Ca (Ec rfl) (Ea ?_)
 refine Fc (Bc (Za (Le rfl (l := [.bool (Lib.hasPrefix s [45]), .bool (Lib.hasPrefix ((Pa [101, 69] (Lib.trimPrefix s [45])).2.1) [45]), .string (bs ((Pa [46] ((Pa [101, 69] (Lib.trimPrefix s [45])).1)).1)), .string (bs ((Pa [46] ((Pa [101, 69] (Lib.trimPrefix s [45])).1)).2.1)), .string (bs (Lib.trimPrefix ((Pa [101, 69] (Lib.trimPrefix s [45])).2.1) [45]))]) rfl isAgg114 sizeOf114 rfl (hF.cellsAll 0 rfl) (v := .bool false) rfl) ?_))
 refine ⟨?_, hF.same⟩
 simp_all [Rb, Ge, Do, Ch]
 refine Ca (Fd rfl) (Ca (Fd rfl) ?_)
 refine We (d := 54) rfl (fun hg5 => ?_) (fun hg5 => ?_)
 refine Ca (Lf rfl) ?_
 refine Pb hF (Xj ((Pa [46] ((Pa [101, 69] (Lib.trimPrefix s [45])).1)).2.1) _) (Eb Wt rfl rfl) ?_
 clear hF; intro w hF
 refine Ca (Oo rfl) (Ca (Oc rfl rfl) (Ca (Jd rfl rfl) (Ea ?_)))
 refine Pj rfl rfl (fun hc3 => ?_) (fun hc3 => ?_)
 refine Ka (Qd (Bm isAgg114 sizeOf114 rfl hF.F 0 rfl rfl) ?_)
 refine An hF sizeOf114 rfl rfl Gn ?_
 clear hF; rintro w hF -
 refine Ca (Ec rfl) (Ea ?_)
 refine Fc (Bc (Za (Le rfl (l := [.bool (Lib.hasPrefix s [45]), .bool (Lib.hasPrefix ((Pa [101, 69] (Lib.trimPrefix s [45])).2.1) [45]), .string (bs ((Pa [46] ((Pa [101, 69] (Lib.trimPrefix s [45])).1)).1)), .string (bs ((Pa [46] ((Pa [101, 69] (Lib.trimPrefix s [45])).1)).2.1)), .string (bs (Lib.trimPrefix ((Pa [101, 69] (Lib.trimPrefix s [45])).2.1) [45]))]) rfl isAgg114 sizeOf114 rfl (hF.cellsAll 0 rfl) (v := .bool false) rfl) ?_))
 refine ⟨?_, hF.same⟩
 simp_all [Rb, Ge, Do, Ch]
 refine Wa (Ha (Ia ?_))
 refine Uf (zs := []) (.free 0 (.free 1 (.free 2 (.free 3 (.free 4 (.free 5 (.free 6 (.free 7 (.act 8 (.free 9 .nil)))))))))) hF ?_
 clear hF; intro w hF
 refine Zo rfl (Bm isAgg114 sizeOf114 rfl C0 0 rfl rfl) (Xa rfl (Lf rfl) (Xa rfl (M_ rfl rfl) (Xa rfl (Fd rfl) ?_)))
 refine Bh (d := 64) rfl (fun hg6 => ?_) (fun hg6 => ?_)
 refine Ta rfl ?_
 refine Ta rfl ?_
 refine Ta rfl ?_
 refine Xa rfl (Oc rfl rfl) ?_
 refine Tt rfl hF sizeOf114 rfl rfl Gn ?_
 clear hF; rintro w hF -
 refine ⟨hF, ?_⟩
 refine Xa rfl (Ec rfl) (Jc (Ha ?_))
 refine Fc (Bc (Za (Le rfl (l := [.bool (Lib.hasPrefix s [45]), .bool (Lib.hasPrefix ((Pa [101, 69] (Lib.trimPrefix s [45])).2.1) [45]), .string (bs ((Pa [46] ((Pa [101, 69] (Lib.trimPrefix s [45])).1)).1)), .string (bs ((Pa [46] ((Pa [101, 69] (Lib.trimPrefix s [45])).1)).2.1)), .string (bs (Lib.trimPrefix ((Pa [101, 69] (Lib.trimPrefix s [45])).2.1) [45]))]) rfl isAgg114 sizeOf114 rfl (hF.cellsAll 0 rfl) (v := .bool true) rfl) ?_))
 refine ⟨?_, hF.same⟩
 simp_all [Rb, Ge, Do, Ch]
 refine Xa rfl (Lf rfl) ?_
 have hpos := List.length_pos_iff.2 (Hk (s := (Pa [46] (Pa [101, 69] (Lib.trimPrefix s [45])).1).1) (by simp_all))
 refine Qa rfl (v := .int .u8 (((((Pa [46] ((Pa [101, 69] (Lib.trimPrefix s [45])).1)).1 : Str)[0]'(hpos)).toNat : Int))) (fun w hC => Xh (0) underlying9 rfl rfl (hpos)) (Xa rfl (Ux rfl rfl) (Xa rfl (Jd rfl rfl) ?_))
 refine Tt rfl hF sizeOf114 rfl rfl Gn ?_
 clear hF; rintro w hF -
 refine ⟨hF, ?_⟩
 refine Xa rfl (Ec rfl) (Jc (Ha ?_))
 refine Fc (Bc (Za (Le rfl (l := [.bool (Lib.hasPrefix s [45]), .bool (Lib.hasPrefix ((Pa [101, 69] (Lib.trimPrefix s [45])).2.1) [45]), .string (bs ((Pa [46] ((Pa [101, 69] (Lib.trimPrefix s [45])).1)).1)), .string (bs ((Pa [46] ((Pa [101, 69] (Lib.trimPrefix s [45])).1)).2.1)), .string (bs (Lib.trimPrefix ((Pa [101, 69] (Lib.trimPrefix s [45])).2.1) [45]))]) rfl isAgg114 sizeOf114 rfl (hF.cellsAll 0 rfl) (v := .bool (decide ((((((Pa [46] ((Pa [101, 69] (Lib.trimPrefix s [45])).1)).1 : Str)[0]'(hpos)).toNat : Int) : Int) ≠ (48 : Int)))) rfl) ?_))
 refine ⟨?_, hF.same⟩
 simp_all [Rb, Ge, Do, Ch]
 refine Sa (Sa (Sa (Ca (Jd rfl rfl) (Ca (Jd rfl rfl) (Ea (Wq rfl (Ia ?_)))))))
 refine Uf (zs := []) (.free 0 (.free 1 (.free 2 (.free 3 (.free 4 (.free 5 (.free 6 (.free 7 (.act 8 (.free 9 .nil)))))))))) hF ?_
 clear hF; intro w hF
 refine Zo rfl (Bm isAgg114 sizeOf114 rfl C0 0 rfl rfl) (Xa rfl (Lf rfl) (Xa rfl (M_ rfl rfl) (Xa rfl (Fd rfl) ?_)))
 refine Bh (d := 64) rfl (fun hg7 => ?_) (fun hg7 => ?_)
 refine Ta rfl ?_
 refine Ta rfl ?_
 refine Ta rfl ?_
 refine Xa rfl (Oc rfl rfl) ?_
 refine Tt rfl hF sizeOf114 rfl rfl Gn ?_
 clear hF; rintro w hF -
 refine ⟨hF, ?_⟩
 refine Xa rfl (Ec rfl) (Jc (Ha ?_))
 refine Fc (Bc (Za (Le rfl (l := [.bool (Lib.hasPrefix s [45]), .bool (Lib.hasPrefix ((Pa [101, 69] (Lib.trimPrefix s [45])).2.1) [45]), .string (bs ((Pa [46] ((Pa [101, 69] (Lib.trimPrefix s [45])).1)).1)), .string (bs ((Pa [46] ((Pa [101, 69] (Lib.trimPrefix s [45])).1)).2.1)), .string (bs (Lib.trimPrefix ((Pa [101, 69] (Lib.trimPrefix s [45])).2.1) [45]))]) rfl isAgg114 sizeOf114 rfl (hF.cellsAll 0 rfl) (v := .bool true) rfl) ?_))
 refine ⟨?_, hF.same⟩
 simp_all [Rb, Ge, Do, Ch]
 refine Xa rfl (Lf rfl) ?_
 have hpos := List.length_pos_iff.2 (Hk (s := (Pa [46] (Pa [101, 69] (Lib.trimPrefix s [45])).1).1) (by simp_all))
 refine Qa rfl (v := .int .u8 (((((Pa [46] ((Pa [101, 69] (Lib.trimPrefix s [45])).1)).1 : Str)[0]'(hpos)).toNat : Int))) (fun w hC => Xh (0) underlying9 rfl rfl (hpos)) (Xa rfl (Ux rfl rfl) (Xa rfl (Jd rfl rfl) ?_))
 refine Tt rfl hF sizeOf114 rfl rfl Gn ?_
 clear hF; rintro w hF -
 refine ⟨hF, ?_⟩
 refine Xa rfl (Ec rfl) (Jc (Ha ?_))
 refine Fc (Bc (Za (Le rfl (l := [.bool (Lib.hasPrefix s [45]), .bool (Lib.hasPrefix ((Pa [101, 69] (Lib.trimPrefix s [45])).2.1) [45]), .string (bs ((Pa [46] ((Pa [101, 69] (Lib.trimPrefix s [45])).1)).1)), .string (bs ((Pa [46] ((Pa [101, 69] (Lib.trimPrefix s [45])).1)).2.1)), .string (bs (Lib.trimPrefix ((Pa [101, 69] (Lib.trimPrefix s [45])).2.1) [45]))]) rfl isAgg114 sizeOf114 rfl (hF.cellsAll 0 rfl) (v := .bool (decide ((((((Pa [46] ((Pa [101, 69] (Lib.trimPrefix s [45])).1)).1 : Str)[0]'(hpos)).toNat : Int) : Int) ≠ (48 : Int)))) rfl) ?_))
 refine ⟨?_, hF.same⟩
 simp_all [Rb, Ge, Do, Ch]
 refine Wa (Ha (Ka (Ca (Lf rfl) (Ca (Kc Jt rfl) ?_))))
 refine Co (.string _) hF sizeOf9 rfl rfl Gn OU ?_
 clear hF; rintro w hF -
 refine Cc (Ca (Lf rfl) ?_)
 refine Pb hF (LC ((Pa [101, 69] (Lib.trimPrefix s [45])).1) [46] (by have := Rf s [45]; have := Tf [101, 69] (Lib.trimPrefix s [45]); omega) _) (Qb Q6 rfl rfl rfl) ?_
 clear hF; intro w hF
 refine Ca (Xm rfl) (Ca (TC rfl rfl) (Ca (TC rfl rfl) (Ca (Ar rfl rfl) (Ca (Qj rfl) (Ca (Qj rfl) (Ca (Ec rfl) (Cc (Ca (Lf rfl) (Ca (Lf rfl) (Ca (Kc Qp rfl) ?_))))))))))
 refine Co (.string _) hF sizeOf9 rfl rfl Gn WM ?_
 clear hF; rintro w hF -
 refine Ca (Kc Mo rfl) ?_
 refine Co (.string _) hF sizeOf9 rfl rfl Gn LP ?_
 clear hF; rintro w hF -
 refine Ea (Ia (Ka (Ca (Lf rfl) ?_)))
 refine Pb hF (Xj ((Pa [46] ((Pa [101, 69] (Lib.trimPrefix s [45])).1)).1) _) (Eb Wt rfl rfl) ?_
 clear hF; intro w hF
 refine Ca (Oo rfl) (Ca (Fd rfl) ?_)
 refine We (d := 52) rfl (fun hg8 => ?_) (fun hg8 => ?_)
 refine Sa (Sa (Sa (Sa (Sa (Sa (Ca (Oc rfl rfl) (Ea (Ae rfl (Ka (Qd (Bm isAgg114 sizeOf114 rfl hF.F 0 rfl rfl) ?_))))))))))
 refine An hF sizeOf114 rfl rfl Gn ?_
 clear hF; rintro w hF -
 refine Ca (Ec rfl) (Ea ?_)
 refine Fc (Bc (Za (Le rfl (l := [.bool (Lib.hasPrefix s [45]), .bool false, .string (bs ((Pa [46] ((Pa [101, 69] (Lib.trimPrefix s [45])).1)).1)), .string (bs ((Pa [46] ((Pa [101, 69] (Lib.trimPrefix s [45])).1)).2.1)), .string (bs ((Pa [101, 69] (Lib.trimPrefix s [45])).2.1))]) rfl isAgg114 sizeOf114 rfl (hF.cellsAll 0 rfl) (v := .bool false) rfl) ?_))
 refine ⟨?_, hF.same⟩
 simp_all [Rb, Ge, Do, Ch]
 refine Ca (Fd rfl) (Ca (Fd rfl) ?_)
 refine We (d := 54) rfl (fun hg9 => ?_) (fun hg9 => ?_)
 refine Ca (Lf rfl) ?_
 refine Pb hF (Xj ((Pa [46] ((Pa [101, 69] (Lib.trimPrefix s [45])).1)).2.1) _) (Eb Wt rfl rfl) ?_
 clear hF; intro w hF
 refine Ca (Oo rfl) (Ca (Oc rfl rfl) (Ca (Jd rfl rfl) (Ea ?_)))
 refine Pj rfl rfl (fun hc3 => ?_) (fun hc3 => ?_)
 refine Ka (Qd (Bm isAgg114 sizeOf114 rfl hF.F 0 rfl rfl) ?_)
 refine An hF sizeOf114 rfl rfl Gn ?_
 clear hF; rintro w hF -
 refine Ca (Ec rfl) (Ea ?_)
 refine Fc (Bc (Za (Le rfl (l := [.bool (Lib.hasPrefix s [45]), .bool false, .string (bs ((Pa [46] ((Pa [101, 69] (Lib.trimPrefix s [45])).1)).1)), .string (bs ((Pa [46] ((Pa [101, 69] (Lib.trimPrefix s [45])).1)).2.1)), .string (bs ((Pa [101, 69] (Lib.trimPrefix s [45])).2.1))]) rfl isAgg114 sizeOf114 rfl (hF.cellsAll 0 rfl) (v := .bool false) rfl) ?_))
 refine ⟨?_, hF.same⟩
 simp_all [Rb, Ge, Do, Ch]
 refine Wa (Ha (Ia ?_))
 refine Uf (zs := []) (.free 0 (.free 1 (.free 2 (.free 3 (.free 4 (.free 5 (.free 6 (.free 7 (.act 8 (.free 9 .nil)))))))))) hF ?_
 clear hF; intro w hF
 refine Zo rfl (Bm isAgg114 sizeOf114 rfl C0 0 rfl rfl) (Xa rfl (Lf rfl) (Xa rfl (M_ rfl rfl) (Xa rfl (Fd rfl) ?_)))
 refine Bh (d := 64) rfl (fun hg10 => ?_) (fun hg10 => ?_)
 refine Ta rfl ?_
 refine Ta rfl ?_
 refine Ta rfl ?_
 refine Xa rfl (Oc rfl rfl) ?_
 refine Tt rfl hF sizeOf114 rfl rfl Gn ?_
 clear hF; rintro w hF -
 refine ⟨hF, ?_⟩
 refine Xa rfl (Ec rfl) (Jc (Ha ?_))
 refine Fc (Bc (Za (Le rfl (l := [.bool (Lib.hasPrefix s [45]), .bool false, .string (bs ((Pa [46] ((Pa [101, 69] (Lib.trimPrefix s [45])).1)).1)), .string (bs ((Pa [46] ((Pa [101, 69] (Lib.trimPrefix s [45])).1)).2.1)), .string (bs ((Pa [101, 69] (Lib.trimPrefix s [45])).2.1))]) rfl isAgg114 sizeOf114 rfl (hF.cellsAll 0 rfl) (v := .bool true) rfl) ?_))
 refine ⟨?_, hF.same⟩
 simp_all [Rb, Ge, Do, Ch]
 refine Xa rfl (Lf rfl) ?_
 have hpos := List.length_pos_iff.2 (Hk (s := (Pa [46] (Pa [101, 69] (Lib.trimPrefix s [45])).1).1) (by simp_all))
 refine Qa rfl (v := .int .u8 (((((Pa [46] ((Pa [101, 69] (Lib.trimPrefix s [45])).1)).1 : Str)[0]'(hpos)).toNat : Int))) (fun w hC => Xh (0) underlying9 rfl rfl (hpos)) (Xa rfl (Ux rfl rfl) (Xa rfl (Jd rfl rfl) ?_))
 refine Tt rfl hF sizeOf114 rfl rfl Gn ?_
 clear hF; rintro w hF -
 refine ⟨hF, ?_⟩
 refine Xa rfl (Ec rfl) (Jc (Ha ?_))
 refine Fc (Bc (Za (Le rfl (l := [.bool (Lib.hasPrefix s [45]), .bool false, .string (bs ((Pa [46] ((Pa [101, 69] (Lib.trimPrefix s [45])).1)).1)), .string (bs ((Pa [46] ((Pa [101, 69] (Lib.trimPrefix s [45])).1)).2.1)), .string (bs ((Pa [101, 69] (Lib.trimPrefix s [45])).2.1))]) rfl isAgg114 sizeOf114 rfl (hF.cellsAll 0 rfl) (v := .bool (decide ((((((Pa [46] ((Pa [101, 69] (Lib.trimPrefix s [45])).1)).1 : Str)[0]'(hpos)).toNat : Int) : Int) ≠ (48 : Int)))) rfl) ?_))
 refine ⟨?_, hF.same⟩
 simp_all [Rb, Ge, Do, Ch]
 refine Sa (Sa (Sa (Ca (Jd rfl rfl) (Ca (Jd rfl rfl) (Ea (Wq rfl (Ia ?_)))))))
 refine Uf (zs := []) (.free 0 (.free 1 (.free 2 (.free 3 (.free 4 (.free 5 (.free 6 (.free 7 (.act 8 (.free 9 .nil)))))))))) hF ?_
 clear hF; intro w hF
 refine Zo rfl (Bm isAgg114 sizeOf114 rfl C0 0 rfl rfl) (Xa rfl (Lf rfl) (Xa rfl (M_ rfl rfl) (Xa rfl (Fd rfl) ?_)))
 refine Bh (d := 64) rfl (fun hg11 => ?_) (fun hg11 => ?_)
 refine Ta rfl ?_
 refine Ta rfl ?_
 refine Ta rfl ?_
 refine Xa rfl (Oc rfl rfl) ?_
 refine Tt rfl hF sizeOf114 rfl rfl Gn ?_
 clear hF; rintro w hF -
 refine ⟨hF, ?_⟩
 refine Xa rfl (Ec rfl) (Jc (Ha ?_))
 refine Fc (Bc (Za (Le rfl (l := [.bool (Lib.hasPrefix s [45]), .bool false, .string (bs ((Pa [46] ((Pa [101, 69] (Lib.trimPrefix s [45])).1)).1)), .string (bs ((Pa [46] ((Pa [101, 69] (Lib.trimPrefix s [45])).1)).2.1)), .string (bs ((Pa [101, 69] (Lib.trimPrefix s [45])).2.1))]) rfl isAgg114 sizeOf114 rfl (hF.cellsAll 0 rfl) (v := .bool true) rfl) ?_))
 refine ⟨?_, hF.same⟩
 simp_all [Rb, Ge, Do, Ch]
 refine Xa rfl (Lf rfl) ?_
 have hpos := List.length_pos_iff.2 (Hk (s := (Pa [46] (Pa [101, 69] (Lib.trimPrefix s [45])).1).1) (by simp_all))
 refine Qa rfl (v := .int .u8 (((((Pa [46] ((Pa [101, 69] (Lib.trimPrefix s [45])).1)).1 : Str)[0]'(hpos)).toNat : Int))) (fun w hC => Xh (0) underlying9 rfl rfl (hpos)) (Xa rfl (Ux rfl rfl) (Xa rfl (Jd rfl rfl) ?_))
 refine Tt rfl hF sizeOf114 rfl rfl Gn ?_
 clear hF; rintro w hF -
 refine ⟨hF, ?_⟩
 refine Xa rfl (Ec rfl) (Jc (Ha ?_))
 refine Fc (Bc (Za (Le rfl (l := [.bool (Lib.hasPrefix s [45]), .bool false, .string (bs ((Pa [46] ((Pa [101, 69] (Lib.trimPrefix s [45])).1)).1)), .string (bs ((Pa [46] ((Pa [101, 69] (Lib.trimPrefix s [45])).1)).2.1)), .string (bs ((Pa [101, 69] (Lib.trimPrefix s [45])).2.1))]) rfl isAgg114 sizeOf114 rfl (hF.cellsAll 0 rfl) (v := .bool (decide ((((((Pa [46] ((Pa [101, 69] (Lib.trimPrefix s [45])).1)).1 : Str)[0]'(hpos)).toNat : Int) : Int) ≠ (48 : Int)))) rfl) ?_))
 refine ⟨?_, hF.same⟩
 simp_all [Rb, Ge, Do, Ch]
end Go.Scarf
