/- A part of the proof. -/
import Derived.Test.YtepbomjpbdbejaaGreatDoorFacts
import Derived.Test.YtepbomjpbdbejaaGreatDoorNum
import Derived.Test.YtepbomjpbdbejaaGreatDoorShelf
set_option linter.all false
set_option maxHeartbeats 8000000
set_option maxRecDepth 10000
namespace Go.Scarf
open Go.RowKit Go.Proofs Go.Proofs.Tryz
theorem Nx (w : World) (a b : Num) : (Op.equal 71 (Jn a) (Jn b)).run prog w = .ok (decide (a = b)) w := by
  obtain ⟨p, a, m⟩ := a
  obtain ⟨q, b, n⟩ := b
  have h := R5 a b
  simp only [Jn, Num.mk.injEq]
  generalize bs a = u at *
  generalize bs b = v at *
  simp [Op.equal, Op.maxDepth, run_equalIn_struct, go_sem]
  have h' : u.toList = v.toList ↔ a = b := by
    rw [← decide_eq_true_eq (p := a = b), ← h, beq_iff_eq]
  by_cases h1 : p = q <;> by_cases h2 : a = b <;> by_cases h3 : m = n <;> simp [h1, h2, h3, h'.2, show ¬ a = b → ¬ u.toList = v.toList from fun hn he => hn (h'.1 he)]
theorem TK {ρ : Operand → Value} {w : World} {dst : Option Nat} {ty : TypeId} {pos : String} {aft : Array Edge} {g : Option (Nat × Bool)} {x y : Operand} {a b : Num} (hx : ρ x = Jn a) (hy : ρ y = Jn b) :
    (execOp ρ ⟨dst, .binOp .eql 71 x y 71, ty, pos, aft, g⟩).run prog w = .ok (.value (.bool (decide (a = b)))) w := by
  have hg : (eqGuard .eql 71 x y (Jn a) (Jn b)).run prog w = .ok () w := by
    simp [eqGuard, Jn]
  have h := Nx w a b
  simp only [execOp, hx, hy, Sem.run_bind, hg, Result.andThen_ok]
  have hb : (binOp .eql 71 (Jn a) (Jn b)).run prog w = .ok (.bool (decide (a = b))) w := by
    simp only [Jn, binOp] at h ⊢
    simp only [Sem.run_bind, h, Result.andThen_ok, Sem.run_pure]
  rw [hb]; rfl
theorem Yt (s q : Str) (w : World) : Calls prog 107 #[.string (bs s), .string (bs q)] w (Nd fun v w' => v = .tuple #[.string (bs (Lib.trimPrefix s q)), .bool (Lib.hasPrefix s q)] ∧ Same [] w w') := Jo (strings_CutPrefix (bs s) (bs q) w)
theorem H2 (s q : Str) (w : World) : Calls prog 109 #[.string (bs s), .string (bs q)] w (Nd fun v w' => v = .string (bs (Lib.trimPrefix s q)) ∧ Same [] w w') := Jo (strings_TrimPrefix (bs s) (bs q) w)
theorem Gu (s : Str) (w : World) : Calls prog 89 #[.string (bs s), .string (bs [48])] w (Nd fun v w' => v = .string (bs (Lib.trimLeftB s 48)) ∧ Same [] w w') := Jo (strings_TrimLeft_one (bs s) 48 Pa w)
theorem R1 (s : Str) (w : World) (h : s.length ≤ 9223372036854775807) : Calls prog 90 #[.string (bs s), .string (bs [48])] w (Nd fun v w' => v = .string (bs (Lib.trimRightB s 48)) ∧ Same [] w w') := Jo (strings_TrimRight_one (bs s) 48 Pa w h)
theorem M3 (s : Str) (c : UInt8) (w : World) : Calls prog 138 #[.string (bs s), .int .u8 (c.toNat : Int)] w (Nd fun v w' => v = .int .i64 (Lib.indexByte s c) ∧ Same [] w w') := by
  have := Jo (strings_IndexByte (bs s) (c.toNat : Int) w)
  simpa using this
theorem Xi (s : Str) (w0 : World) : Calls prog 86 #[.string (bs s)] w0 (Nd fun v w' => v = .bool (Tp s) ∧ Same [] w0 w') := by
 refine Ka func86 rfl ntmps86 Kb (Yc _) ?_
 have hF := FR.start w0 []
 refine Ma (Ca (Gc rfl) (Ga (Ia (Ma (Ca (Xe rfl) ?_)))))
 refine Cs (str := s) hF underlying9 rfl ?_
 clear hF; rintro b1 w hb1 hF -
 refine Ga (Va ?_)
 refine Xc (fun μ σ w => ∃ (q : Nat), μ = s.length - q ∧ (q ≤ s.length) ∧ ((s.take q).all Si = true) ∧ AllEq σ [(0, .string (bs s)), (6, .pointer (some ⟨b1, 0, none⟩))] ∧ FR w0 [] [(b1, .stringIter (bs s) (q))] w) _ ⟨0, rfl, (Nat.zero_le _), Fa, I3, hF⟩ ?_
 clear hF; rintro μ σ w ⟨q, rfl, hq, ha, hs, hF⟩
 refine Cg.slots hs ?_
 clear hs; intro σ
 refine Ma ?_
 by_cases hn0 : (q) < (s : Str).length
 refine Su 0 (p := q) (str := s) hF rfl rfl hn0 ?_
 clear hF; rintro w hF -
 replace hF : FR w0 [] [(b1, .stringIter (bs s) (q + (Utf8.decode (bs s) (q)).2))] w := hF
 refine Ca (Wq rfl rfl) (Ga (Ia (Je rfl (Wa (Ha (Va (Ma (Ca (Co rfl rfl) (Ca (Ic rfl) (Ga ?_))))))))))
 refine Ma (Ca (Ib rfl) (Ca (Yl rfl rfl) (Ca (Ld rfl) ?_)))
 refine Ad (d := 12) rfl (fun hg1 => ?_) (fun hg1 => ?_)
 refine Ta (Ta (Ca (Wc rfl rfl) (Ga (Je rfl (Ma (Ca (Gc rfl) (Ga ?_)))))))
 refine Wd (v := .bool false) rfl rfl ?_
 have hd := (Rq s q by_Om).2 by_Om
 exact ⟨by unfold Tp; rw [Ix by_Om hd]; simp, hF.same⟩
 refine Ca (Ib rfl) (Ca (Iy rfl rfl) (Ca (Pd rfl rfl) (Ga ?_)))
 refine Jc rfl rfl (fun hc1 => ?_) (fun hc1 => ?_)
 refine Ma (Ca (Gc rfl) (Ga ?_))
 refine Wd (v := .bool false) rfl rfl ?_
 have hd := (Rq s q by_Om).2 by_Om
 exact ⟨by unfold Tp; rw [Ix by_Om hd]; simp, hF.same⟩
 refine Wa (Ob ?_)
 have hd := (Rq s q by_Om).1 ⟨by omega, by omega⟩
 rw [hd.2] at hF
 refine Ec ⟨_, ?_, q + 1, rfl, by_Om, (Fy by_Om ha hd.1), I3, hF⟩
 omega
 refine Ym 0 (p := q) (str := s) hF rfl rfl hn0 ?_
 refine Ca (Wq rfl rfl) (Ga (Ia (Mg rfl ?_)))
 refine Lc (Hc rfl ?_)
 refine Ha (Ma (Ca (Xe rfl) (Ca (VN rfl rfl) (Ca (Gc rfl) (Ga ?_)))))
 refine Wd (v := .bool _) rfl rfl ?_
 have e : s.take q = s := List.take_of_length_le by_Om
 rw [e] at ha
 exact ⟨by unfold Tp; rw [ha]; simp, hF.same⟩
theorem Zz (x : Num) (hl : x.digits.length ≤ 140737488355328) (w0 : World) : Calls prog 57 #[Jn x] w0 (Nd fun v w' => v = .bool (Ke x) ∧ Same [] w0 w') := by
 refine Ka func57 rfl ntmps57 Kb (Yc _) ?_
 have hF := FR.start w0 []
 refine Ma ?_
 refine Ij hF rfl ?_
 clear hF; rintro b1 w hb1 hF -
 refine Ca (Gc rfl) (Dc (Ca (Ac Fr rfl) (Md (Nv isAgg9 rfl hF.F 0 rfl rfl) (Ca (Li rfl) (Ga (Ia (Va (Ma ?_))))))))
 refine Md (Pk isAgg71 sizeOf71 rfl hF.F 0 rfl rfl) ?_
 refine Ja (w' := w) (v := .agg #[.bool false, .string (bs []), .int .i64 0]) Eb ?_
 refine Ja (v := .bool (decide (x = Num.zero))) (TK (a := x) (b := Num.zero) rfl rfl) (Ca (Gc rfl) (Ga ?_))
 refine Jc rfl rfl (fun hc0 => ?_) (fun hc0 => ?_)
 refine Ma (Ca (Gc rfl) (Ga ?_))
 refine Wd (v := .bool true) rfl rfl ?_
 exact ⟨by rw [N4 hc0], hF.same⟩
 refine Ia (Ma (Ca (Xe rfl) ?_))
 refine Pb hF (Xi (x.digits) _) (Fb Jr rfl rfl) ?_
 clear hF; intro w hF
 refine Ca (Lp rfl) (Ca (Gc rfl) (Ga ?_))
 refine Qj rfl rfl (fun hc1 => ?_) (fun hc1 => ?_)
 refine Wa (Ha (Je rfl (Ma (Ca (Gc rfl) (Ga ?_)))))
 refine Wd (v := .bool false) rfl rfl ?_
 exact ⟨by rw [W4 hc0 hc1], hF.same⟩
 refine Ma (Ca (Xe rfl) (Ca (W3 underlying9 rfl) (Ca (Iy rfl rfl) (Ca (Gc rfl) (Ga ?_)))))
 refine Jc rfl rfl (fun hc2 => ?_) (fun hc2 => ?_)
 refine Wa (Ha (Je rfl (Ma (Ca (Gc rfl) (Ga ?_)))))
 refine Wd (v := .bool false) rfl rfl ?_
 exact ⟨by rw [O4 hc0 hc2], hF.same⟩
 refine Ma (Ca (Xe rfl) ?_)
 refine Ja (v := .int .u8 ((((x.digits : Str)[0]'(List.length_pos_iff.2 (Ti (by simpa using hc1)))).toNat : Int))) (Zg (0) underlying9 rfl rfl (List.length_pos_iff.2 (Ti (by simpa using hc1)))) ?_
 refine Ca (Do rfl rfl) (Ca (Gc rfl) (Ga ?_))
 refine Jc rfl rfl (fun hc3 => ?_) (fun hc3 => ?_)
 refine Wa (Ha (Je rfl (Ma (Ca (Gc rfl) (Ga ?_)))))
 refine Wd (v := .bool false) rfl rfl ?_
 exact ⟨by rw [I4 hc0 _ hc3], hF.same⟩
 refine Ea (Ca (Xe rfl) (Ca (Xe rfl) (Ca (W3 underlying9 rfl) ?_)))
 refine Ja (v := .int .i64 (((x.digits.length - 1 : Nat) : Int))) (Ls rfl rfl (Ng (by have := List.length_pos_iff.2 (Ti (s := x.digits) (by simpa using hc1)); omega) by_Om by_Om)) ?_
 refine Ja (v := .int .u8 ((((x.digits : Str)[x.digits.length - 1]'(by have := List.length_pos_iff.2 (Ti (s := x.digits) (by simpa using hc1)); omega)).toNat : Int))) (Zg (x.digits.length - 1) underlying9 rfl rfl (by have := List.length_pos_iff.2 (Ti (s := x.digits) (by simpa using hc1)); omega)) ?_
 refine Ca (Do rfl rfl) (Ca (Gc rfl) (Ga ?_))
 refine Jc rfl rfl (fun hc4 => ?_) (fun hc4 => ?_)
 refine Ma (Ca (Gc rfl) (Ga ?_))
 refine Wd (v := .bool false) rfl rfl ?_
 exact ⟨by rw [G5 hc0 _ hc4], hF.same⟩
 refine Wa (Ob (Ha (Ma (Ca (Ac Ok rfl) (Md (Rr isAgg3 rfl hF.F 0 rfl rfl) (Ca (SE rfl rfl) (Ca (Ld rfl) ?_)))))))
 refine Ad (d := 29) rfl (fun hg0 => ?_) (fun hg0 => ?_)
 refine Ca (Ac Ok rfl) (Md (Rr isAgg3 rfl hF.F 0 rfl rfl) (Ca (KI rfl rfl) (Ca (Wc rfl rfl) (Ca (Gc rfl) (Ga ?_)))))
 refine Wd (v := .bool _) rfl rfl ?_
 exact ⟨by rw [Cv hc0 hc1 hc2 _ hc3 _ hc4]; simp [hg0], hF.same⟩
 refine Ta (Ta (Ta (Ca (Pd rfl rfl) (Ca (Gc rfl) (Ga ?_)))))
 refine Wd (v := .bool false) rfl rfl ?_
 exact ⟨by rw [Cv hc0 hc1 hc2 _ hc3 _ hc4]; simp [hg0], hF.same⟩
def R7 : List Int := [0, 1, 56, 2, 57, 49, 28, 3, 61, 58, 42, 50, 38, 29, 17, 4, 62, 47, 59, 36, 45, 43, 51, 22, 53, 39, 33, 30, 24, 18, 12, 5, 63, 55, 48, 27, 60, 41, 37, 16, 46, 35, 44, 21, 52, 32, 23, 11, 54, 26, 40, 15, 34, 20, 31, 10, 25, 14, 19, 9, 13, 8, 7, 6]
structure Gl (w : World) : Prop where
  size : 7 ≤ w.heap.size
  tabs : Lib.Utf8Tabs 0 1 w
  pow : ∃ e fz, w.heap[2]? = some (.cells (Lib.pow10Tab.map (fun z => Value.int .u64 z)).toArray e fz)
  rng : ∃ tp q e fz, w.heap[4]? = some (.cells #[.iface tp q] e fz)
  syn : ∃ tp q e fz, w.heap[3]? = some (.cells #[.iface tp q] e fz)
  bru : ∃ e fz, w.heap[6]? = some (.cells (R7.map (fun z => Value.int .u8 z)).toArray e fz)
theorem Gl.same {w w' : World} {Ds : List Nat} (h : Gl w) (hs : Same Ds w w') (hd : ∀ b ∈ Ds, 7 ≤ b) : Gl w' := by
  have hb : ∀ b, b < 7 → w'.heap[b]? = w.heap[b]? := fun b hb => hs.block b (Nat.lt_of_lt_of_le hb h.size) (fun hi => by have := hd b hi; omega)
  refine ⟨Nat.le_trans h.size hs.size, ⟨fun c hc => ?_, fun i hi => ⟨?_, ?_⟩⟩, ?_, ?_, ?_, ?_⟩
  · rw [← h.tabs.1 c hc]; exact World.cell?_of_block (w := w) (hb 0 by_Om)
  · rw [← (h.tabs.2 i hi).1]; exact World.cell?_of_block (w := w) (hb 1 by_Om)
  · rw [← (h.tabs.2 i hi).2]; exact World.cell?_of_block (w := w) (hb 1 by_Om)
  · rw [hb 2 by_Om]; exact h.pow
  · rw [hb 4 by_Om]; exact h.rng
  · rw [hb 3 by_Om]; exact h.syn
  · rw [hb 6 by_Om]; exact h.bru
theorem Gl.ext {w w' : World} (h : Gl w) (hs : Same [] w w') : Gl w' := h.same hs Fa
theorem Gl.tabIs {w : World} (h : Gl w) : Lib.TabIs prog w "internal/strconv.uint64pow10" IntKind.u64 Lib.pow10Tab := by
  obtain ⟨e, fz, hh⟩ := h.pow
  have hg : prog.globalNamed "internal/strconv.uint64pow10" = some 2 := by kernel_rfl
  simp [Lib.TabIs, World.var?, hg, hh]
theorem Gl.err {w : World} (h : Gl w) : ∃ tp q, World.var? prog w "strconv.ErrRange" = some #[.iface tp q] := by
  obtain ⟨tp, q, e, fz, hh⟩ := h.rng
  have hg : prog.globalNamed "strconv.ErrRange" = some 4 := by kernel_rfl
  exact ⟨tp, q, by simp [World.var?, hg, hh]⟩
theorem Gl.serr {w : World} (h : Gl w) : ∃ tp q, World.var? prog w "strconv.ErrSyntax" = some #[.iface tp q] := by
  obtain ⟨tp, q, e, fz, hh⟩ := h.syn
  have hg : prog.globalNamed "strconv.ErrSyntax" = some 3 := by kernel_rfl
  exact ⟨tp, q, by simp [World.var?, hg, hh]⟩
theorem JB (w : World) (k : Nat) (os : Array Obj) : Same [] w (Go.Sort.grow (w.drewN k) os) :=
  ⟨rfl, rfl, rfl, by rw [Go.Sort.size_grow]; exact Nat.le_add_right _ _, fun b hb _ => Go.Sort.heap_grow_old (w.drewN k) os hb⟩
theorem V5 (n : Int) (h1 : -9223372036854775808 ≤ n) (h2 : n ≤ 9223372036854775807) {w : World} (hG : Gl w) : Calls prog 58 #[.int .i64 n] w (Nd fun v w' => v = .string (bs (Lib.itoa n)) ∧ Same [] w w') :=
  (strconv_Itoa n h1 h2 w hG.tabIs).mono fun e w' ⟨he, k, os, hw⟩ => ⟨_, he, rfl, by subst hw; exact JB w k os⟩
theorem UD (x : Num) (hl : x.digits.length ≤ 140737488355328) (w0 : World) (hG : Gl w0) : Calls prog 37 #[Jn x] w0 (Nd fun v w' => v = .string (bs (Zn x)) ∧ Same [] w0 w') := by
 refine Ka func37 rfl ntmps37 Kb (Yc _) ?_
 have hF := FR.start w0 []
 refine Ma ?_
 refine Ij hF rfl ?_
 clear hF; rintro b1 w hb1 hF -
 refine Ca (Li rfl) (Ga (Ia (Ma (Md (Pk isAgg71 sizeOf71 rfl hF.F 0 rfl rfl) ?_))))
 refine Pb hF (Zz x hl _) (Fb IF rfl rfl) ?_
 clear hF; intro w hF
 refine Ca (Lp rfl) (Ga ?_)
 refine Qj rfl rfl (fun hc0 => ?_) (fun hc0 => ?_)
 refine Ma (Ca (Li rfl) (Ga ?_))
 refine Wd (v := .string (bs [])) rfl rfl ?_
 refine ⟨?_, hF.same⟩
 simp_all [Zn]
 refine Wa (Ha (Ia (Ma (Ca (Ac Fr rfl) (Md (Nv isAgg9 rfl hF.F 0 rfl rfl) (Ca (O5 rfl rfl) (Ga ?_)))))))
 refine Jc rfl rfl (fun hc1 => ?_) (fun hc1 => ?_)
 refine Ma (Ca (Li rfl) (Ga ?_))
 refine Wd (v := .string (bs [48])) rfl rfl ?_
 refine ⟨?_, hF.same⟩
 simp_all [Zn]
 refine Wa (Ha (Ma (Ca (Ac Fr rfl) (Md (Nv isAgg9 rfl hF.F 0 rfl rfl) (Ca (Li rfl) (Ga (Ia (Ma (Ca (Ac L9 rfl) (Md (RL isAgg4 rfl hF.F 0 rfl rfl) ?_))))))))))
 refine Ga ?_
 refine Qj rfl rfl (fun hc2 => ?_) (fun hc2 => ?_)
 refine Ea (Ca (Xe rfl) ?_)
 refine Ja (v := .string (bs (([45]) ++ (x.digits)))) (Mo rfl rfl (by simp; omega)) ?_
 refine Ca (Li rfl) (Ga (Ia (Ma (Ca (Ac Ok rfl) (Md (Rr isAgg3 rfl hF.F 0 rfl rfl) (Ca (Xx rfl rfl) (Ga ?_)))))))
 refine Jc rfl rfl (fun hc3 => ?_) (fun hc3 => ?_)
 refine Ea (Ca (Xe rfl) (Ca (Ac Ok rfl) (Md (Rr isAgg3 rfl hF.F 0 rfl rfl) ?_)))
 refine Pb hF (V5 x.exp (by have := Jd (x := x) (by simpa using hc0); omega) (by have := Jd (x := x) (by simpa using hc0); omega) (hG.ext hF.same)) (Fb PB rfl rfl) ?_
 clear hF; intro w hF
 refine Ja (v := .string (bs (([101]) ++ (Lib.itoa x.exp)))) (Mo rfl rfl (by have := Lib.itoa_length_le x.exp (by have := Jd (x := x) (by simpa using hc0); omega) (by have := Jd (x := x) (by simpa using hc0); omega); simp; omega)) ?_
 refine Ja (v := .string (bs ((([45]) ++ (x.digits)) ++ (([101]) ++ (Lib.itoa x.exp))))) (Mo rfl rfl (by have := Lib.itoa_length_le x.exp (by have := Jd (x := x) (by simpa using hc0); omega) (by have := Jd (x := x) (by simpa using hc0); omega); simp; omega)) ?_
 refine Ca (Li rfl) (Dc (Ca (Xe rfl) (Ca (Li rfl) (Ga ?_))))
 refine Zb (Xb (Ua (Gx (v := .string (bs ((([45]) ++ (x.digits)) ++ (([101]) ++ (Lib.itoa x.exp))))) rfl rfl) ?_))
 refine ⟨?_, hF.same⟩
 simp_all [Zn]
 refine Wa (Ha (Ma (Ca (Xe rfl) (Ca (Li rfl) (Ga ?_)))))
 refine Wd (v := .string (bs (([45]) ++ (x.digits)))) rfl rfl ?_
 refine ⟨?_, hF.same⟩
 simp_all [Zn]
 refine Wa (Ha (Ia (Ma (Ca (Ac Ok rfl) (Md (Rr isAgg3 rfl hF.F 0 rfl rfl) (Ca (Xx rfl rfl) (Ga ?_)))))))
 refine Jc rfl rfl (fun hc3 => ?_) (fun hc3 => ?_)
 refine Ea (Ca (Xe rfl) (Ca (Ac Ok rfl) (Md (Rr isAgg3 rfl hF.F 0 rfl rfl) ?_)))
 refine Pb hF (V5 x.exp (by have := Jd (x := x) (by simpa using hc0); omega) (by have := Jd (x := x) (by simpa using hc0); omega) (hG.ext hF.same)) (Fb PB rfl rfl) ?_
 clear hF; intro w hF
 refine Ja (v := .string (bs (([101]) ++ (Lib.itoa x.exp)))) (Mo rfl rfl (by have := Lib.itoa_length_le x.exp (by have := Jd (x := x) (by simpa using hc0); omega) (by have := Jd (x := x) (by simpa using hc0); omega); simp; omega)) ?_
 refine Ja (v := .string (bs ((x.digits) ++ (([101]) ++ (Lib.itoa x.exp))))) (Mo rfl rfl (by have := Lib.itoa_length_le x.exp (by have := Jd (x := x) (by simpa using hc0); omega) (by have := Jd (x := x) (by simpa using hc0); omega); simp; omega)) ?_
 refine Ca (Li rfl) (Dc (Ca (Xe rfl) (Ca (Li rfl) (Ga ?_))))
 refine Zb (Xb (Ua (Gx (v := .string (bs ((x.digits) ++ (([101]) ++ (Lib.itoa x.exp))))) rfl rfl) ?_))
 refine ⟨?_, hF.same⟩
 simp_all [Zn]
 refine Wa (Ha (Ma (Ca (Xe rfl) (Ca (Li rfl) (Ga ?_)))))
 refine Wd (v := .string (bs (x.digits))) rfl rfl ?_
 refine ⟨?_, hF.same⟩
 simp_all [Zn]
theorem V8 (s at_ : Str) (hl : s.length ≤ 140737488355328) (w0 : World) : Calls prog 108 #[.string (bs s), .string (bs at_)] w0 (Nd fun v w' => v = .tuple #[.string (bs (Oa at_ s).1), .string (bs (Oa at_ s).2.1), .bool (Oa at_ s).2.2] ∧ Same [] w0 w') := by
 refine Ka func108 rfl ntmps108 Kb (Td _ _) ?_
 have hF := FR.start w0 []
 refine Ma (Ca (Li rfl) (Ca (Li rfl) (Ca (Gc rfl) (Ga (Ia (Ma (Ca (Xe rfl) (Ca (W3 underlying9 rfl) (Ca (Ib rfl) (Za ?_))))))))))
 refine Ha (Va ?_)
 refine Xc (fun μ σ w => ∃ (q : Nat), μ = s.length - q ∧ (q ≤ s.length) ∧ (∀ c ∈ s.take q, at_.contains c = false) ∧ AllEq σ [(0, .string (bs s)), (1, .string (bs at_)), (9, .int .i64 ((((s) : Str).length : Int))), (10, .int .i64 ((q : Int)))] ∧ FR w0 [] [] w) _ ⟨0, rfl, (Nat.zero_le _), Fa, Xt, hF⟩ ?_
 clear hF; rintro μ σ w ⟨q, rfl, hq, hno, hs, hF⟩
 refine Cg.slots hs ?_
 clear hs; intro σ
 refine Ma (Ca (Yl rfl rfl) (Ga (Ia ?_)))
 refine Jc rfl rfl (fun hc0 => ?_) (fun hc0 => ?_)
 refine Wa (Ha (Ia (Va (Ma (Ca (Ib rfl) (Ca (Ic rfl) (Dc (Ca (Xe rfl) (Ca (Xe rfl) ?_)))))))))
 refine Ca (Ib rfl) (Ja (v := .int .u8 ((((s : Str)[q]'by_Om).toNat : Int))) (Zg (q) underlying9 rfl rfl by_Om) ?_)
 refine Pb hF (M3 at_ _ _) (Mb UK rfl rfl rfl) ?_
 clear hF; intro w hF
 refine Ca (SE rfl rfl) (Ga ?_)
 refine Jc rfl rfl (fun hc1 => ?_) (fun hc1 => ?_)
 refine Ia ?_
 refine Bg (zs := []) (.free 0 (.free 1 (.free 2 (.free 3 (.free 4 (.free 5 (.free 6 (.free 7 (.free 8 (.free 9 .nil)))))))))) hF ?_
 clear hF; intro w hF
 refine Cb rfl (Xe rfl) (Cb rfl (Ib rfl) (Qa rfl (v := .string (bs ((s : Str).take (q)))) (fun w hC => YB (q) underlying9 rfl rfl by_Om) (Cb rfl (Xe rfl) (Cb rfl (Ib rfl) (Cb rfl (Bj (((q + 1 : Nat) : Int)) rfl rfl) (Qa rfl (v := .string (bs ((s : Str).drop (q + 1)))) (fun w hC => T4 (q + 1) underlying9 rfl rfl by_Om) (Cb rfl (Li rfl) (Cb rfl (Li rfl) (Cb rfl (Gc rfl) (Bc (Ha ?_)))))))))))
 refine Zb (Xb (Ua (Lu (v := .string (bs ((s : Str).take (q)))) (x := .string (bs ((s : Str).drop (q + 1)))) (y := .bool true) rfl rfl rfl rfl) ?_))
 exact ⟨by rw [My by_Om hno (Ss hc1)], hF.same⟩
 refine Wa (Ob (Ha (Ea (Ca (Dm rfl rfl) (Ca (Ib rfl) (Za ?_))))))
 refine Ec ⟨_, ?_, q + 1, rfl, by_Om, (KG by_Om hno (Qx hc1)), Xt, hF⟩
 omega
 refine Lc (Hc rfl ?_)
 refine Ha (Ma (Ca (Xe rfl) (Ca (Li rfl) (Ca (Li rfl) (Ca (Gc rfl) (Ga ?_))))))
 refine Zb (Xb (Ua (Lu (v := .string (bs s)) (x := .string (bs [])) (y := .bool false) rfl rfl rfl rfl) ?_))
 have e : s.take q = s := List.take_of_length_le by_Om
 rw [e] at hno
 exact ⟨by rw [Gy hno], hF.same⟩
theorem DJ (s : Str) (hl : s.length ≤ 140737488355328) (w0 : World) : Calls prog 88 #[.string (bs s)] w0 (Nd fun v w' => v = .tuple #[Cm (Qb s).1, .bool (Qb s).2] ∧ Same [] w0 w') := by
 refine Ka func88 rfl ntmps88 Kb (Yc _) ?_
 have hF := FR.start w0 []
 refine Ma ?_
 refine Ch (cs := #[.bool false, .bool false, .string (bs []), .string (bs []), .string (bs [])]) hF zeroValue114 rfl ?_
 clear hF; rintro b1 w hb1 hF -
 refine Ca (Gc rfl) (Dc (Ca (Xe rfl) ?_))
 refine Pb hF (Yt s [45] _) (Mb DF rfl rfl rfl) ?_
 clear hF; intro w hF
 refine Ca (Wm rfl) (Ca (FB rfl rfl) (Ca (Wq rfl rfl) (Ca (Li rfl) (Ca (Ac C3 rfl) ?_))))
 refine Fm (.bool _) hF sizeOf4 rfl rfl Ol Ol ?_
 clear hF; rintro w hF -
 refine Dc (Ca (Xe rfl) ?_)
 refine Pb hF (V8 (Lib.trimPrefix s [45]) [101, 69] (by have := Ef s [45]; have := Df [101, 69] (Lib.trimPrefix s [45]); omega) _) (Mb J0 rfl rfl rfl) ?_
 clear hF; intro w hF
 refine Ca (Wm rfl) (Ca (FB rfl rfl) (Ca (FB rfl rfl) (Ca (Wq rfl rfl) (Ca (Li rfl) (Ca (Li rfl) (Ca (Gc rfl) (Ga (Ia (Ma (Ca (Ld rfl) (Za ?_)))))))))))
 refine Ha ?_
 refine Qj rfl rfl (fun hc0 => ?_) (fun hc0 => ?_)
 refine Ma (Ca (Xe rfl) ?_)
 refine Pb hF (Yt ((Oa [101, 69] (Lib.trimPrefix s [45])).2.1) [45] _) (Mb DF rfl rfl rfl) ?_
 clear hF; intro w hF
 refine Ca (Wm rfl) (Ca (FB rfl rfl) (Ca (Wq rfl rfl) (Ca (Li rfl) (Ca (Ac Cw rfl) ?_))))
 refine Fm (.bool _) hF sizeOf4 rfl rfl Ol I2 ?_
 clear hF; rintro w hF -
 refine Ga (Ia (Ma (Ca (Ac Cw rfl) (Md (RL isAgg4 rfl hF.F 0 rfl rfl) (Ca (Lp rfl) (Ga ?_))))))
 refine Qj rfl rfl (fun hc1 => ?_) (fun hc1 => ?_)
 refine Ea (Ca (Xe rfl) ?_)
 refine Pb hF (H2 (Lib.trimPrefix ((Oa [101, 69] (Lib.trimPrefix s [45])).2.1) [45]) [43] _) (Mb YJ rfl rfl rfl) ?_
 clear hF; intro w hF
 refine Ca (Li rfl) (Dc (Ca (Xe rfl) ?_))
 refine Pb hF (Xi (Lib.trimPrefix (Lib.trimPrefix ((Oa [101, 69] (Lib.trimPrefix s [45])).2.1) [45]) [43]) _) (Fb Jr rfl rfl) ?_
 clear hF; intro w hF
 refine Ca (Lp rfl) (Ga ?_)
 refine Qj rfl rfl (fun hc2 => ?_) (fun hc2 => ?_)
 refine Ma (Md (Pk isAgg114 sizeOf114 rfl hF.F 0 rfl rfl) ?_)
 refine Pl hF sizeOf114 rfl rfl Ol ?_
 clear hF; rintro w hF -
 refine Ca (Gc rfl) (Ga ?_)
 refine Zb (Xb (Ua (Yd rfl (l := [.bool (Lib.hasPrefix s [45]), .bool (Lib.hasPrefix ((Oa [101, 69] (Lib.trimPrefix s [45])).2.1) [45]), .string (bs []), .string (bs []), .string (bs [])]) rfl isAgg114 sizeOf114 rfl (hF.cellsAll 0 rfl) (v := .bool false) rfl) ?_))
 refine ⟨?_, hF.same⟩
 simp_all [Qb, Sd, Cm, Hg]
 refine Wa (Ha (Ma (Ca (Xe rfl) (Ca (Ac Er rfl) ?_))))
 refine Fm (.string _) hF sizeOf9 rfl rfl Ol BN ?_
 clear hF; rintro w hF -
 refine Dc (Ca (Xe rfl) ?_)
 refine Pb hF (V8 ((Oa [101, 69] (Lib.trimPrefix s [45])).1) [46] (by have := Ef s [45]; have := Df [101, 69] (Lib.trimPrefix s [45]); omega) _) (Mb J0 rfl rfl rfl) ?_
 clear hF; intro w hF
 refine Ca (Wm rfl) (Ca (FB rfl rfl) (Ca (FB rfl rfl) (Ca (Wq rfl rfl) (Ca (Li rfl) (Ca (Li rfl) (Ca (Gc rfl) (Dc (Ca (Xe rfl) (Ca (Xe rfl) (Ca (Ac Lo rfl) ?_))))))))))
 refine Fm (.string _) hF sizeOf9 rfl rfl Ol EH ?_
 clear hF; rintro w hF -
 refine Ca (Ac Nm rfl) ?_
 refine Fm (.string _) hF sizeOf9 rfl rfl Ol VJ ?_
 clear hF; rintro w hF -
 refine Ga (Ia (Ma (Ca (Xe rfl) ?_)))
 refine Pb hF (Xi ((Oa [46] ((Oa [101, 69] (Lib.trimPrefix s [45])).1)).1) _) (Fb Jr rfl rfl) ?_
 clear hF; intro w hF
 refine Ca (Lp rfl) (Ca (Ld rfl) ?_)
 refine If (d := 52) rfl (fun hg0 => ?_) (fun hg0 => ?_)
 refine Ta (Ta (Ta (Ta (Ta (Ta (Ca (Wc rfl rfl) (Ga (Je rfl (Ma (Md (Pk isAgg114 sizeOf114 rfl hF.F 0 rfl rfl) ?_))))))))))
 refine Pl hF sizeOf114 rfl rfl Ol ?_
 clear hF; rintro w hF -
 refine Ca (Gc rfl) (Ga ?_)
 refine Zb (Xb (Ua (Yd rfl (l := [.bool (Lib.hasPrefix s [45]), .bool (Lib.hasPrefix ((Oa [101, 69] (Lib.trimPrefix s [45])).2.1) [45]), .string (bs ((Oa [46] ((Oa [101, 69] (Lib.trimPrefix s [45])).1)).1)), .string (bs ((Oa [46] ((Oa [101, 69] (Lib.trimPrefix s [45])).1)).2.1)), .string (bs (Lib.trimPrefix (Lib.trimPrefix ((Oa [101, 69] (Lib.trimPrefix s [45])).2.1) [45]) [43]))]) rfl isAgg114 sizeOf114 rfl (hF.cellsAll 0 rfl) (v := .bool false) rfl) ?_))
 refine ⟨?_, hF.same⟩
 simp_all [Qb, Sd, Cm, Hg]
 refine Ca (Ld rfl) (Ca (Ld rfl) ?_)
 refine If (d := 54) rfl (fun hg1 => ?_) (fun hg1 => ?_)
 refine Ca (Xe rfl) ?_
 refine Pb hF (Xi ((Oa [46] ((Oa [101, 69] (Lib.trimPrefix s [45])).1)).2.1) _) (Fb Jr rfl rfl) ?_
 clear hF; intro w hF
 refine Ca (Lp rfl) (Ca (Wc rfl rfl) (Ca (Pd rfl rfl) (Ga ?_)))
 refine Qj rfl rfl (fun hc3 => ?_) (fun hc3 => ?_)
 refine Ma (Md (Pk isAgg114 sizeOf114 rfl hF.F 0 rfl rfl) ?_)
 refine Pl hF sizeOf114 rfl rfl Ol ?_
 clear hF; rintro w hF -
 refine Ca (Gc rfl) (Ga ?_)
 refine Zb (Xb (Ua (Yd rfl (l := [.bool (Lib.hasPrefix s [45]), .bool (Lib.hasPrefix ((Oa [101, 69] (Lib.trimPrefix s [45])).2.1) [45]), .string (bs ((Oa [46] ((Oa [101, 69] (Lib.trimPrefix s [45])).1)).1)), .string (bs ((Oa [46] ((Oa [101, 69] (Lib.trimPrefix s [45])).1)).2.1)), .string (bs (Lib.trimPrefix (Lib.trimPrefix ((Oa [101, 69] (Lib.trimPrefix s [45])).2.1) [45]) [43]))]) rfl isAgg114 sizeOf114 rfl (hF.cellsAll 0 rfl) (v := .bool false) rfl) ?_))
 refine ⟨?_, hF.same⟩
 simp_all [Qb, Sd, Cm, Hg]
 refine Wa (Ha (Ia ?_))
 refine Bg (zs := []) (.free 0 (.free 1 (.free 2 (.free 3 (.free 4 (.free 5 (.free 6 (.free 7 (.act 8 (.free 9 .nil)))))))))) hF ?_
 clear hF; intro w hF
 refine Eo rfl (Pk isAgg114 sizeOf114 rfl C0 0 rfl rfl) (Cb rfl (Xe rfl) (Cb rfl (O5 rfl rfl) (Cb rfl (Ld rfl) ?_)))
 refine Cl (d := 64) rfl (fun hg2 => ?_) (fun hg2 => ?_)
 refine Xh rfl ?_
 refine Xh rfl ?_
 refine Xh rfl ?_
 refine Cb rfl (Wc rfl rfl) ?_
 refine Hs rfl hF sizeOf114 rfl rfl Ol ?_
 clear hF; rintro w hF -
 refine ⟨hF, ?_⟩
 refine Cb rfl (Gc rfl) (Bc (Ha ?_))
 refine Zb (Xb (Ua (Yd rfl (l := [.bool (Lib.hasPrefix s [45]), .bool (Lib.hasPrefix ((Oa [101, 69] (Lib.trimPrefix s [45])).2.1) [45]), .string (bs ((Oa [46] ((Oa [101, 69] (Lib.trimPrefix s [45])).1)).1)), .string (bs ((Oa [46] ((Oa [101, 69] (Lib.trimPrefix s [45])).1)).2.1)), .string (bs (Lib.trimPrefix (Lib.trimPrefix ((Oa [101, 69] (Lib.trimPrefix s [45])).2.1) [45]) [43]))]) rfl isAgg114 sizeOf114 rfl (hF.cellsAll 0 rfl) (v := .bool true) rfl) ?_))
 refine ⟨?_, hF.same⟩
 simp_all [Qb, Sd, Cm, Hg]
 refine Cb rfl (Xe rfl) ?_
 have hpos := List.length_pos_iff.2 (Ti (s := (Oa [46] (Oa [101, 69] (Lib.trimPrefix s [45])).1).1) (by simp_all))
 refine Qa rfl (v := .int .u8 (((((Oa [46] ((Oa [101, 69] (Lib.trimPrefix s [45])).1)).1 : Str)[0]'(hpos)).toNat : Int))) (fun w hC => Zg (0) underlying9 rfl rfl (hpos)) (Cb rfl (Xx rfl rfl) (Cb rfl (Pd rfl rfl) ?_))
 refine Hs rfl hF sizeOf114 rfl rfl Ol ?_
 clear hF; rintro w hF -
 refine ⟨hF, ?_⟩
 refine Cb rfl (Gc rfl) (Bc (Ha ?_))
 refine Zb (Xb (Ua (Yd rfl (l := [.bool (Lib.hasPrefix s [45]), .bool (Lib.hasPrefix ((Oa [101, 69] (Lib.trimPrefix s [45])).2.1) [45]), .string (bs ((Oa [46] ((Oa [101, 69] (Lib.trimPrefix s [45])).1)).1)), .string (bs ((Oa [46] ((Oa [101, 69] (Lib.trimPrefix s [45])).1)).2.1)), .string (bs (Lib.trimPrefix (Lib.trimPrefix ((Oa [101, 69] (Lib.trimPrefix s [45])).2.1) [45]) [43]))]) rfl isAgg114 sizeOf114 rfl (hF.cellsAll 0 rfl) (v := .bool (decide ((((((Oa [46] ((Oa [101, 69] (Lib.trimPrefix s [45])).1)).1 : Str)[0]'(hpos)).toNat : Int) : Int) ≠ (48 : Int)))) rfl) ?_))
 refine ⟨?_, hF.same⟩
 simp_all [Qb, Sd, Cm, Hg]
 refine Ta (Ta (Ta (Ca (Pd rfl rfl) (Ca (Pd rfl rfl) (Ga (Uw rfl (Ia ?_)))))))
 refine Bg (zs := []) (.free 0 (.free 1 (.free 2 (.free 3 (.free 4 (.free 5 (.free 6 (.free 7 (.act 8 (.free 9 .nil)))))))))) hF ?_
 clear hF; intro w hF
 refine Eo rfl (Pk isAgg114 sizeOf114 rfl C0 0 rfl rfl) (Cb rfl (Xe rfl) (Cb rfl (O5 rfl rfl) (Cb rfl (Ld rfl) ?_)))
 refine Cl (d := 64) rfl (fun hg3 => ?_) (fun hg3 => ?_)
 refine Xh rfl ?_
 refine Xh rfl ?_
 refine Xh rfl ?_
 refine Cb rfl (Wc rfl rfl) ?_
 refine Hs rfl hF sizeOf114 rfl rfl Ol ?_
 clear hF; rintro w hF -
 refine ⟨hF, ?_⟩
 refine Cb rfl (Gc rfl) (Bc (Ha ?_))
 refine Zb (Xb (Ua (Yd rfl (l := [.bool (Lib.hasPrefix s [45]), .bool (Lib.hasPrefix ((Oa [101, 69] (Lib.trimPrefix s [45])).2.1) [45]), .string (bs ((Oa [46] ((Oa [101, 69] (Lib.trimPrefix s [45])).1)).1)), .string (bs ((Oa [46] ((Oa [101, 69] (Lib.trimPrefix s [45])).1)).2.1)), .string (bs (Lib.trimPrefix (Lib.trimPrefix ((Oa [101, 69] (Lib.trimPrefix s [45])).2.1) [45]) [43]))]) rfl isAgg114 sizeOf114 rfl (hF.cellsAll 0 rfl) (v := .bool true) rfl) ?_))
 refine ⟨?_, hF.same⟩
 simp_all [Qb, Sd, Cm, Hg]
 refine Cb rfl (Xe rfl) ?_
 have hpos := List.length_pos_iff.2 (Ti (s := (Oa [46] (Oa [101, 69] (Lib.trimPrefix s [45])).1).1) (by simp_all))
 refine Qa rfl (v := .int .u8 (((((Oa [46] ((Oa [101, 69] (Lib.trimPrefix s [45])).1)).1 : Str)[0]'(hpos)).toNat : Int))) (fun w hC => Zg (0) underlying9 rfl rfl (hpos)) (Cb rfl (Xx rfl rfl) (Cb rfl (Pd rfl rfl) ?_))
 refine Hs rfl hF sizeOf114 rfl rfl Ol ?_
 clear hF; rintro w hF -
 refine ⟨hF, ?_⟩
 refine Cb rfl (Gc rfl) (Bc (Ha ?_))
 refine Zb (Xb (Ua (Yd rfl (l := [.bool (Lib.hasPrefix s [45]), .bool (Lib.hasPrefix ((Oa [101, 69] (Lib.trimPrefix s [45])).2.1) [45]), .string (bs ((Oa [46] ((Oa [101, 69] (Lib.trimPrefix s [45])).1)).1)), .string (bs ((Oa [46] ((Oa [101, 69] (Lib.trimPrefix s [45])).1)).2.1)), .string (bs (Lib.trimPrefix (Lib.trimPrefix ((Oa [101, 69] (Lib.trimPrefix s [45])).2.1) [45]) [43]))]) rfl isAgg114 sizeOf114 rfl (hF.cellsAll 0 rfl) (v := .bool (decide ((((((Oa [46] ((Oa [101, 69] (Lib.trimPrefix s [45])).1)).1 : Str)[0]'(hpos)).toNat : Int) : Int) ≠ (48 : Int)))) rfl) ?_))
 refine ⟨?_, hF.same⟩
 simp_all [Qb, Sd, Cm, Hg]
 refine Wa (Ha (Ma (Ca (Xe rfl) ?_)))
 refine Pb hF (Xi (Lib.trimPrefix ((Oa [101, 69] (Lib.trimPrefix s [45])).2.1) [45]) _) (Fb Jr rfl rfl) ?_
 clear hF; intro w hF
 refine Ca (Lp rfl) (Ga ?_)
 refine Qj rfl rfl (fun hc2 => ?_) (fun hc2 => ?_)
 refine Ma (Md (Pk isAgg114 sizeOf114 rfl hF.F 0 rfl rfl) ?_)
 refine Pl hF sizeOf114 rfl rfl Ol ?_
 clear hF; rintro w hF -
 refine Ca (Gc rfl) (Ga ?_)
 refine Zb (Xb (Ua (Yd rfl (l := [.bool (Lib.hasPrefix s [45]), .bool (Lib.hasPrefix ((Oa [101, 69] (Lib.trimPrefix s [45])).2.1) [45]), .string (bs []), .string (bs []), .string (bs [])]) rfl isAgg114 sizeOf114 rfl (hF.cellsAll 0 rfl) (v := .bool false) rfl) ?_))
 refine ⟨?_, hF.same⟩
 simp_all [Qb, Sd, Cm, Hg]
 refine Wa (Ha (Ma (Ca (Xe rfl) (Ca (Ac Er rfl) ?_))))
 refine Fm (.string _) hF sizeOf9 rfl rfl Ol BN ?_
 clear hF; rintro w hF -
 refine Dc (Ca (Xe rfl) ?_)
 refine Pb hF (V8 ((Oa [101, 69] (Lib.trimPrefix s [45])).1) [46] (by have := Ef s [45]; have := Df [101, 69] (Lib.trimPrefix s [45]); omega) _) (Mb J0 rfl rfl rfl) ?_
 clear hF; intro w hF
 refine Ca (Wm rfl) (Ca (FB rfl rfl) (Ca (FB rfl rfl) (Ca (Wq rfl rfl) (Ca (Li rfl) (Ca (Li rfl) (Ca (Gc rfl) (Dc (Ca (Xe rfl) (Ca (Xe rfl) (Ca (Ac Lo rfl) ?_))))))))))
 refine Fm (.string _) hF sizeOf9 rfl rfl Ol EH ?_
 clear hF; rintro w hF -
 refine Ca (Ac Nm rfl) ?_
 refine Fm (.string _) hF sizeOf9 rfl rfl Ol VJ ?_
 clear hF; rintro w hF -
 refine Ga (Ia (Ma (Ca (Xe rfl) ?_)))
 refine Pb hF (Xi ((Oa [46] ((Oa [101, 69] (Lib.trimPrefix s [45])).1)).1) _) (Fb Jr rfl rfl) ?_
 clear hF; intro w hF
 refine Ca (Lp rfl) (Ca (Ld rfl) ?_)
 refine If (d := 52) rfl (fun hg4 => ?_) (fun hg4 => ?_)
 refine Ta (Ta (Ta (Ta (Ta (Ta (Ca (Wc rfl rfl) (Ga (Je rfl (Ma (Md (Pk isAgg114 sizeOf114 rfl hF.F 0 rfl rfl) ?_))))))))))
 refine Pl hF sizeOf114 rfl rfl Ol ?_
 clear hF; rintro w hF -
 refine Ca (Gc rfl) (Ga ?_)
 refine Zb (Xb (Ua (Yd rfl (l := [.bool (Lib.hasPrefix s [45]), .bool (Lib.hasPrefix ((Oa [101, 69] (Lib.trimPrefix s [45])).2.1) [45]), .string (bs ((Oa [46] ((Oa [101, 69] (Lib.trimPrefix s [45])).1)).1)), .string (bs ((Oa [46] ((Oa [101, 69] (Lib.trimPrefix s [45])).1)).2.1)), .string (bs (Lib.trimPrefix ((Oa [101, 69] (Lib.trimPrefix s [45])).2.1) [45]))]) rfl isAgg114 sizeOf114 rfl (hF.cellsAll 0 rfl) (v := .bool false) rfl) ?_))
 refine ⟨?_, hF.same⟩
 simp_all [Qb, Sd, Cm, Hg]
 refine Ca (Ld rfl) (Ca (Ld rfl) ?_)
 refine If (d := 54) rfl (fun hg5 => ?_) (fun hg5 => ?_)
 refine Ca (Xe rfl) ?_
 refine Pb hF (Xi ((Oa [46] ((Oa [101, 69] (Lib.trimPrefix s [45])).1)).2.1) _) (Fb Jr rfl rfl) ?_
 clear hF; intro w hF
 refine Ca (Lp rfl) (Ca (Wc rfl rfl) (Ca (Pd rfl rfl) (Ga ?_)))
 refine Qj rfl rfl (fun hc3 => ?_) (fun hc3 => ?_)
 refine Ma (Md (Pk isAgg114 sizeOf114 rfl hF.F 0 rfl rfl) ?_)
 refine Pl hF sizeOf114 rfl rfl Ol ?_
 clear hF; rintro w hF -
 refine Ca (Gc rfl) (Ga ?_)
 refine Zb (Xb (Ua (Yd rfl (l := [.bool (Lib.hasPrefix s [45]), .bool (Lib.hasPrefix ((Oa [101, 69] (Lib.trimPrefix s [45])).2.1) [45]), .string (bs ((Oa [46] ((Oa [101, 69] (Lib.trimPrefix s [45])).1)).1)), .string (bs ((Oa [46] ((Oa [101, 69] (Lib.trimPrefix s [45])).1)).2.1)), .string (bs (Lib.trimPrefix ((Oa [101, 69] (Lib.trimPrefix s [45])).2.1) [45]))]) rfl isAgg114 sizeOf114 rfl (hF.cellsAll 0 rfl) (v := .bool false) rfl) ?_))
 refine ⟨?_, hF.same⟩
 simp_all [Qb, Sd, Cm, Hg]
 refine Wa (Ha (Ia ?_))
 refine Bg (zs := []) (.free 0 (.free 1 (.free 2 (.free 3 (.free 4 (.free 5 (.free 6 (.free 7 (.act 8 (.free 9 .nil)))))))))) hF ?_
 clear hF; intro w hF
 refine Eo rfl (Pk isAgg114 sizeOf114 rfl C0 0 rfl rfl) (Cb rfl (Xe rfl) (Cb rfl (O5 rfl rfl) (Cb rfl (Ld rfl) ?_)))
 refine Cl (d := 64) rfl (fun hg6 => ?_) (fun hg6 => ?_)
 refine Xh rfl ?_
 refine Xh rfl ?_
 refine Xh rfl ?_
 refine Cb rfl (Wc rfl rfl) ?_
 refine Hs rfl hF sizeOf114 rfl rfl Ol ?_
 clear hF; rintro w hF -
 refine ⟨hF, ?_⟩
 refine Cb rfl (Gc rfl) (Bc (Ha ?_))
 refine Zb (Xb (Ua (Yd rfl (l := [.bool (Lib.hasPrefix s [45]), .bool (Lib.hasPrefix ((Oa [101, 69] (Lib.trimPrefix s [45])).2.1) [45]), .string (bs ((Oa [46] ((Oa [101, 69] (Lib.trimPrefix s [45])).1)).1)), .string (bs ((Oa [46] ((Oa [101, 69] (Lib.trimPrefix s [45])).1)).2.1)), .string (bs (Lib.trimPrefix ((Oa [101, 69] (Lib.trimPrefix s [45])).2.1) [45]))]) rfl isAgg114 sizeOf114 rfl (hF.cellsAll 0 rfl) (v := .bool true) rfl) ?_))
 refine ⟨?_, hF.same⟩
 simp_all [Qb, Sd, Cm, Hg]
 refine Cb rfl (Xe rfl) ?_
 have hpos := List.length_pos_iff.2 (Ti (s := (Oa [46] (Oa [101, 69] (Lib.trimPrefix s [45])).1).1) (by simp_all))
 refine Qa rfl (v := .int .u8 (((((Oa [46] ((Oa [101, 69] (Lib.trimPrefix s [45])).1)).1 : Str)[0]'(hpos)).toNat : Int))) (fun w hC => Zg (0) underlying9 rfl rfl (hpos)) (Cb rfl (Xx rfl rfl) (Cb rfl (Pd rfl rfl) ?_))
 refine Hs rfl hF sizeOf114 rfl rfl Ol ?_
 clear hF; rintro w hF -
 refine ⟨hF, ?_⟩
 refine Cb rfl (Gc rfl) (Bc (Ha ?_))
 refine Zb (Xb (Ua (Yd rfl (l := [.bool (Lib.hasPrefix s [45]), .bool (Lib.hasPrefix ((Oa [101, 69] (Lib.trimPrefix s [45])).2.1) [45]), .string (bs ((Oa [46] ((Oa [101, 69] (Lib.trimPrefix s [45])).1)).1)), .string (bs ((Oa [46] ((Oa [101, 69] (Lib.trimPrefix s [45])).1)).2.1)), .string (bs (Lib.trimPrefix ((Oa [101, 69] (Lib.trimPrefix s [45])).2.1) [45]))]) rfl isAgg114 sizeOf114 rfl (hF.cellsAll 0 rfl) (v := .bool (decide ((((((Oa [46] ((Oa [101, 69] (Lib.trimPrefix s [45])).1)).1 : Str)[0]'(hpos)).toNat : Int) : Int) ≠ (48 : Int)))) rfl) ?_))
 refine ⟨?_, hF.same⟩
 simp_all [Qb, Sd, Cm, Hg]
 refine Ta (Ta (Ta (Ca (Pd rfl rfl) (Ca (Pd rfl rfl) (Ga (Uw rfl (Ia ?_)))))))
 refine Bg (zs := []) (.free 0 (.free 1 (.free 2 (.free 3 (.free 4 (.free 5 (.free 6 (.free 7 (.act 8 (.free 9 .nil)))))))))) hF ?_
 clear hF; intro w hF
 refine Eo rfl (Pk isAgg114 sizeOf114 rfl C0 0 rfl rfl) (Cb rfl (Xe rfl) (Cb rfl (O5 rfl rfl) (Cb rfl (Ld rfl) ?_)))
 refine Cl (d := 64) rfl (fun hg7 => ?_) (fun hg7 => ?_)
 refine Xh rfl ?_
 refine Xh rfl ?_
 refine Xh rfl ?_
 refine Cb rfl (Wc rfl rfl) ?_
 refine Hs rfl hF sizeOf114 rfl rfl Ol ?_
 clear hF; rintro w hF -
 refine ⟨hF, ?_⟩
 refine Cb rfl (Gc rfl) (Bc (Ha ?_))
 refine Zb (Xb (Ua (Yd rfl (l := [.bool (Lib.hasPrefix s [45]), .bool (Lib.hasPrefix ((Oa [101, 69] (Lib.trimPrefix s [45])).2.1) [45]), .string (bs ((Oa [46] ((Oa [101, 69] (Lib.trimPrefix s [45])).1)).1)), .string (bs ((Oa [46] ((Oa [101, 69] (Lib.trimPrefix s [45])).1)).2.1)), .string (bs (Lib.trimPrefix ((Oa [101, 69] (Lib.trimPrefix s [45])).2.1) [45]))]) rfl isAgg114 sizeOf114 rfl (hF.cellsAll 0 rfl) (v := .bool true) rfl) ?_))
 refine ⟨?_, hF.same⟩
 simp_all [Qb, Sd, Cm, Hg]
 refine Cb rfl (Xe rfl) ?_
 have hpos := List.length_pos_iff.2 (Ti (s := (Oa [46] (Oa [101, 69] (Lib.trimPrefix s [45])).1).1) (by simp_all))
 refine Qa rfl (v := .int .u8 (((((Oa [46] ((Oa [101, 69] (Lib.trimPrefix s [45])).1)).1 : Str)[0]'(hpos)).toNat : Int))) (fun w hC => Zg (0) underlying9 rfl rfl (hpos)) (Cb rfl (Xx rfl rfl) (Cb rfl (Pd rfl rfl) ?_))
 refine Hs rfl hF sizeOf114 rfl rfl Ol ?_
 clear hF; rintro w hF -
 refine ⟨hF, ?_⟩
 refine Cb rfl (Gc rfl) (Bc (Ha ?_))
 refine Zb (Xb (Ua (Yd rfl (l := [.bool (Lib.hasPrefix s [45]), .bool (Lib.hasPrefix ((Oa [101, 69] (Lib.trimPrefix s [45])).2.1) [45]), .string (bs ((Oa [46] ((Oa [101, 69] (Lib.trimPrefix s [45])).1)).1)), .string (bs ((Oa [46] ((Oa [101, 69] (Lib.trimPrefix s [45])).1)).2.1)), .string (bs (Lib.trimPrefix ((Oa [101, 69] (Lib.trimPrefix s [45])).2.1) [45]))]) rfl isAgg114 sizeOf114 rfl (hF.cellsAll 0 rfl) (v := .bool (decide ((((((Oa [46] ((Oa [101, 69] (Lib.trimPrefix s [45])).1)).1 : Str)[0]'(hpos)).toNat : Int) : Int) ≠ (48 : Int)))) rfl) ?_))
 refine ⟨?_, hF.same⟩
 simp_all [Qb, Sd, Cm, Hg]
 refine Wa (Ha (Ma (Ca (Xe rfl) (Ca (Ac Er rfl) ?_))))
 refine Fm (.string _) hF sizeOf9 rfl rfl Ol BN ?_
 clear hF; rintro w hF -
 refine Dc (Ca (Xe rfl) ?_)
 refine Pb hF (V8 ((Oa [101, 69] (Lib.trimPrefix s [45])).1) [46] (by have := Ef s [45]; have := Df [101, 69] (Lib.trimPrefix s [45]); omega) _) (Mb J0 rfl rfl rfl) ?_
 clear hF; intro w hF
 refine Ca (Wm rfl) (Ca (FB rfl rfl) (Ca (FB rfl rfl) (Ca (Wq rfl rfl) (Ca (Li rfl) (Ca (Li rfl) (Ca (Gc rfl) (Dc (Ca (Xe rfl) (Ca (Xe rfl) (Ca (Ac Lo rfl) ?_))))))))))
 refine Fm (.string _) hF sizeOf9 rfl rfl Ol EH ?_
 clear hF; rintro w hF -
 refine Ca (Ac Nm rfl) ?_
 refine Fm (.string _) hF sizeOf9 rfl rfl Ol VJ ?_
 clear hF; rintro w hF -
 refine Ga (Ia (Ma (Ca (Xe rfl) ?_)))
 refine Pb hF (Xi ((Oa [46] ((Oa [101, 69] (Lib.trimPrefix s [45])).1)).1) _) (Fb Jr rfl rfl) ?_
 clear hF; intro w hF
 refine Ca (Lp rfl) (Ca (Ld rfl) ?_)
 refine If (d := 52) rfl (fun hg8 => ?_) (fun hg8 => ?_)
 refine Ta (Ta (Ta (Ta (Ta (Ta (Ca (Wc rfl rfl) (Ga (Je rfl (Ma (Md (Pk isAgg114 sizeOf114 rfl hF.F 0 rfl rfl) ?_))))))))))
 refine Pl hF sizeOf114 rfl rfl Ol ?_
 clear hF; rintro w hF -
 refine Ca (Gc rfl) (Ga ?_)
 refine Zb (Xb (Ua (Yd rfl (l := [.bool (Lib.hasPrefix s [45]), .bool false, .string (bs ((Oa [46] ((Oa [101, 69] (Lib.trimPrefix s [45])).1)).1)), .string (bs ((Oa [46] ((Oa [101, 69] (Lib.trimPrefix s [45])).1)).2.1)), .string (bs ((Oa [101, 69] (Lib.trimPrefix s [45])).2.1))]) rfl isAgg114 sizeOf114 rfl (hF.cellsAll 0 rfl) (v := .bool false) rfl) ?_))
 refine ⟨?_, hF.same⟩
 simp_all [Qb, Sd, Cm, Hg]
 refine Ca (Ld rfl) (Ca (Ld rfl) ?_)
 refine If (d := 54) rfl (fun hg9 => ?_) (fun hg9 => ?_)
 refine Ca (Xe rfl) ?_
 refine Pb hF (Xi ((Oa [46] ((Oa [101, 69] (Lib.trimPrefix s [45])).1)).2.1) _) (Fb Jr rfl rfl) ?_
 clear hF; intro w hF
 refine Ca (Lp rfl) (Ca (Wc rfl rfl) (Ca (Pd rfl rfl) (Ga ?_)))
 refine Qj rfl rfl (fun hc3 => ?_) (fun hc3 => ?_)
 refine Ma (Md (Pk isAgg114 sizeOf114 rfl hF.F 0 rfl rfl) ?_)
 refine Pl hF sizeOf114 rfl rfl Ol ?_
 clear hF; rintro w hF -
 refine Ca (Gc rfl) (Ga ?_)
 refine Zb (Xb (Ua (Yd rfl (l := [.bool (Lib.hasPrefix s [45]), .bool false, .string (bs ((Oa [46] ((Oa [101, 69] (Lib.trimPrefix s [45])).1)).1)), .string (bs ((Oa [46] ((Oa [101, 69] (Lib.trimPrefix s [45])).1)).2.1)), .string (bs ((Oa [101, 69] (Lib.trimPrefix s [45])).2.1))]) rfl isAgg114 sizeOf114 rfl (hF.cellsAll 0 rfl) (v := .bool false) rfl) ?_))
 refine ⟨?_, hF.same⟩
 simp_all [Qb, Sd, Cm, Hg]
 refine Wa (Ha (Ia ?_))
 refine Bg (zs := []) (.free 0 (.free 1 (.free 2 (.free 3 (.free 4 (.free 5 (.free 6 (.free 7 (.act 8 (.free 9 .nil)))))))))) hF ?_
 clear hF; intro w hF
 refine Eo rfl (Pk isAgg114 sizeOf114 rfl C0 0 rfl rfl) (Cb rfl (Xe rfl) (Cb rfl (O5 rfl rfl) (Cb rfl (Ld rfl) ?_)))
 refine Cl (d := 64) rfl (fun hg10 => ?_) (fun hg10 => ?_)
 refine Xh rfl ?_
 refine Xh rfl ?_
 refine Xh rfl ?_
 refine Cb rfl (Wc rfl rfl) ?_
 refine Hs rfl hF sizeOf114 rfl rfl Ol ?_
 clear hF; rintro w hF -
 refine ⟨hF, ?_⟩
 refine Cb rfl (Gc rfl) (Bc (Ha ?_))
 refine Zb (Xb (Ua (Yd rfl (l := [.bool (Lib.hasPrefix s [45]), .bool false, .string (bs ((Oa [46] ((Oa [101, 69] (Lib.trimPrefix s [45])).1)).1)), .string (bs ((Oa [46] ((Oa [101, 69] (Lib.trimPrefix s [45])).1)).2.1)), .string (bs ((Oa [101, 69] (Lib.trimPrefix s [45])).2.1))]) rfl isAgg114 sizeOf114 rfl (hF.cellsAll 0 rfl) (v := .bool true) rfl) ?_))
 refine ⟨?_, hF.same⟩
 simp_all [Qb, Sd, Cm, Hg]
 refine Cb rfl (Xe rfl) ?_
 have hpos := List.length_pos_iff.2 (Ti (s := (Oa [46] (Oa [101, 69] (Lib.trimPrefix s [45])).1).1) (by simp_all))
 refine Qa rfl (v := .int .u8 (((((Oa [46] ((Oa [101, 69] (Lib.trimPrefix s [45])).1)).1 : Str)[0]'(hpos)).toNat : Int))) (fun w hC => Zg (0) underlying9 rfl rfl (hpos)) (Cb rfl (Xx rfl rfl) (Cb rfl (Pd rfl rfl) ?_))
 refine Hs rfl hF sizeOf114 rfl rfl Ol ?_
 clear hF; rintro w hF -
 refine ⟨hF, ?_⟩
 refine Cb rfl (Gc rfl) (Bc (Ha ?_))
 refine Zb (Xb (Ua (Yd rfl (l := [.bool (Lib.hasPrefix s [45]), .bool false, .string (bs ((Oa [46] ((Oa [101, 69] (Lib.trimPrefix s [45])).1)).1)), .string (bs ((Oa [46] ((Oa [101, 69] (Lib.trimPrefix s [45])).1)).2.1)), .string (bs ((Oa [101, 69] (Lib.trimPrefix s [45])).2.1))]) rfl isAgg114 sizeOf114 rfl (hF.cellsAll 0 rfl) (v := .bool (decide ((((((Oa [46] ((Oa [101, 69] (Lib.trimPrefix s [45])).1)).1 : Str)[0]'(hpos)).toNat : Int) : Int) ≠ (48 : Int)))) rfl) ?_))
 refine ⟨?_, hF.same⟩
 simp_all [Qb, Sd, Cm, Hg]
 refine Ta (Ta (Ta (Ca (Pd rfl rfl) (Ca (Pd rfl rfl) (Ga (Uw rfl (Ia ?_)))))))
 refine Bg (zs := []) (.free 0 (.free 1 (.free 2 (.free 3 (.free 4 (.free 5 (.free 6 (.free 7 (.act 8 (.free 9 .nil)))))))))) hF ?_
 clear hF; intro w hF
 refine Eo rfl (Pk isAgg114 sizeOf114 rfl C0 0 rfl rfl) (Cb rfl (Xe rfl) (Cb rfl (O5 rfl rfl) (Cb rfl (Ld rfl) ?_)))
 refine Cl (d := 64) rfl (fun hg11 => ?_) (fun hg11 => ?_)
 refine Xh rfl ?_
 refine Xh rfl ?_
 refine Xh rfl ?_
 refine Cb rfl (Wc rfl rfl) ?_
 refine Hs rfl hF sizeOf114 rfl rfl Ol ?_
 clear hF; rintro w hF -
 refine ⟨hF, ?_⟩
 refine Cb rfl (Gc rfl) (Bc (Ha ?_))
 refine Zb (Xb (Ua (Yd rfl (l := [.bool (Lib.hasPrefix s [45]), .bool false, .string (bs ((Oa [46] ((Oa [101, 69] (Lib.trimPrefix s [45])).1)).1)), .string (bs ((Oa [46] ((Oa [101, 69] (Lib.trimPrefix s [45])).1)).2.1)), .string (bs ((Oa [101, 69] (Lib.trimPrefix s [45])).2.1))]) rfl isAgg114 sizeOf114 rfl (hF.cellsAll 0 rfl) (v := .bool true) rfl) ?_))
 refine ⟨?_, hF.same⟩
 simp_all [Qb, Sd, Cm, Hg]
 refine Cb rfl (Xe rfl) ?_
 have hpos := List.length_pos_iff.2 (Ti (s := (Oa [46] (Oa [101, 69] (Lib.trimPrefix s [45])).1).1) (by simp_all))
 refine Qa rfl (v := .int .u8 (((((Oa [46] ((Oa [101, 69] (Lib.trimPrefix s [45])).1)).1 : Str)[0]'(hpos)).toNat : Int))) (fun w hC => Zg (0) underlying9 rfl rfl (hpos)) (Cb rfl (Xx rfl rfl) (Cb rfl (Pd rfl rfl) ?_))
 refine Hs rfl hF sizeOf114 rfl rfl Ol ?_
 clear hF; rintro w hF -
 refine ⟨hF, ?_⟩
 refine Cb rfl (Gc rfl) (Bc (Ha ?_))
 refine Zb (Xb (Ua (Yd rfl (l := [.bool (Lib.hasPrefix s [45]), .bool false, .string (bs ((Oa [46] ((Oa [101, 69] (Lib.trimPrefix s [45])).1)).1)), .string (bs ((Oa [46] ((Oa [101, 69] (Lib.trimPrefix s [45])).1)).2.1)), .string (bs ((Oa [101, 69] (Lib.trimPrefix s [45])).2.1))]) rfl isAgg114 sizeOf114 rfl (hF.cellsAll 0 rfl) (v := .bool (decide ((((((Oa [46] ((Oa [101, 69] (Lib.trimPrefix s [45])).1)).1 : Str)[0]'(hpos)).toNat : Int) : Int) ≠ (48 : Int)))) rfl) ?_))
 refine ⟨?_, hF.same⟩
 simp_all [Qb, Sd, Cm, Hg]
end Go.Scarf
