/- A part of the proof. -/
import Derived.Test.YtepbomjpbdbejaaGreatDoorFacts
import Derived.Test.YtepbomjpbdbejaaGreatDoorNum
import Derived.Test.YtepbomjpbdbejaaGreatDoorShelf
set_option linter.all false
set_option maxHeartbeats 8000000
set_option maxRecDepth 10000
namespace Go.Scarf
open Go.RowKit Go.Proofs Go.Proofs.Tryz
theorem Ux (w : World) (a b : Num) : (Op.equal 71 (Zm a) (Zm b)).run prog w = .ok (decide (a = b)) w := by
  obtain ⟨p, a, m⟩ := a
  obtain ⟨q, b, n⟩ := b
  have h := C7 a b
  simp only [Zm, Num.mk.injEq]
  generalize bs a = u at *
  generalize bs b = v at *
  simp [Op.equal, Op.maxDepth, run_equalIn_struct, go_sem]
  have h' : u.toList = v.toList ↔ a = b := by
    rw [← decide_eq_true_eq (p := a = b), ← h, beq_iff_eq]
  by_cases h1 : p = q <;> by_cases h2 : a = b <;> by_cases h3 : m = n <;> simp [h1, h2, h3, h'.2, show ¬ a = b → ¬ u.toList = v.toList from fun hn he => hn (h'.1 he)]
theorem ZG {ρ : Operand → Value} {w : World} {dst : Option Nat} {ty : TypeId} {pos : String} {aft : Array Edge} {g : Option (Nat × Bool)} {x y : Operand} {a b : Num} (hx : ρ x = Zm a) (hy : ρ y = Zm b) :
    (execOp ρ ⟨dst, .binOp .eql 71 x y 71, ty, pos, aft, g⟩).run prog w = .ok (.value (.bool (decide (a = b)))) w := by
  have hg : (eqGuard .eql 71 x y (Zm a) (Zm b)).run prog w = .ok () w := by
    simp [eqGuard, Zm]
  have h := Ux w a b
  simp only [execOp, hx, hy, Sem.run_bind, hg, Result.andThen_ok]
  have hb : (binOp .eql 71 (Zm a) (Zm b)).run prog w = .ok (.bool (decide (a = b))) w := by
    simp only [Zm, binOp] at h ⊢
    simp only [Sem.run_bind, h, Result.andThen_ok, Sem.run_pure]
  rw [hb]; rfl
theorem Vt (s q : Str) (w : World) : Calls prog 107 #[.string (bs s), .string (bs q)] w (Kd fun v w' => v = .tuple #[.string (bs (Lib.trimPrefix s q)), .bool (Lib.hasPrefix s q)] ∧ Same [] w w') := Wo (strings_CutPrefix (bs s) (bs q) w)
theorem U0 (s q : Str) (w : World) : Calls prog 109 #[.string (bs s), .string (bs q)] w (Kd fun v w' => v = .string (bs (Lib.trimPrefix s q)) ∧ Same [] w w') := Wo (strings_TrimPrefix (bs s) (bs q) w)
theorem St (s : Str) (w : World) : Calls prog 89 #[.string (bs s), .string (bs [48])] w (Kd fun v w' => v = .string (bs (Lib.trimLeftB s 48)) ∧ Same [] w w') := Wo (strings_TrimLeft_one (bs s) 48 Qa w)
theorem D1 (s : Str) (w : World) (h : s.length ≤ 9223372036854775807) : Calls prog 90 #[.string (bs s), .string (bs [48])] w (Kd fun v w' => v = .string (bs (Lib.trimRightB s 48)) ∧ Same [] w w') := Wo (strings_TrimRight_one (bs s) 48 Qa w h)
theorem U3 (s : Str) (c : UInt8) (w : World) : Calls prog 138 #[.string (bs s), .int .u8 (c.toNat : Int)] w (Kd fun v w' => v = .int .i64 (Lib.indexByte s c) ∧ Same [] w w') := by
  have := Wo (strings_IndexByte (bs s) (c.toNat : Int) w)
  simpa using this
theorem Pi (s : Str) (w0 : World) : Calls prog 86 #[.string (bs s)] w0 (Kd fun v w' => v = .bool (Jp s) ∧ Same [] w0 w') := by
 refine Ka func86 rfl ntmps86 Jb (Vc _) ?_
 have hF := FR.start w0 []
 refine Ma (Ca (Gc rfl) (Ha (Ia (Ma (Ca (Ve rfl) ?_)))))
 refine Hr (str := s) hF underlying9 rfl ?_
 clear hF; rintro b1 w hb1 hF -
 refine Ha (Za ?_)
 refine Uc (fun μ σ w => ∃ (q : Nat), μ = s.length - q ∧ (q ≤ s.length) ∧ ((s.take q).all Mi = true) ∧ AllEq σ [(0, .string (bs s)), (6, .pointer (some ⟨b1, 0, none⟩))] ∧ FR w0 [] [(b1, .stringIter (bs s) (q))] w) _ ⟨0, rfl, (Nat.zero_le _), Fa, EB, hF⟩ ?_
 clear hF; rintro μ σ w ⟨q, rfl, hq, ha, hs, hF⟩
 refine Cg.slots hs ?_
 clear hs; intro σ
 refine Ma ?_
 by_cases hn0 : (q) < (s : Str).length
 refine Lu 0 (p := q) (str := s) hF rfl rfl hn0 ?_
 clear hF; rintro w hF -
 replace hF : FR w0 [] [(b1, .stringIter (bs s) (q + (Utf8.decode (bs s) (q)).2))] w := hF
 refine Ca (Dp rfl rfl) (Ha (Ia (He rfl (Xa (Ga (Za (Ma (Ca (At rfl rfl) (Ca (Qc rfl) (Ha ?_))))))))))
 refine Ma (Ca (Hb rfl) (Ca (Zl rfl rfl) (Ca (Ud rfl) ?_)))
 refine Dd (d := 12) rfl (fun hg1 => ?_) (fun hg1 => ?_)
 refine Pa (Pa (Ca (Xc rfl rfl) (Ha (He rfl (Ma (Ca (Gc rfl) (Ha ?_)))))))
 refine Le (v := .bool false) rfl rfl ?_
 have hd := (Gq s q by_Om).2 by_Om
 exact ⟨by unfold Jp; rw [Ew by_Om hd]; simp, hF.same⟩
 refine Ca (Hb rfl) (Ca (Rx rfl rfl) (Ca (Md rfl rfl) (Ha ?_)))
 refine Jc rfl rfl (fun hc1 => ?_) (fun hc1 => ?_)
 refine Ma (Ca (Gc rfl) (Ha ?_))
 refine Le (v := .bool false) rfl rfl ?_
 have hd := (Gq s q by_Om).2 by_Om
 exact ⟨by unfold Jp; rw [Ew by_Om hd]; simp, hF.same⟩
 refine Xa (Mb ?_)
 have hd := (Gq s q by_Om).1 ⟨by omega, by omega⟩
 rw [hd.2] at hF
 refine Fc ⟨_, ?_, q + 1, rfl, by_Om, (Jx by_Om ha hd.1), EB, hF⟩
 omega
 refine Mn 0 (p := q) (str := s) hF rfl rfl hn0 ?_
 refine Ca (Dp rfl rfl) (Ha (Ia (Nf rfl ?_)))
 refine Oc (Mc rfl ?_)
 refine Ga (Ma (Ca (Ve rfl) (Ca (RL rfl rfl) (Ca (Gc rfl) (Ha ?_)))))
 refine Le (v := .bool _) rfl rfl ?_
 have e : s.take q = s := List.take_of_length_le by_Om
 rw [e] at ha
 exact ⟨by unfold Jp; rw [ha]; simp, hF.same⟩
theorem L0 (x : Num) (hl : x.digits.length ≤ 140737488355328) (w0 : World) : Calls prog 57 #[Zm x] w0 (Kd fun v w' => v = .bool (Ie x) ∧ Same [] w0 w') := by
 refine Ka func57 rfl ntmps57 Jb (Vc _) ?_
 have hF := FR.start w0 []
 refine Ma ?_
 refine Vj hF rfl ?_
 clear hF; rintro b1 w hb1 hF -
 refine Ca (Gc rfl) (Dc (Ca (Ac Gr rfl) (Pd (Cx isAgg9 rfl hF.F 0 rfl rfl) (Ca (Ti rfl) (Ha (Ia (Za (Ma ?_))))))))
 refine Pd (Pk isAgg71 sizeOf71 rfl hF.F 0 rfl rfl) ?_
 refine Ja (w' := w) (v := .agg #[.bool false, .string (bs []), .int .i64 0]) Db ?_
 refine Ja (v := .bool (decide (x = Num.zero))) (ZG (a := x) (b := Num.zero) rfl rfl) (Ca (Gc rfl) (Ha ?_))
 refine Jc rfl rfl (fun hc0 => ?_) (fun hc0 => ?_)
 refine Ma (Ca (Gc rfl) (Ha ?_))
 refine Le (v := .bool true) rfl rfl ?_
 exact ⟨by rw [V3 hc0], hF.same⟩
 refine Ia (Ma (Ca (Ve rfl) ?_))
 refine Pb hF (Pi (x.digits) _) (Ib Nr rfl rfl) ?_
 clear hF; intro w hF
 refine Ca (Zo rfl) (Ca (Gc rfl) (Ha ?_))
 refine Gk rfl rfl (fun hc1 => ?_) (fun hc1 => ?_)
 refine Xa (Ga (He rfl (Ma (Ca (Gc rfl) (Ha ?_)))))
 refine Le (v := .bool false) rfl rfl ?_
 exact ⟨by rw [Y1 hc0 hc1], hF.same⟩
 refine Ma (Ca (Ve rfl) (Ca (X5 underlying9 rfl) (Ca (Rx rfl rfl) (Ca (Gc rfl) (Ha ?_)))))
 refine Jc rfl rfl (fun hc2 => ?_) (fun hc2 => ?_)
 refine Xa (Ga (He rfl (Ma (Ca (Gc rfl) (Ha ?_)))))
 refine Le (v := .bool false) rfl rfl ?_
 exact ⟨by rw [I1 hc0 hc2], hF.same⟩
 refine Ma (Ca (Ve rfl) ?_)
 refine Ja (v := .int .u8 ((((x.digits : Str)[0]'(List.length_pos_iff.2 (Li (by simpa using hc1)))).toNat : Int))) (Ug (0) underlying9 rfl rfl (List.length_pos_iff.2 (Li (by simpa using hc1)))) ?_
 refine Ca (Un rfl rfl) (Ca (Gc rfl) (Ha ?_))
 refine Jc rfl rfl (fun hc3 => ?_) (fun hc3 => ?_)
 refine Xa (Ga (He rfl (Ma (Ca (Gc rfl) (Ha ?_)))))
 refine Le (v := .bool false) rfl rfl ?_
 exact ⟨by rw [V2 hc0 _ hc3], hF.same⟩
 refine Da (Ca (Ve rfl) (Ca (Ve rfl) (Ca (X5 underlying9 rfl) ?_)))
 refine Ja (v := .int .i64 (((x.digits.length - 1 : Nat) : Int))) (Tt rfl rfl (Gh (by have := List.length_pos_iff.2 (Li (s := x.digits) (by simpa using hc1)); omega) by_Om by_Om)) ?_
 refine Ja (v := .int .u8 ((((x.digits : Str)[x.digits.length - 1]'(by have := List.length_pos_iff.2 (Li (s := x.digits) (by simpa using hc1)); omega)).toNat : Int))) (Ug (x.digits.length - 1) underlying9 rfl rfl (by have := List.length_pos_iff.2 (Li (s := x.digits) (by simpa using hc1)); omega)) ?_
 refine Ca (Un rfl rfl) (Ca (Gc rfl) (Ha ?_))
 refine Jc rfl rfl (fun hc4 => ?_) (fun hc4 => ?_)
 refine Ma (Ca (Gc rfl) (Ha ?_))
 refine Le (v := .bool false) rfl rfl ?_
 exact ⟨by rw [J4 hc0 _ hc4], hF.same⟩
 refine Xa (Mb (Ga (Ma (Ca (Ac Bk rfl) (Pd (Ar isAgg3 rfl hF.F 0 rfl rfl) (Ca (CC rfl rfl) (Ca (Ud rfl) ?_)))))))
 refine Dd (d := 29) rfl (fun hg0 => ?_) (fun hg0 => ?_)
 refine Ca (Ac Bk rfl) (Pd (Ar isAgg3 rfl hF.F 0 rfl rfl) (Ca (OH rfl rfl) (Ca (Xc rfl rfl) (Ca (Gc rfl) (Ha ?_)))))
 refine Le (v := .bool _) rfl rfl ?_
 exact ⟨by rw [Kw hc0 hc1 hc2 _ hc3 _ hc4]; simp [hg0], hF.same⟩
 refine Pa (Pa (Pa (Ca (Md rfl rfl) (Ca (Gc rfl) (Ha ?_)))))
 refine Le (v := .bool false) rfl rfl ?_
 exact ⟨by rw [Kw hc0 hc1 hc2 _ hc3 _ hc4]; simp [hg0], hF.same⟩
def V5 : List Int := [0, 1, 56, 2, 57, 49, 28, 3, 61, 58, 42, 50, 38, 29, 17, 4, 62, 47, 59, 36, 45, 43, 51, 22, 53, 39, 33, 30, 24, 18, 12, 5, 63, 55, 48, 27, 60, 41, 37, 16, 46, 35, 44, 21, 52, 32, 23, 11, 54, 26, 40, 15, 34, 20, 31, 10, 25, 14, 19, 9, 13, 8, 7, 6]
structure Gl (w : World) : Prop where
  size : 7 ≤ w.heap.size
  tabs : Lib.Utf8Tabs 0 1 w
  pow : ∃ e fz, w.heap[2]? = some (.cells (Lib.pow10Tab.map (fun z => Value.int .u64 z)).toArray e fz)
  rng : ∃ tp q e fz, w.heap[4]? = some (.cells #[.iface tp q] e fz)
  syn : ∃ tp q e fz, w.heap[3]? = some (.cells #[.iface tp q] e fz)
  bru : ∃ e fz, w.heap[6]? = some (.cells (V5.map (fun z => Value.int .u8 z)).toArray e fz)
theorem Gl.same {w w' : World} {Ds : List Nat} (h : Gl w) (hs : Same Ds w w') (hd : ∀ b ∈ Ds, 7 ≤ b) : Gl w' := by
  have hb : ∀ b, b < 7 → w'.heap[b]? = w.heap[b]? := fun b hb => hs.block b (Nat.lt_of_lt_of_le hb h.size) (fun hi => by have := hd b hi; omega)
  refine ⟨Nat.le_trans h.size hs.size, ⟨fun c hc => ?_, fun i hi => ⟨?_, ?_⟩⟩, ?_, ?_, ?_, ?_⟩
  · rw [← h.tabs.1 c hc]; exact World.cell?_of_block (w := w) (hb 0 by_Om)
  · rw [← (h.tabs.2 i hi).1]; exact World.cell?_of_block (w := w) (hb 1 by_Om)
  · rw [← (h.tabs.2 i hi).2]; exact World.cell?_of_block (w := w) (hb 1 by_Om)
  · rw [hb 2 by_Om]; exact h.pow
  · rw [hb 4 by_Om]; exact h.rng
  · rw [hb 3 by_Om]; exact h.syn
  · rw [hb 6 by_Om]; exact h.bru
theorem Gl.ext {w w' : World} (h : Gl w) (hs : Same [] w w') : Gl w' := h.same hs Fa
theorem Gl.tabIs {w : World} (h : Gl w) : Lib.TabIs prog w "internal/strconv.uint64pow10" IntKind.u64 Lib.pow10Tab := by
  obtain ⟨e, fz, hh⟩ := h.pow
  have hg : prog.globalNamed "internal/strconv.uint64pow10" = some 2 := by kernel_rfl
  simp [Lib.TabIs, World.var?, hg, hh]
theorem Gl.err {w : World} (h : Gl w) : ∃ tp q, World.var? prog w "strconv.ErrRange" = some #[.iface tp q] := by
  obtain ⟨tp, q, e, fz, hh⟩ := h.rng
  have hg : prog.globalNamed "strconv.ErrRange" = some 4 := by kernel_rfl
  exact ⟨tp, q, by simp [World.var?, hg, hh]⟩
theorem Gl.serr {w : World} (h : Gl w) : ∃ tp q, World.var? prog w "strconv.ErrSyntax" = some #[.iface tp q] := by
  obtain ⟨tp, q, e, fz, hh⟩ := h.syn
  have hg : prog.globalNamed "strconv.ErrSyntax" = some 3 := by kernel_rfl
  exact ⟨tp, q, by simp [World.var?, hg, hh]⟩
theorem L9 (w : World) (k : Nat) (os : Array Obj) : Same [] w (Go.Sort.grow (w.drewN k) os) :=
  ⟨rfl, rfl, rfl, by rw [Go.Sort.size_grow]; exact Nat.le_add_right _ _, fun b hb _ => Go.Sort.heap_grow_old (w.drewN k) os hb⟩
theorem T6 (n : Int) (h1 : -9223372036854775808 ≤ n) (h2 : n ≤ 9223372036854775807) {w : World} (hG : Gl w) : Calls prog 58 #[.int .i64 n] w (Kd fun v w' => v = .string (bs (Lib.itoa n)) ∧ Same [] w w') :=
  (strconv_Itoa n h1 h2 w hG.tabIs).mono fun e w' ⟨he, k, os, hw⟩ => ⟨_, he, rfl, by subst hw; exact L9 w k os⟩
theorem DD (x : Num) (hl : x.digits.length ≤ 140737488355328) (w0 : World) (hG : Gl w0) : Calls prog 37 #[Zm x] w0 (Kd fun v w' => v = .string (bs (Pn x)) ∧ Same [] w0 w') := by
 refine Ka func37 rfl ntmps37 Jb (Vc _) ?_
 have hF := FR.start w0 []
 refine Ma ?_
 refine Vj hF rfl ?_
 clear hF; rintro b1 w hb1 hF -
 refine Ca (Ti rfl) (Ha (Ia (Ma (Pd (Pk isAgg71 sizeOf71 rfl hF.F 0 rfl rfl) ?_))))
 refine Pb hF (L0 x hl _) (Ib ZA rfl rfl) ?_
 clear hF; intro w hF
 refine Ca (Zo rfl) (Ha ?_)
 refine Gk rfl rfl (fun hc0 => ?_) (fun hc0 => ?_)
 refine Ma (Ca (Ti rfl) (Ha ?_))
 refine Le (v := .string (bs [])) rfl rfl ?_
 refine ⟨?_, hF.same⟩
 simp_all [Pn]
 refine Xa (Ga (Ia (Ma (Ca (Ac Gr rfl) (Pd (Cx isAgg9 rfl hF.F 0 rfl rfl) (Ca (L4 rfl rfl) (Ha ?_)))))))
 refine Jc rfl rfl (fun hc1 => ?_) (fun hc1 => ?_)
 refine Ma (Ca (Ti rfl) (Ha ?_))
 refine Le (v := .string (bs [48])) rfl rfl ?_
 refine ⟨?_, hF.same⟩
 simp_all [Pn]
 refine Xa (Ga (Ma (Ca (Ac Gr rfl) (Pd (Cx isAgg9 rfl hF.F 0 rfl rfl) (Ca (Ti rfl) (Ha (Ia (Ma (Ca (Ac D7 rfl) (Pd (YK isAgg4 rfl hF.F 0 rfl rfl) ?_))))))))))
 refine Ha ?_
 refine Gk rfl rfl (fun hc2 => ?_) (fun hc2 => ?_)
 refine Da (Ca (Ve rfl) ?_)
 refine Ja (v := .string (bs (([45]) ++ (x.digits)))) (Mo rfl rfl (by simp; omega)) ?_
 refine Ca (Ti rfl) (Ha (Ia (Ma (Ca (Ac Bk rfl) (Pd (Ar isAgg3 rfl hF.F 0 rfl rfl) (Ca (N4 rfl rfl) (Ha ?_)))))))
 refine Jc rfl rfl (fun hc3 => ?_) (fun hc3 => ?_)
 refine Da (Ca (Ve rfl) (Ca (Ac Bk rfl) (Pd (Ar isAgg3 rfl hF.F 0 rfl rfl) ?_)))
 refine Pb hF (T6 x.exp (by have := Fd (x := x) (by simpa using hc0); omega) (by have := Fd (x := x) (by simpa using hc0); omega) (hG.ext hF.same)) (Ib JC rfl rfl) ?_
 clear hF; intro w hF
 refine Ja (v := .string (bs (([101]) ++ (Lib.itoa x.exp)))) (Mo rfl rfl (by have := Lib.itoa_length_le x.exp (by have := Fd (x := x) (by simpa using hc0); omega) (by have := Fd (x := x) (by simpa using hc0); omega); simp; omega)) ?_
 refine Ja (v := .string (bs ((([45]) ++ (x.digits)) ++ (([101]) ++ (Lib.itoa x.exp))))) (Mo rfl rfl (by have := Lib.itoa_length_le x.exp (by have := Fd (x := x) (by simpa using hc0); omega) (by have := Fd (x := x) (by simpa using hc0); omega); simp; omega)) ?_
 refine Ca (Ti rfl) (Dc (Ca (Ve rfl) (Ca (Ti rfl) (Ha ?_))))
 refine Wb (Vb (Ua (Nw (v := .string (bs ((([45]) ++ (x.digits)) ++ (([101]) ++ (Lib.itoa x.exp))))) rfl rfl) ?_))
 refine ⟨?_, hF.same⟩
 simp_all [Pn]
 refine Xa (Ga (Ma (Ca (Ve rfl) (Ca (Ti rfl) (Ha ?_)))))
 refine Le (v := .string (bs (([45]) ++ (x.digits)))) rfl rfl ?_
 refine ⟨?_, hF.same⟩
 simp_all [Pn]
 refine Xa (Ga (Ia (Ma (Ca (Ac Bk rfl) (Pd (Ar isAgg3 rfl hF.F 0 rfl rfl) (Ca (N4 rfl rfl) (Ha ?_)))))))
 refine Jc rfl rfl (fun hc3 => ?_) (fun hc3 => ?_)
 refine Da (Ca (Ve rfl) (Ca (Ac Bk rfl) (Pd (Ar isAgg3 rfl hF.F 0 rfl rfl) ?_)))
 refine Pb hF (T6 x.exp (by have := Fd (x := x) (by simpa using hc0); omega) (by have := Fd (x := x) (by simpa using hc0); omega) (hG.ext hF.same)) (Ib JC rfl rfl) ?_
 clear hF; intro w hF
 refine Ja (v := .string (bs (([101]) ++ (Lib.itoa x.exp)))) (Mo rfl rfl (by have := Lib.itoa_length_le x.exp (by have := Fd (x := x) (by simpa using hc0); omega) (by have := Fd (x := x) (by simpa using hc0); omega); simp; omega)) ?_
 refine Ja (v := .string (bs ((x.digits) ++ (([101]) ++ (Lib.itoa x.exp))))) (Mo rfl rfl (by have := Lib.itoa_length_le x.exp (by have := Fd (x := x) (by simpa using hc0); omega) (by have := Fd (x := x) (by simpa using hc0); omega); simp; omega)) ?_
 refine Ca (Ti rfl) (Dc (Ca (Ve rfl) (Ca (Ti rfl) (Ha ?_))))
 refine Wb (Vb (Ua (Nw (v := .string (bs ((x.digits) ++ (([101]) ++ (Lib.itoa x.exp))))) rfl rfl) ?_))
 refine ⟨?_, hF.same⟩
 simp_all [Pn]
 refine Xa (Ga (Ma (Ca (Ve rfl) (Ca (Ti rfl) (Ha ?_)))))
 refine Le (v := .string (bs (x.digits))) rfl rfl ?_
 refine ⟨?_, hF.same⟩
 simp_all [Pn]
theorem P7 (s at_ : Str) (hl : s.length ≤ 140737488355328) (w0 : World) : Calls prog 108 #[.string (bs s), .string (bs at_)] w0 (Kd fun v w' => v = .tuple #[.string (bs (Oa at_ s).1), .string (bs (Oa at_ s).2.1), .bool (Oa at_ s).2.2] ∧ Same [] w0 w') := by
 refine Ka func108 rfl ntmps108 Jb (Td _ _) ?_
 have hF := FR.start w0 []
 refine Ma (Ca (Ti rfl) (Ca (Ti rfl) (Ca (Gc rfl) (Ha (Ia (Ma (Ca (Ve rfl) (Ca (X5 underlying9 rfl) (Ca (Hb rfl) (Wa ?_))))))))))
 refine Ga (Za ?_)
 refine Uc (fun μ σ w => ∃ (q : Nat), μ = s.length - q ∧ (q ≤ s.length) ∧ (∀ c ∈ s.take q, at_.contains c = false) ∧ AllEq σ [(0, .string (bs s)), (1, .string (bs at_)), (9, .int .i64 ((((s) : Str).length : Int))), (10, .int .i64 ((q : Int)))] ∧ FR w0 [] [] w) _ ⟨0, rfl, (Nat.zero_le _), Fa, Mu, hF⟩ ?_
 clear hF; rintro μ σ w ⟨q, rfl, hq, hno, hs, hF⟩
 refine Cg.slots hs ?_
 clear hs; intro σ
 refine Ma (Ca (Zl rfl rfl) (Ha (Ia ?_)))
 refine Jc rfl rfl (fun hc0 => ?_) (fun hc0 => ?_)
 refine Xa (Ga (Ia (Za (Ma (Ca (Hb rfl) (Ca (Qc rfl) (Dc (Ca (Ve rfl) (Ca (Ve rfl) ?_)))))))))
 refine Ca (Hb rfl) (Ja (v := .int .u8 ((((s : Str)[q]'by_Om).toNat : Int))) (Ug (q) underlying9 rfl rfl by_Om) ?_)
 refine Pb hF (U3 at_ _ _) (Kb VI rfl rfl rfl) ?_
 clear hF; intro w hF
 refine Ca (CC rfl rfl) (Ha ?_)
 refine Jc rfl rfl (fun hc1 => ?_) (fun hc1 => ?_)
 refine Ia ?_
 refine Kg (zs := []) (.free 0 (.free 1 (.free 2 (.free 3 (.free 4 (.free 5 (.free 6 (.free 7 (.free 8 (.free 9 .nil)))))))))) hF ?_
 clear hF; intro w hF
 refine Eb rfl (Ve rfl) (Eb rfl (Hb rfl) (Sa rfl (v := .string (bs ((s : Str).take (q)))) (fun w hC => PA (q) underlying9 rfl rfl by_Om) (Eb rfl (Ve rfl) (Eb rfl (Hb rfl) (Eb rfl (Bi (((q + 1 : Nat) : Int)) rfl rfl) (Sa rfl (v := .string (bs ((s : Str).drop (q + 1)))) (fun w hC => E3 (q + 1) underlying9 rfl rfl by_Om) (Eb rfl (Ti rfl) (Eb rfl (Ti rfl) (Eb rfl (Gc rfl) (Cc (Ga ?_)))))))))))
 refine Wb (Vb (Ua (L7 (v := .string (bs ((s : Str).take (q)))) (x := .string (bs ((s : Str).drop (q + 1)))) (y := .bool true) rfl rfl rfl rfl) ?_))
 exact ⟨by rw [Hy by_Om hno (Ns hc1)], hF.same⟩
 refine Xa (Mb (Ga (Da (Ca (Ko rfl rfl) (Ca (Hb rfl) (Wa ?_))))))
 refine Fc ⟨_, ?_, q + 1, rfl, by_Om, (GF by_Om hno (Gx hc1)), Mu, hF⟩
 omega
 refine Oc (Mc rfl ?_)
 refine Ga (Ma (Ca (Ve rfl) (Ca (Ti rfl) (Ca (Ti rfl) (Ca (Gc rfl) (Ha ?_))))))
 refine Wb (Vb (Ua (L7 (v := .string (bs s)) (x := .string (bs [])) (y := .bool false) rfl rfl rfl rfl) ?_))
 have e : s.take q = s := List.take_of_length_le by_Om
 rw [e] at hno
 exact ⟨by rw [Iy hno], hF.same⟩
theorem LH (s : Str) (hl : s.length ≤ 140737488355328) (w0 : World) : Calls prog 88 #[.string (bs s)] w0 (Kd fun v w' => v = .tuple #[Xl (Ob s).1, .bool (Ob s).2] ∧ Same [] w0 w') := by
 refine Ka func88 rfl ntmps88 Jb (Vc _) ?_
 have hF := FR.start w0 []
 refine Ma ?_
 refine Zg (cs := #[.bool false, .bool false, .string (bs []), .string (bs []), .string (bs [])]) hF zeroValue114 rfl ?_
 clear hF; rintro b1 w hb1 hF -
 refine Ca (Gc rfl) (Dc (Ca (Ve rfl) ?_))
 refine Pb hF (Vt s [45] _) (Kb LA rfl rfl rfl) ?_
 clear hF; intro w hF
 refine Ca (Hn rfl) (Ca (G_ rfl rfl) (Ca (Dp rfl rfl) (Ca (Ti rfl) (Ca (Ac G3 rfl) ?_))))
 refine Vl (.bool _) hF sizeOf4 rfl rfl Hl Hl ?_
 clear hF; rintro w hF -
 refine Dc (Ca (Ve rfl) ?_)
 refine Pb hF (P7 (Lib.trimPrefix s [45]) [101, 69] (by have := Cf s [45]; have := Ze [101, 69] (Lib.trimPrefix s [45]); omega) _) (Kb Iz rfl rfl rfl) ?_
 clear hF; intro w hF
 refine Ca (Hn rfl) (Ca (G_ rfl rfl) (Ca (G_ rfl rfl) (Ca (Dp rfl rfl) (Ca (Ti rfl) (Ca (Ti rfl) (Ca (Gc rfl) (Ha (Ia (Ma (Ca (Ud rfl) (Wa ?_)))))))))))
 refine Ga ?_
 refine Gk rfl rfl (fun hc0 => ?_) (fun hc0 => ?_)
 refine Ma (Ca (Ve rfl) ?_)
 refine Pb hF (Vt ((Oa [101, 69] (Lib.trimPrefix s [45])).2.1) [45] _) (Kb LA rfl rfl rfl) ?_
 clear hF; intro w hF
 refine Ca (Hn rfl) (Ca (G_ rfl rfl) (Ca (Dp rfl rfl) (Ca (Ti rfl) (Ca (Ac Cw rfl) ?_))))
 refine Vl (.bool _) hF sizeOf4 rfl rfl Hl G1 ?_
 clear hF; rintro w hF -
 refine Ha (Ia (Ma (Ca (Ac Cw rfl) (Pd (YK isAgg4 rfl hF.F 0 rfl rfl) (Ca (Zo rfl) (Ha ?_))))))
 refine Gk rfl rfl (fun hc1 => ?_) (fun hc1 => ?_)
 refine Da (Ca (Ve rfl) ?_)
 refine Pb hF (U0 (Lib.trimPrefix ((Oa [101, 69] (Lib.trimPrefix s [45])).2.1) [45]) [43] _) (Kb PH rfl rfl rfl) ?_
 clear hF; intro w hF
 refine Ca (Ti rfl) (Dc (Ca (Ve rfl) ?_))
 refine Pb hF (Pi (Lib.trimPrefix (Lib.trimPrefix ((Oa [101, 69] (Lib.trimPrefix s [45])).2.1) [45]) [43]) _) (Ib Nr rfl rfl) ?_
 clear hF; intro w hF
 refine Ca (Zo rfl) (Ha ?_)
 refine Gk rfl rfl (fun hc2 => ?_) (fun hc2 => ?_)
 refine Ma (Pd (Pk isAgg114 sizeOf114 rfl hF.F 0 rfl rfl) ?_)
 refine Il hF sizeOf114 rfl rfl Hl ?_
 clear hF; rintro w hF -
 refine Ca (Gc rfl) (Ha ?_)
 refine Wb (Vb (Ua (Yd rfl (l := [.bool (Lib.hasPrefix s [45]), .bool (Lib.hasPrefix ((Oa [101, 69] (Lib.trimPrefix s [45])).2.1) [45]), .string (bs []), .string (bs []), .string (bs [])]) rfl isAgg114 sizeOf114 rfl (hF.cellsAll 0 rfl) (v := .bool false) rfl) ?_))
 refine ⟨?_, hF.same⟩
 simp_all [Ob, Od, Xl, Bg]
 refine Xa (Ga (Ma (Ca (Ve rfl) (Ca (Ac Jr rfl) ?_))))
 refine Vl (.string _) hF sizeOf9 rfl rfl Hl GL ?_
 clear hF; rintro w hF -
 refine Dc (Ca (Ve rfl) ?_)
 refine Pb hF (P7 ((Oa [101, 69] (Lib.trimPrefix s [45])).1) [46] (by have := Cf s [45]; have := Ze [101, 69] (Lib.trimPrefix s [45]); omega) _) (Kb Iz rfl rfl rfl) ?_
 clear hF; intro w hF
 refine Ca (Hn rfl) (Ca (G_ rfl rfl) (Ca (G_ rfl rfl) (Ca (Dp rfl rfl) (Ca (Ti rfl) (Ca (Ti rfl) (Ca (Gc rfl) (Dc (Ca (Ve rfl) (Ca (Ve rfl) (Ca (Ac Ro rfl) ?_))))))))))
 refine Vl (.string _) hF sizeOf9 rfl rfl Hl IF ?_
 clear hF; rintro w hF -
 refine Ca (Ac Nm rfl) ?_
 refine Vl (.string _) hF sizeOf9 rfl rfl Hl AH ?_
 clear hF; rintro w hF -
 refine Ha (Ia (Ma (Ca (Ve rfl) ?_)))
 refine Pb hF (Pi ((Oa [46] ((Oa [101, 69] (Lib.trimPrefix s [45])).1)).1) _) (Ib Nr rfl rfl) ?_
 clear hF; intro w hF
 refine Ca (Zo rfl) (Ca (Ud rfl) ?_)
 refine Mf (d := 52) rfl (fun hg0 => ?_) (fun hg0 => ?_)
 refine Pa (Pa (Pa (Pa (Pa (Pa (Ca (Xc rfl rfl) (Ha (He rfl (Ma (Pd (Pk isAgg114 sizeOf114 rfl hF.F 0 rfl rfl) ?_))))))))))
 refine Il hF sizeOf114 rfl rfl Hl ?_
 clear hF; rintro w hF -
 refine Ca (Gc rfl) (Ha ?_)
 refine Wb (Vb (Ua (Yd rfl (l := [.bool (Lib.hasPrefix s [45]), .bool (Lib.hasPrefix ((Oa [101, 69] (Lib.trimPrefix s [45])).2.1) [45]), .string (bs ((Oa [46] ((Oa [101, 69] (Lib.trimPrefix s [45])).1)).1)), .string (bs ((Oa [46] ((Oa [101, 69] (Lib.trimPrefix s [45])).1)).2.1)), .string (bs (Lib.trimPrefix (Lib.trimPrefix ((Oa [101, 69] (Lib.trimPrefix s [45])).2.1) [45]) [43]))]) rfl isAgg114 sizeOf114 rfl (hF.cellsAll 0 rfl) (v := .bool false) rfl) ?_))
 refine ⟨?_, hF.same⟩
 simp_all [Ob, Od, Xl, Bg]
 refine Ca (Ud rfl) (Ca (Ud rfl) ?_)
 refine Mf (d := 54) rfl (fun hg1 => ?_) (fun hg1 => ?_)
 refine Ca (Ve rfl) ?_
 refine Pb hF (Pi ((Oa [46] ((Oa [101, 69] (Lib.trimPrefix s [45])).1)).2.1) _) (Ib Nr rfl rfl) ?_
 clear hF; intro w hF
 refine Ca (Zo rfl) (Ca (Xc rfl rfl) (Ca (Md rfl rfl) (Ha ?_)))
 refine Gk rfl rfl (fun hc3 => ?_) (fun hc3 => ?_)
 refine Ma (Pd (Pk isAgg114 sizeOf114 rfl hF.F 0 rfl rfl) ?_)
 refine Il hF sizeOf114 rfl rfl Hl ?_
 clear hF; rintro w hF -
 refine Ca (Gc rfl) (Ha ?_)
 refine Wb (Vb (Ua (Yd rfl (l := [.bool (Lib.hasPrefix s [45]), .bool (Lib.hasPrefix ((Oa [101, 69] (Lib.trimPrefix s [45])).2.1) [45]), .string (bs ((Oa [46] ((Oa [101, 69] (Lib.trimPrefix s [45])).1)).1)), .string (bs ((Oa [46] ((Oa [101, 69] (Lib.trimPrefix s [45])).1)).2.1)), .string (bs (Lib.trimPrefix (Lib.trimPrefix ((Oa [101, 69] (Lib.trimPrefix s [45])).2.1) [45]) [43]))]) rfl isAgg114 sizeOf114 rfl (hF.cellsAll 0 rfl) (v := .bool false) rfl) ?_))
 refine ⟨?_, hF.same⟩
 simp_all [Ob, Od, Xl, Bg]
 refine Xa (Ga (Ia ?_))
 refine Kg (zs := []) (.free 0 (.free 1 (.free 2 (.free 3 (.free 4 (.free 5 (.free 6 (.free 7 (.act 8 (.free 9 .nil)))))))))) hF ?_
 clear hF; intro w hF
 refine Tn rfl (Pk isAgg114 sizeOf114 rfl C0 0 rfl rfl) (Eb rfl (Ve rfl) (Eb rfl (L4 rfl rfl) (Eb rfl (Ud rfl) ?_)))
 refine Fl (d := 64) rfl (fun hg2 => ?_) (fun hg2 => ?_)
 refine Vh rfl ?_
 refine Vh rfl ?_
 refine Vh rfl ?_
 refine Eb rfl (Xc rfl rfl) ?_
 refine Zr rfl hF sizeOf114 rfl rfl Hl ?_
 clear hF; rintro w hF -
 refine ⟨hF, ?_⟩
 refine Eb rfl (Gc rfl) (Cc (Ga ?_))
 refine Wb (Vb (Ua (Yd rfl (l := [.bool (Lib.hasPrefix s [45]), .bool (Lib.hasPrefix ((Oa [101, 69] (Lib.trimPrefix s [45])).2.1) [45]), .string (bs ((Oa [46] ((Oa [101, 69] (Lib.trimPrefix s [45])).1)).1)), .string (bs ((Oa [46] ((Oa [101, 69] (Lib.trimPrefix s [45])).1)).2.1)), .string (bs (Lib.trimPrefix (Lib.trimPrefix ((Oa [101, 69] (Lib.trimPrefix s [45])).2.1) [45]) [43]))]) rfl isAgg114 sizeOf114 rfl (hF.cellsAll 0 rfl) (v := .bool true) rfl) ?_))
 refine ⟨?_, hF.same⟩
 simp_all [Ob, Od, Xl, Bg]
 refine Eb rfl (Ve rfl) ?_
 have hpos := List.length_pos_iff.2 (Li (s := (Oa [46] (Oa [101, 69] (Lib.trimPrefix s [45])).1).1) (by simp_all))
 refine Sa rfl (v := .int .u8 (((((Oa [46] ((Oa [101, 69] (Lib.trimPrefix s [45])).1)).1 : Str)[0]'(hpos)).toNat : Int))) (fun w hC => Ug (0) underlying9 rfl rfl (hpos)) (Eb rfl (N4 rfl rfl) (Eb rfl (Md rfl rfl) ?_))
 refine Zr rfl hF sizeOf114 rfl rfl Hl ?_
 clear hF; rintro w hF -
 refine ⟨hF, ?_⟩
 refine Eb rfl (Gc rfl) (Cc (Ga ?_))
 refine Wb (Vb (Ua (Yd rfl (l := [.bool (Lib.hasPrefix s [45]), .bool (Lib.hasPrefix ((Oa [101, 69] (Lib.trimPrefix s [45])).2.1) [45]), .string (bs ((Oa [46] ((Oa [101, 69] (Lib.trimPrefix s [45])).1)).1)), .string (bs ((Oa [46] ((Oa [101, 69] (Lib.trimPrefix s [45])).1)).2.1)), .string (bs (Lib.trimPrefix (Lib.trimPrefix ((Oa [101, 69] (Lib.trimPrefix s [45])).2.1) [45]) [43]))]) rfl isAgg114 sizeOf114 rfl (hF.cellsAll 0 rfl) (v := .bool (decide ((((((Oa [46] ((Oa [101, 69] (Lib.trimPrefix s [45])).1)).1 : Str)[0]'(hpos)).toNat : Int) : Int) ≠ (48 : Int)))) rfl) ?_))
 refine ⟨?_, hF.same⟩
 simp_all [Ob, Od, Xl, Bg]
 refine Pa (Pa (Pa (Ca (Md rfl rfl) (Ca (Md rfl rfl) (Ha (Sv rfl (Ia ?_)))))))
 refine Kg (zs := []) (.free 0 (.free 1 (.free 2 (.free 3 (.free 4 (.free 5 (.free 6 (.free 7 (.act 8 (.free 9 .nil)))))))))) hF ?_
 clear hF; intro w hF
 refine Tn rfl (Pk isAgg114 sizeOf114 rfl C0 0 rfl rfl) (Eb rfl (Ve rfl) (Eb rfl (L4 rfl rfl) (Eb rfl (Ud rfl) ?_)))
 refine Fl (d := 64) rfl (fun hg3 => ?_) (fun hg3 => ?_)
 refine Vh rfl ?_
 refine Vh rfl ?_
 refine Vh rfl ?_
 refine Eb rfl (Xc rfl rfl) ?_
 refine Zr rfl hF sizeOf114 rfl rfl Hl ?_
 clear hF; rintro w hF -
 refine ⟨hF, ?_⟩
 refine Eb rfl (Gc rfl) (Cc (Ga ?_))
 refine Wb (Vb (Ua (Yd rfl (l := [.bool (Lib.hasPrefix s [45]), .bool (Lib.hasPrefix ((Oa [101, 69] (Lib.trimPrefix s [45])).2.1) [45]), .string (bs ((Oa [46] ((Oa [101, 69] (Lib.trimPrefix s [45])).1)).1)), .string (bs ((Oa [46] ((Oa [101, 69] (Lib.trimPrefix s [45])).1)).2.1)), .string (bs (Lib.trimPrefix (Lib.trimPrefix ((Oa [101, 69] (Lib.trimPrefix s [45])).2.1) [45]) [43]))]) rfl isAgg114 sizeOf114 rfl (hF.cellsAll 0 rfl) (v := .bool true) rfl) ?_))
 refine ⟨?_, hF.same⟩
 simp_all [Ob, Od, Xl, Bg]
 refine Eb rfl (Ve rfl) ?_
 have hpos := List.length_pos_iff.2 (Li (s := (Oa [46] (Oa [101, 69] (Lib.trimPrefix s [45])).1).1) (by simp_all))
 refine Sa rfl (v := .int .u8 (((((Oa [46] ((Oa [101, 69] (Lib.trimPrefix s [45])).1)).1 : Str)[0]'(hpos)).toNat : Int))) (fun w hC => Ug (0) underlying9 rfl rfl (hpos)) (Eb rfl (N4 rfl rfl) (Eb rfl (Md rfl rfl) ?_))
 refine Zr rfl hF sizeOf114 rfl rfl Hl ?_
 clear hF; rintro w hF -
 refine ⟨hF, ?_⟩
 refine Eb rfl (Gc rfl) (Cc (Ga ?_))
 refine Wb (Vb (Ua (Yd rfl (l := [.bool (Lib.hasPrefix s [45]), .bool (Lib.hasPrefix ((Oa [101, 69] (Lib.trimPrefix s [45])).2.1) [45]), .string (bs ((Oa [46] ((Oa [101, 69] (Lib.trimPrefix s [45])).1)).1)), .string (bs ((Oa [46] ((Oa [101, 69] (Lib.trimPrefix s [45])).1)).2.1)), .string (bs (Lib.trimPrefix (Lib.trimPrefix ((Oa [101, 69] (Lib.trimPrefix s [45])).2.1) [45]) [43]))]) rfl isAgg114 sizeOf114 rfl (hF.cellsAll 0 rfl) (v := .bool (decide ((((((Oa [46] ((Oa [101, 69] (Lib.trimPrefix s [45])).1)).1 : Str)[0]'(hpos)).toNat : Int) : Int) ≠ (48 : Int)))) rfl) ?_))
 refine ⟨?_, hF.same⟩
 simp_all [Ob, Od, Xl, Bg]
 refine Xa (Ga (Ma (Ca (Ve rfl) ?_)))
 refine Pb hF (Pi (Lib.trimPrefix ((Oa [101, 69] (Lib.trimPrefix s [45])).2.1) [45]) _) (Ib Nr rfl rfl) ?_
 clear hF; intro w hF
 refine Ca (Zo rfl) (Ha ?_)
 refine Gk rfl rfl (fun hc2 => ?_) (fun hc2 => ?_)
 refine Ma (Pd (Pk isAgg114 sizeOf114 rfl hF.F 0 rfl rfl) ?_)
 refine Il hF sizeOf114 rfl rfl Hl ?_
 clear hF; rintro w hF -
 refine Ca (Gc rfl) (Ha ?_)
 refine Wb (Vb (Ua (Yd rfl (l := [.bool (Lib.hasPrefix s [45]), .bool (Lib.hasPrefix ((Oa [101, 69] (Lib.trimPrefix s [45])).2.1) [45]), .string (bs []), .string (bs []), .string (bs [])]) rfl isAgg114 sizeOf114 rfl (hF.cellsAll 0 rfl) (v := .bool false) rfl) ?_))
 refine ⟨?_, hF.same⟩
 simp_all [Ob, Od, Xl, Bg]
 refine Xa (Ga (Ma (Ca (Ve rfl) (Ca (Ac Jr rfl) ?_))))
 refine Vl (.string _) hF sizeOf9 rfl rfl Hl GL ?_
 clear hF; rintro w hF -
 refine Dc (Ca (Ve rfl) ?_)
 refine Pb hF (P7 ((Oa [101, 69] (Lib.trimPrefix s [45])).1) [46] (by have := Cf s [45]; have := Ze [101, 69] (Lib.trimPrefix s [45]); omega) _) (Kb Iz rfl rfl rfl) ?_
 clear hF; intro w hF
 refine Ca (Hn rfl) (Ca (G_ rfl rfl) (Ca (G_ rfl rfl) (Ca (Dp rfl rfl) (Ca (Ti rfl) (Ca (Ti rfl) (Ca (Gc rfl) (Dc (Ca (Ve rfl) (Ca (Ve rfl) (Ca (Ac Ro rfl) ?_))))))))))
 refine Vl (.string _) hF sizeOf9 rfl rfl Hl IF ?_
 clear hF; rintro w hF -
 refine Ca (Ac Nm rfl) ?_
 refine Vl (.string _) hF sizeOf9 rfl rfl Hl AH ?_
 clear hF; rintro w hF -
 refine Ha (Ia (Ma (Ca (Ve rfl) ?_)))
 refine Pb hF (Pi ((Oa [46] ((Oa [101, 69] (Lib.trimPrefix s [45])).1)).1) _) (Ib Nr rfl rfl) ?_
 clear hF; intro w hF
 refine Ca (Zo rfl) (Ca (Ud rfl) ?_)
 refine Mf (d := 52) rfl (fun hg4 => ?_) (fun hg4 => ?_)
 refine Pa (Pa (Pa (Pa (Pa (Pa (Ca (Xc rfl rfl) (Ha (He rfl (Ma (Pd (Pk isAgg114 sizeOf114 rfl hF.F 0 rfl rfl) ?_))))))))))
 refine Il hF sizeOf114 rfl rfl Hl ?_
 clear hF; rintro w hF -
 refine Ca (Gc rfl) (Ha ?_)
 refine Wb (Vb (Ua (Yd rfl (l := [.bool (Lib.hasPrefix s [45]), .bool (Lib.hasPrefix ((Oa [101, 69] (Lib.trimPrefix s [45])).2.1) [45]), .string (bs ((Oa [46] ((Oa [101, 69] (Lib.trimPrefix s [45])).1)).1)), .string (bs ((Oa [46] ((Oa [101, 69] (Lib.trimPrefix s [45])).1)).2.1)), .string (bs (Lib.trimPrefix ((Oa [101, 69] (Lib.trimPrefix s [45])).2.1) [45]))]) rfl isAgg114 sizeOf114 rfl (hF.cellsAll 0 rfl) (v := .bool false) rfl) ?_))
 refine ⟨?_, hF.same⟩
 simp_all [Ob, Od, Xl, Bg]
 refine Ca (Ud rfl) (Ca (Ud rfl) ?_)
 refine Mf (d := 54) rfl (fun hg5 => ?_) (fun hg5 => ?_)
 refine Ca (Ve rfl) ?_
 refine Pb hF (Pi ((Oa [46] ((Oa [101, 69] (Lib.trimPrefix s [45])).1)).2.1) _) (Ib Nr rfl rfl) ?_
 clear hF; intro w hF
 refine Ca (Zo rfl) (Ca (Xc rfl rfl) (Ca (Md rfl rfl) (Ha ?_)))
 refine Gk rfl rfl (fun hc3 => ?_) (fun hc3 => ?_)
 refine Ma (Pd (Pk isAgg114 sizeOf114 rfl hF.F 0 rfl rfl) ?_)
 refine Il hF sizeOf114 rfl rfl Hl ?_
 clear hF; rintro w hF -
 refine Ca (Gc rfl) (Ha ?_)
 refine Wb (Vb (Ua (Yd rfl (l := [.bool (Lib.hasPrefix s [45]), .bool (Lib.hasPrefix ((Oa [101, 69] (Lib.trimPrefix s [45])).2.1) [45]), .string (bs ((Oa [46] ((Oa [101, 69] (Lib.trimPrefix s [45])).1)).1)), .string (bs ((Oa [46] ((Oa [101, 69] (Lib.trimPrefix s [45])).1)).2.1)), .string (bs (Lib.trimPrefix ((Oa [101, 69] (Lib.trimPrefix s [45])).2.1) [45]))]) rfl isAgg114 sizeOf114 rfl (hF.cellsAll 0 rfl) (v := .bool false) rfl) ?_))
 refine ⟨?_, hF.same⟩
 simp_all [Ob, Od, Xl, Bg]
 refine Xa (Ga (Ia ?_))
 refine Kg (zs := []) (.free 0 (.free 1 (.free 2 (.free 3 (.free 4 (.free 5 (.free 6 (.free 7 (.act 8 (.free 9 .nil)))))))))) hF ?_
 clear hF; intro w hF
 refine Tn rfl (Pk isAgg114 sizeOf114 rfl C0 0 rfl rfl) (Eb rfl (Ve rfl) (Eb rfl (L4 rfl rfl) (Eb rfl (Ud rfl) ?_)))
 refine Fl (d := 64) rfl (fun hg6 => ?_) (fun hg6 => ?_)
 refine Vh rfl ?_
 refine Vh rfl ?_
 refine Vh rfl ?_
 refine Eb rfl (Xc rfl rfl) ?_
 refine Zr rfl hF sizeOf114 rfl rfl Hl ?_
 clear hF; rintro w hF -
 refine ⟨hF, ?_⟩
 refine Eb rfl (Gc rfl) (Cc (Ga ?_))
 refine Wb (Vb (Ua (Yd rfl (l := [.bool (Lib.hasPrefix s [45]), .bool (Lib.hasPrefix ((Oa [101, 69] (Lib.trimPrefix s [45])).2.1) [45]), .string (bs ((Oa [46] ((Oa [101, 69] (Lib.trimPrefix s [45])).1)).1)), .string (bs ((Oa [46] ((Oa [101, 69] (Lib.trimPrefix s [45])).1)).2.1)), .string (bs (Lib.trimPrefix ((Oa [101, 69] (Lib.trimPrefix s [45])).2.1) [45]))]) rfl isAgg114 sizeOf114 rfl (hF.cellsAll 0 rfl) (v := .bool true) rfl) ?_))
 refine ⟨?_, hF.same⟩
 simp_all [Ob, Od, Xl, Bg]
 refine Eb rfl (Ve rfl) ?_
 have hpos := List.length_pos_iff.2 (Li (s := (Oa [46] (Oa [101, 69] (Lib.trimPrefix s [45])).1).1) (by simp_all))
 refine Sa rfl (v := .int .u8 (((((Oa [46] ((Oa [101, 69] (Lib.trimPrefix s [45])).1)).1 : Str)[0]'(hpos)).toNat : Int))) (fun w hC => Ug (0) underlying9 rfl rfl (hpos)) (Eb rfl (N4 rfl rfl) (Eb rfl (Md rfl rfl) ?_))
 refine Zr rfl hF sizeOf114 rfl rfl Hl ?_
 clear hF; rintro w hF -
 refine ⟨hF, ?_⟩
 refine Eb rfl (Gc rfl) (Cc (Ga ?_))
 refine Wb (Vb (Ua (Yd rfl (l := [.bool (Lib.hasPrefix s [45]), .bool (Lib.hasPrefix ((Oa [101, 69] (Lib.trimPrefix s [45])).2.1) [45]), .string (bs ((Oa [46] ((Oa [101, 69] (Lib.trimPrefix s [45])).1)).1)), .string (bs ((Oa [46] ((Oa [101, 69] (Lib.trimPrefix s [45])).1)).2.1)), .string (bs (Lib.trimPrefix ((Oa [101, 69] (Lib.trimPrefix s [45])).2.1) [45]))]) rfl isAgg114 sizeOf114 rfl (hF.cellsAll 0 rfl) (v := .bool (decide ((((((Oa [46] ((Oa [101, 69] (Lib.trimPrefix s [45])).1)).1 : Str)[0]'(hpos)).toNat : Int) : Int) ≠ (48 : Int)))) rfl) ?_))
 refine ⟨?_, hF.same⟩
 simp_all [Ob, Od, Xl, Bg]
 refine Pa (Pa (Pa (Ca (Md rfl rfl) (Ca (Md rfl rfl) (Ha (Sv rfl (Ia ?_)))))))
 refine Kg (zs := []) (.free 0 (.free 1 (.free 2 (.free 3 (.free 4 (.free 5 (.free 6 (.free 7 (.act 8 (.free 9 .nil)))))))))) hF ?_
 clear hF; intro w hF
 refine Tn rfl (Pk isAgg114 sizeOf114 rfl C0 0 rfl rfl) (Eb rfl (Ve rfl) (Eb rfl (L4 rfl rfl) (Eb rfl (Ud rfl) ?_)))
 refine Fl (d := 64) rfl (fun hg7 => ?_) (fun hg7 => ?_)
 refine Vh rfl ?_
 refine Vh rfl ?_
 refine Vh rfl ?_
 refine Eb rfl (Xc rfl rfl) ?_
 refine Zr rfl hF sizeOf114 rfl rfl Hl ?_
 clear hF; rintro w hF -
 refine ⟨hF, ?_⟩
 refine Eb rfl (Gc rfl) (Cc (Ga ?_))
 refine Wb (Vb (Ua (Yd rfl (l := [.bool (Lib.hasPrefix s [45]), .bool (Lib.hasPrefix ((Oa [101, 69] (Lib.trimPrefix s [45])).2.1) [45]), .string (bs ((Oa [46] ((Oa [101, 69] (Lib.trimPrefix s [45])).1)).1)), .string (bs ((Oa [46] ((Oa [101, 69] (Lib.trimPrefix s [45])).1)).2.1)), .string (bs (Lib.trimPrefix ((Oa [101, 69] (Lib.trimPrefix s [45])).2.1) [45]))]) rfl isAgg114 sizeOf114 rfl (hF.cellsAll 0 rfl) (v := .bool true) rfl) ?_))
 refine ⟨?_, hF.same⟩
 simp_all [Ob, Od, Xl, Bg]
 refine Eb rfl (Ve rfl) ?_
 have hpos := List.length_pos_iff.2 (Li (s := (Oa [46] (Oa [101, 69] (Lib.trimPrefix s [45])).1).1) (by simp_all))
 refine Sa rfl (v := .int .u8 (((((Oa [46] ((Oa [101, 69] (Lib.trimPrefix s [45])).1)).1 : Str)[0]'(hpos)).toNat : Int))) (fun w hC => Ug (0) underlying9 rfl rfl (hpos)) (Eb rfl (N4 rfl rfl) (Eb rfl (Md rfl rfl) ?_))
 refine Zr rfl hF sizeOf114 rfl rfl Hl ?_
 clear hF; rintro w hF -
 refine ⟨hF, ?_⟩
 refine Eb rfl (Gc rfl) (Cc (Ga ?_))
 refine Wb (Vb (Ua (Yd rfl (l := [.bool (Lib.hasPrefix s [45]), .bool (Lib.hasPrefix ((Oa [101, 69] (Lib.trimPrefix s [45])).2.1) [45]), .string (bs ((Oa [46] ((Oa [101, 69] (Lib.trimPrefix s [45])).1)).1)), .string (bs ((Oa [46] ((Oa [101, 69] (Lib.trimPrefix s [45])).1)).2.1)), .string (bs (Lib.trimPrefix ((Oa [101, 69] (Lib.trimPrefix s [45])).2.1) [45]))]) rfl isAgg114 sizeOf114 rfl (hF.cellsAll 0 rfl) (v := .bool (decide ((((((Oa [46] ((Oa [101, 69] (Lib.trimPrefix s [45])).1)).1 : Str)[0]'(hpos)).toNat : Int) : Int) ≠ (48 : Int)))) rfl) ?_))
 refine ⟨?_, hF.same⟩
 simp_all [Ob, Od, Xl, Bg]
 refine Xa (Ga (Ma (Ca (Ve rfl) (Ca (Ac Jr rfl) ?_))))
 refine Vl (.string _) hF sizeOf9 rfl rfl Hl GL ?_
 clear hF; rintro w hF -
 refine Dc (Ca (Ve rfl) ?_)
 refine Pb hF (P7 ((Oa [101, 69] (Lib.trimPrefix s [45])).1) [46] (by have := Cf s [45]; have := Ze [101, 69] (Lib.trimPrefix s [45]); omega) _) (Kb Iz rfl rfl rfl) ?_
 clear hF; intro w hF
 refine Ca (Hn rfl) (Ca (G_ rfl rfl) (Ca (G_ rfl rfl) (Ca (Dp rfl rfl) (Ca (Ti rfl) (Ca (Ti rfl) (Ca (Gc rfl) (Dc (Ca (Ve rfl) (Ca (Ve rfl) (Ca (Ac Ro rfl) ?_))))))))))
 refine Vl (.string _) hF sizeOf9 rfl rfl Hl IF ?_
 clear hF; rintro w hF -
 refine Ca (Ac Nm rfl) ?_
 refine Vl (.string _) hF sizeOf9 rfl rfl Hl AH ?_
 clear hF; rintro w hF -
 refine Ha (Ia (Ma (Ca (Ve rfl) ?_)))
 refine Pb hF (Pi ((Oa [46] ((Oa [101, 69] (Lib.trimPrefix s [45])).1)).1) _) (Ib Nr rfl rfl) ?_
 clear hF; intro w hF
 refine Ca (Zo rfl) (Ca (Ud rfl) ?_)
 refine Mf (d := 52) rfl (fun hg8 => ?_) (fun hg8 => ?_)
 refine Pa (Pa (Pa (Pa (Pa (Pa (Ca (Xc rfl rfl) (Ha (He rfl (Ma (Pd (Pk isAgg114 sizeOf114 rfl hF.F 0 rfl rfl) ?_))))))))))
 refine Il hF sizeOf114 rfl rfl Hl ?_
 clear hF; rintro w hF -
 refine Ca (Gc rfl) (Ha ?_)
 refine Wb (Vb (Ua (Yd rfl (l := [.bool (Lib.hasPrefix s [45]), .bool false, .string (bs ((Oa [46] ((Oa [101, 69] (Lib.trimPrefix s [45])).1)).1)), .string (bs ((Oa [46] ((Oa [101, 69] (Lib.trimPrefix s [45])).1)).2.1)), .string (bs ((Oa [101, 69] (Lib.trimPrefix s [45])).2.1))]) rfl isAgg114 sizeOf114 rfl (hF.cellsAll 0 rfl) (v := .bool false) rfl) ?_))
 refine ⟨?_, hF.same⟩
 simp_all [Ob, Od, Xl, Bg]
 refine Ca (Ud rfl) (Ca (Ud rfl) ?_)
 refine Mf (d := 54) rfl (fun hg9 => ?_) (fun hg9 => ?_)
 refine Ca (Ve rfl) ?_
 refine Pb hF (Pi ((Oa [46] ((Oa [101, 69] (Lib.trimPrefix s [45])).1)).2.1) _) (Ib Nr rfl rfl) ?_
 clear hF; intro w hF
 refine Ca (Zo rfl) (Ca (Xc rfl rfl) (Ca (Md rfl rfl) (Ha ?_)))
 refine Gk rfl rfl (fun hc3 => ?_) (fun hc3 => ?_)
 refine Ma (Pd (Pk isAgg114 sizeOf114 rfl hF.F 0 rfl rfl) ?_)
 refine Il hF sizeOf114 rfl rfl Hl ?_
 clear hF; rintro w hF -
 refine Ca (Gc rfl) (Ha ?_)
 refine Wb (Vb (Ua (Yd rfl (l := [.bool (Lib.hasPrefix s [45]), .bool false, .string (bs ((Oa [46] ((Oa [101, 69] (Lib.trimPrefix s [45])).1)).1)), .string (bs ((Oa [46] ((Oa [101, 69] (Lib.trimPrefix s [45])).1)).2.1)), .string (bs ((Oa [101, 69] (Lib.trimPrefix s [45])).2.1))]) rfl isAgg114 sizeOf114 rfl (hF.cellsAll 0 rfl) (v := .bool false) rfl) ?_))
 refine ⟨?_, hF.same⟩
 simp_all [Ob, Od, Xl, Bg]
 refine Xa (Ga (Ia ?_))
 refine Kg (zs := []) (.free 0 (.free 1 (.free 2 (.free 3 (.free 4 (.free 5 (.free 6 (.free 7 (.act 8 (.free 9 .nil)))))))))) hF ?_
 clear hF; intro w hF
 refine Tn rfl (Pk isAgg114 sizeOf114 rfl C0 0 rfl rfl) (Eb rfl (Ve rfl) (Eb rfl (L4 rfl rfl) (Eb rfl (Ud rfl) ?_)))
 refine Fl (d := 64) rfl (fun hg10 => ?_) (fun hg10 => ?_)
 refine Vh rfl ?_
 refine Vh rfl ?_
 refine Vh rfl ?_
 refine Eb rfl (Xc rfl rfl) ?_
 refine Zr rfl hF sizeOf114 rfl rfl Hl ?_
 clear hF; rintro w hF -
 refine ⟨hF, ?_⟩
 refine Eb rfl (Gc rfl) (Cc (Ga ?_))
 refine Wb (Vb (Ua (Yd rfl (l := [.bool (Lib.hasPrefix s [45]), .bool false, .string (bs ((Oa [46] ((Oa [101, 69] (Lib.trimPrefix s [45])).1)).1)), .string (bs ((Oa [46] ((Oa [101, 69] (Lib.trimPrefix s [45])).1)).2.1)), .string (bs ((Oa [101, 69] (Lib.trimPrefix s [45])).2.1))]) rfl isAgg114 sizeOf114 rfl (hF.cellsAll 0 rfl) (v := .bool true) rfl) ?_))
 refine ⟨?_, hF.same⟩
 simp_all [Ob, Od, Xl, Bg]
 refine Eb rfl (Ve rfl) ?_
 have hpos := List.length_pos_iff.2 (Li (s := (Oa [46] (Oa [101, 69] (Lib.trimPrefix s [45])).1).1) (by simp_all))
 refine Sa rfl (v := .int .u8 (((((Oa [46] ((Oa [101, 69] (Lib.trimPrefix s [45])).1)).1 : Str)[0]'(hpos)).toNat : Int))) (fun w hC => Ug (0) underlying9 rfl rfl (hpos)) (Eb rfl (N4 rfl rfl) (Eb rfl (Md rfl rfl) ?_))
 refine Zr rfl hF sizeOf114 rfl rfl Hl ?_
 clear hF; rintro w hF -
 refine ⟨hF, ?_⟩
 refine Eb rfl (Gc rfl) (Cc (Ga ?_))
 refine Wb (Vb (Ua (Yd rfl (l := [.bool (Lib.hasPrefix s [45]), .bool false, .string (bs ((Oa [46] ((Oa [101, 69] (Lib.trimPrefix s [45])).1)).1)), .string (bs ((Oa [46] ((Oa [101, 69] (Lib.trimPrefix s [45])).1)).2.1)), .string (bs ((Oa [101, 69] (Lib.trimPrefix s [45])).2.1))]) rfl isAgg114 sizeOf114 rfl (hF.cellsAll 0 rfl) (v := .bool (decide ((((((Oa [46] ((Oa [101, 69] (Lib.trimPrefix s [45])).1)).1 : Str)[0]'(hpos)).toNat : Int) : Int) ≠ (48 : Int)))) rfl) ?_))
 refine ⟨?_, hF.same⟩
 simp_all [Ob, Od, Xl, Bg]
 refine Pa (Pa (Pa (Ca (Md rfl rfl) (Ca (Md rfl rfl) (Ha (Sv rfl (Ia ?_)))))))
 refine Kg (zs := []) (.free 0 (.free 1 (.free 2 (.free 3 (.free 4 (.free 5 (.free 6 (.free 7 (.act 8 (.free 9 .nil)))))))))) hF ?_
 clear hF; intro w hF
 refine Tn rfl (Pk isAgg114 sizeOf114 rfl C0 0 rfl rfl) (Eb rfl (Ve rfl) (Eb rfl (L4 rfl rfl) (Eb rfl (Ud rfl) ?_)))
 refine Fl (d := 64) rfl (fun hg11 => ?_) (fun hg11 => ?_)
 refine Vh rfl ?_
 refine Vh rfl ?_
 refine Vh rfl ?_
 refine Eb rfl (Xc rfl rfl) ?_
 refine Zr rfl hF sizeOf114 rfl rfl Hl ?_
 clear hF; rintro w hF -
 refine ⟨hF, ?_⟩
 refine Eb rfl (Gc rfl) (Cc (Ga ?_))
 refine Wb (Vb (Ua (Yd rfl (l := [.bool (Lib.hasPrefix s [45]), .bool false, .string (bs ((Oa [46] ((Oa [101, 69] (Lib.trimPrefix s [45])).1)).1)), .string (bs ((Oa [46] ((Oa [101, 69] (Lib.trimPrefix s [45])).1)).2.1)), .string (bs ((Oa [101, 69] (Lib.trimPrefix s [45])).2.1))]) rfl isAgg114 sizeOf114 rfl (hF.cellsAll 0 rfl) (v := .bool true) rfl) ?_))
 refine ⟨?_, hF.same⟩
 simp_all [Ob, Od, Xl, Bg]
 refine Eb rfl (Ve rfl) ?_
 have hpos := List.length_pos_iff.2 (Li (s := (Oa [46] (Oa [101, 69] (Lib.trimPrefix s [45])).1).1) (by simp_all))
 refine Sa rfl (v := .int .u8 (((((Oa [46] ((Oa [101, 69] (Lib.trimPrefix s [45])).1)).1 : Str)[0]'(hpos)).toNat : Int))) (fun w hC => Ug (0) underlying9 rfl rfl (hpos)) (Eb rfl (N4 rfl rfl) (Eb rfl (Md rfl rfl) ?_))
 refine Zr rfl hF sizeOf114 rfl rfl Hl ?_
 clear hF; rintro w hF -
 refine ⟨hF, ?_⟩
 refine Eb rfl (Gc rfl) (Cc (Ga ?_))
 refine Wb (Vb (Ua (Yd rfl (l := [.bool (Lib.hasPrefix s [45]), .bool false, .string (bs ((Oa [46] ((Oa [101, 69] (Lib.trimPrefix s [45])).1)).1)), .string (bs ((Oa [46] ((Oa [101, 69] (Lib.trimPrefix s [45])).1)).2.1)), .string (bs ((Oa [101, 69] (Lib.trimPrefix s [45])).2.1))]) rfl isAgg114 sizeOf114 rfl (hF.cellsAll 0 rfl) (v := .bool (decide ((((((Oa [46] ((Oa [101, 69] (Lib.trimPrefix s [45])).1)).1 : Str)[0]'(hpos)).toNat : Int) : Int) ≠ (48 : Int)))) rfl) ?_))
 refine ⟨?_, hF.same⟩
 simp_all [Ob, Od, Xl, Bg]
end Go.Scarf
