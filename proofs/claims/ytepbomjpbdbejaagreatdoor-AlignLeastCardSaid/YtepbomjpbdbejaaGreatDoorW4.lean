/- A part of the proof. -/
import Derived.Test.YtepbomjpbdbejaaGreatDoorW2
import Derived.Test.YtepbomjpbdbejaaGreatDoorShelf2
import Derived.Test.YtepbomjpbdbejaaGreatDoorMem
import Derived.Lib.ValidLaws
import Derived.Lib.TrimUEq
import Derived.Lib.MapLaws
import Derived.Test.YtepbomjpbdbejaaGreatDoorMore
set_option linter.all false
set_option maxHeartbeats 8000000
set_option maxRecDepth 10000
namespace Go.Scarf
open Go.RowKit Go.Proofs Go.Proofs.Tryz
def Tj (s : Str) : Bool := decide ((Sf s).2 = 0) && decide (Mn (Sf s).1 = s)
def W8 (s : Str) : Bool := Tj s && (CJ (Sf s).1).2 && decide (0 ≤ (CJ (Sf s).1).1)
theorem C5 (s : Str) : Pe (Sf s).1 = true := by
  rw [Fl]
  repeat' split
  all_goals first | rfl | simp_all
theorem Es (s : Str) : (Sf s).1.digits.length ≤ 1000 := (Ud (C5 s)).1
theorem Ul (s : Str) (q : Nat) : Lib.decodeL (s.drop q) = Utf8.decode (bs s) q := Lib.decodeL_drop (bs s) q
theorem Cf (s : Str) (q : Nat) : 1 ≤ (Utf8.decode (bs s) q).2 := by rw [← Ul]; exact Lib.decodeL_width _
theorem Zx (s : Str) (q : Nat) (h : q < s.length) : q + (Utf8.decode (bs s) q).2 ≤ s.length := by
  have := Lib.decodeL_le (s.drop q) (by rw [ne_eq, List.drop_eq_nil_iff]; omega)
  rw [Ul, List.length_drop] at this
  omega
theorem K0 (s : Str) (q : Nat) (h : q < s.length) (hv : Lib.validD (s.drop q) = false) (hn : ¬ ((Utf8.decode (bs s) q).1 = 65533 ∧ (Utf8.decode (bs s) q).2 = 1)) : Lib.validD (s.drop (q + (Utf8.decode (bs s) q).2)) = false := by
  rw [Lib.validD_step _ (by rw [ne_eq, List.drop_eq_nil_iff]; omega), Ul, if_neg hn, List.drop_drop] at hv
  exact hv
theorem Yr (s : Str) (q : Nat) (h : q < s.length) : Lib.decodeGo (bs (s.drop q)) = Utf8.decode (bs s) q := by
  have h1 : (bs (s.drop q)).size ≠ 0 := by rw [Yn, List.length_drop]; omega
  rw [Lib.decodeGo, if_neg h1]; exact Ul s q
theorem D2 (s : Str) (hl : s.length ≤ 140737488355328) {w : World} (hG : Gl w) : Calls prog 122 #[.string (bs s)] w (Rd fun v w' => v = .bool (Lib.validD s) ∧ Same [] w w') :=
  Br (utf8_ValidString (bs s) w (by rw [Yn]; omega) hG.tabs)
theorem M6 (s : Str) {w : World} (hG : Gl w) : Calls prog 123 #[.string (bs s)] w (Rd fun v w' => v = .tuple #[.int .i32 (Lib.decodeGo (bs s)).1, .int .i64 (Lib.decodeGo (bs s)).2] ∧ Same [] w w') :=
  Br (utf8_DecodeRuneInString (bs s) w hG.tabs)
theorem GD (s : Str) (hl : s.length ≤ 140737488355328) (w0 : World) (hG : Gl w0) : Calls prog 97 #[.string (bs s)] w0 (Rd fun v w' => ∃ n, v = .tuple #[.int .i64 n, .bool (Lib.validD s)] ∧ Same [] w0 w') := by
  refine Ma func97 rfl ntmps97 Jb (Ed _) ?_
  have hF := FR.start w0 []
  refine Ia ?_
  refine Da ?_
  refine Ca (Gc rfl) ?_
  refine Ca (Ec rfl) ?_
  refine Ya ?_
  refine Ha ?_
  refine Ia ?_
  refine Ia ?_
  refine Da ?_
  refine Ca (Lf rfl) ?_
  refine Pb hF (D2 s hl (hG.ext hF.same)) (Eb WP rfl rfl) ?_
  clear hF; intro w hF
  refine Ya ?_
  refine Ha ?_
  refine Pj rfl rfl (fun hc0 => ?_) (fun hc0 => ?_)
  ·
    refine Ia ?_
    refine Da ?_
    refine Ca (Lf rfl) ?_
    refine Ca (H9 underlying9 rfl) ?_
    refine Ca (Gc rfl) ?_
    refine Ca (Ec rfl) ?_
    refine Ya ?_
    refine Ha ?_
    refine Fc (Bc (Za (Ye (v := .int .i64 ((((s) : Str).length : Int))) (x := .bool true) rfl rfl rfl) ?_))
    exact ⟨_, by rw [hc0], hF.same⟩
  ·
    refine Wa ?_
    refine Ha ?_
    refine Ia ?_
    refine Ia ?_
    refine Da ?_
    refine Ca (Lf rfl) ?_
    refine Qt (str := s) hF underlying9 rfl ?_
    clear hF; intro b1 w hb1 hF hE
    clear hE
    refine Ya ?_
    refine Ha ?_
    refine Va ?_
    refine Uc (fun μ σ w => ∃ (q : Nat), μ = s.length - q ∧ (q ≤ s.length) ∧ (Lib.validD (s.drop q) = false) ∧ AllEq σ [(0, .string (bs s)), (13, .pointer (some ⟨b1, 0, none⟩))] ∧ FR w0 [] [(b1, .stringIter (bs s) (q))] w) _ ⟨0, rfl, (Nat.zero_le _), (by simpa using hc0), O7, hF⟩ ?_
    clear hF; rintro μ σ w ⟨q, rfl, hq, hv, hs, hF⟩
    refine Cg.slots hs ?_
    clear hs; intro σ
    refine Ia ?_
    refine Da ?_
    by_cases hn0 : (q) < (s : Str).length
    ·
      refine Vx 0 (p := q) (str := s) hF rfl rfl hn0 ?_
      clear hF; intro w hF hE
      clear hE
      replace hF : FR w0 [] [(b1, .stringIter (bs s) (q + (Utf8.decode (bs s) (q)).2))] w := hF
      refine Ca (Ar rfl rfl) ?_
      refine Ya ?_
      refine Ha ?_
      refine Ia ?_
      refine Ae rfl ?_
      refine Wa ?_
      refine Ha ?_
      refine Va ?_
      refine Ia ?_
      refine Da ?_
      refine Ca (Zn rfl rfl) ?_
      refine Ca (Zn rfl rfl) ?_
      refine Ca (Gc rfl) ?_
      refine Ca (Gc rfl) ?_
      refine Ya ?_
      refine Ha ?_
      refine Ia ?_
      refine Ia ?_
      refine Da ?_
      refine Ca (Hb rfl) ?_
      refine Ca (Ux rfl rfl) ?_
      refine Ya ?_
      refine Ha ?_
      refine Pc rfl rfl (fun hc2 => ?_) (fun hc2 => ?_)
      ·
        refine Nc (Lc rfl ?_)
        have h1 := Cf s q
        have hw : ¬ ((Utf8.decode (bs s) q).1 = 65533 ∧ (Utf8.decode (bs s) q).2 = 1) := by
          first
          | (intro hh; omega)
          | (rw [Yr s q by_Om] at hc3; intro hh; omega)
        refine Ic ⟨_, ?_, q + (Utf8.decode (bs s) q).2, rfl, (Zx s q by_Om), (K0 s q by_Om hv hw), O7, hF⟩
        omega
      ·
        refine Wa ?_
        refine Ha ?_
        refine Ia ?_
        refine Da ?_
        refine Ca (Lf rfl) ?_
        refine Ca (Hb rfl) ?_
        refine Ja (v := .string (bs ((s : Str).drop (q)))) (H7 (q) underlying9 rfl rfl by_Om) ?_
        refine Pb hF (M6 (s.drop q) (hG.ext hF.same)) (Eb PP rfl rfl) ?_
        clear hF; intro w hF
        refine Ca (Xm rfl) ?_
        refine Ca (Zn rfl rfl) ?_
        refine Ca (Zn rfl rfl) ?_
        refine Ca (Gc rfl) ?_
        refine Ca (Gc rfl) ?_
        refine Ya ?_
        refine Ha ?_
        refine Ia ?_
        refine Da ?_
        refine Ca (Hb rfl) ?_
        refine Ca (Fo rfl rfl) ?_
        refine Ya ?_
        refine Ha ?_
        refine Pc rfl rfl (fun hc3 => ?_) (fun hc3 => ?_)
        ·
          refine Ia ?_
          refine Da ?_
          refine Ca (Hb rfl) ?_
          refine Ca (Gc rfl) ?_
          refine Ca (Ec rfl) ?_
          refine Ya ?_
          refine Ha ?_
          refine Fc (Bc (Za (Ye (v := .int .i64 (((q : Nat) : Int))) (x := .bool false) rfl rfl rfl) ?_))
          exact ⟨_, by rw [hc0], hF.same⟩
        ·
          refine Wa ?_
          refine Mb ?_
          have h1 := Cf s q
          have hw : ¬ ((Utf8.decode (bs s) q).1 = 65533 ∧ (Utf8.decode (bs s) q).2 = 1) := by
            first
            | (intro hh; omega)
            | (rw [Yr s q by_Om] at hc3; intro hh; omega)
          refine Ic ⟨_, ?_, q + (Utf8.decode (bs s) q).2, rfl, (Zx s q by_Om), (K0 s q by_Om hv hw), O7, hF⟩
          omega
    ·
      refine Wo 0 (p := q) (str := s) hF rfl rfl hn0 ?_
      refine Ca (Ar rfl rfl) ?_
      refine Ya ?_
      refine Ha ?_
      refine Ia ?_
      refine Bg rfl ?_
      refine Nc (Lc rfl ?_)
      refine Ha ?_
      refine Ia ?_
      refine Da ?_
      refine Ca (Lf rfl) ?_
      refine Ca (H9 underlying9 rfl) ?_
      refine Ca (Gc rfl) ?_
      refine Ca (Ec rfl) ?_
      refine Ya ?_
      refine Ha ?_
      refine Fc (Bc (Za (Ye (v := .int .i64 ((((s) : Str).length : Int))) (x := .bool true) rfl rfl rfl) ?_))
      have e : s.drop q = [] := List.drop_eq_nil_of_le by_Om
      rw [e] at hv; cases hv
theorem EC (s : Str) (hl : s.length ≤ 140737488355328) (w0 : World) (hG : Gl w0) : Calls prog 73 #[.string (bs s)] w0 (Rd fun v w' => v = .bool (Lib.validD s) ∧ Same [] w0 w') := by
 refine Ma func73 rfl ntmps73 Jb (Ed _) ?_
 have hF := FR.start w0 []
 refine Ka (Ca (Ec rfl) (Cc (Ca (Lf rfl) ?_)))
 refine Db (GD s hl _ (hG.ext hF.same)) (Eb FP rfl rfl) ?_
 rintro _ w ⟨n, rfl, hE⟩
 replace hF := hF.ext hE
 clear hE
 refine Ca (Xm rfl) (Ca (Zn rfl rfl) (Ca (Ar rfl rfl) (Ca (Gc rfl) (Ca (Ec rfl) (Cc (Ca (Fd rfl) (Ca (Ec rfl) (Ea ?_))))))))
 refine Xd (v := .bool _) rfl rfl ?_
 exact ⟨rfl, hF.same⟩
theorem G2 (s : Str) (hl : s.length ≤ 140737488355328) (w0 : World) (hG : Gl w0) : Calls prog 72 #[.string (bs s)] w0 (Rd fun v w' => v = .tuple #[Bp (Sf s).1, .bool (Tj s)] ∧ Same [] w0 w') := by
 refine Ma func72 rfl ntmps72 Jb (Ed _) ?_
 have hF := FR.start w0 []
 refine Ka ?_
 refine Ig (cs := #[.bool false, .string (bs []), .int .i64 0]) hF zeroValue71 rfl ?_
 clear hF; rintro b1 w hb1 hF -
 refine Ca (Ec rfl) (Cc (Ca (Lf rfl) ?_))
 refine Pb hF (FC s hl _) (Eb IP rfl rfl) ?_
 clear hF; intro w hF
 refine Ca (Xm rfl) (Ca (XA rfl rfl) (Ca (Zn rfl rfl) ?_))
 refine Bj hF zeroValue71 sizeOf71 rfl ?_
 clear hF; rintro b2 w hb2 hF -
 refine Ca (Gc rfl) (Ea (Ia ?_))
 refine Id [] (.free 0 (.free 1 (.free 2 (.free 3 (.free 4 (.free 6 (.act 5 (.free 7 (.free 8 (.act 9 (.free 10 .nil))))))))))) hF ?_
 clear hF; rintro w hF -
 refine ⟨fun wq => FR w0 [] [(b2, .cells #[.bool ((Sf s).1.neg), .string (bs ((Sf s).1.digits)), .int .i64 ((Sf s).1.exp)] 71)] wq, hF.sub (.cons_cons _ (.cons _ .slnil)), ?_⟩
 refine Zo rfl (Bm isAgg71 sizeOf71 rfl C0 0 rfl rfl) (Xa rfl (Hb rfl) (Xa rfl (Fo rfl rfl) (Xa rfl (Fd rfl) ?_)))
 refine Bh (d := 14) rfl (fun hg0 => ?_) (fun hg0 => ?_)
 refine Zo rfl (Bm isAgg71 sizeOf71 rfl C0 0 rfl rfl) (Xa rfl (Lf rfl) ?_)
 refine Qn hF (LL (Sf s).1 (by have := Es s; omega) _ (hG.ext hF.same)) rfl (Eb BP rfl rfl) ?_
 clear hF; intro w hF
 refine ⟨hF.sub (.cons_cons _ (.cons _ .slnil)), ?_⟩
 refine Xa rfl (M_ rfl rfl) (Xa rfl (Oc rfl rfl) ?_)
 refine Tt rfl hF sizeOf71 rfl rfl Y6 ?_
 clear hF; rintro w hF -
 refine ⟨hF.sub (.cons_cons _ (.cons _ .slnil)), ?_⟩
 refine Xa rfl (Ec rfl) (Jc (Ha ?_))
 refine Fc (Bc (Za (Le rfl (l := [.bool ((Sf s).1.neg), .string (bs ((Sf s).1.digits)), .int .i64 ((Sf s).1.exp)]) rfl isAgg71 sizeOf71 rfl (hF.cellsAll 1 rfl) (v := .bool (decide ((Mn (Sf s).1 : Str) = s))) rfl) ?_))
 exact ⟨by simp_all [Tj, Bp], hF.same⟩
 refine Ta rfl ?_
 refine Ta rfl ?_
 refine QR rfl ?_ (hF.sub (.cons_cons _ (.cons _ .slnil)))
 refine Ta rfl ?_
 refine Xa rfl (Jd rfl rfl) ?_
 refine Tt rfl hF sizeOf71 rfl rfl Y6 ?_
 clear hF; rintro w hF -
 refine ⟨hF.sub (.cons_cons _ (.cons _ .slnil)), ?_⟩
 refine Xa rfl (Ec rfl) (Jc (Ha ?_))
 refine Fc (Bc (Za (Le rfl (l := [.bool ((Sf s).1.neg), .string (bs ((Sf s).1.digits)), .int .i64 ((Sf s).1.exp)]) rfl isAgg71 sizeOf71 rfl (hF.cellsAll 1 rfl) (v := .bool false) rfl) ?_))
 exact ⟨by simp_all [Tj, Bp], hF.same⟩
theorem LQ (s : Str) (hl : s.length ≤ 140737488355328) (w0 : World) (hG : Gl w0) : Calls prog 74 #[.string (bs s)] w0 (Rd fun v w' => v = .bool (W8 s) ∧ Same [] w0 w') := by
 refine Ma func74 rfl ntmps74 Jb (Ed _) ?_
 have hF := FR.start w0 []
 refine Ka (Ca (Ec rfl) (Cc (Ca (Lf rfl) ?_)))
 refine Pb hF (G2 s hl _ (hG.ext hF.same)) (Eb PO rfl rfl) ?_
 clear hF; intro w hF
 refine Ca (Xm rfl) (Ca (XA rfl rfl) (Ca (Ar rfl rfl) ?_))
 refine Bj hF zeroValue71 sizeOf71 rfl ?_
 clear hF; rintro b1 w hb1 hF -
 refine Ca (Ec rfl) (Cc (Qd (Bm isAgg71 sizeOf71 rfl hF.F 0 rfl rfl) ?_))
 refine Pb hF (PK (Sf s).1 (by have := Es s; omega) _ (hG.ext hF.same)) (Eb XT rfl rfl) ?_
 clear hF; intro w hF
 refine Ca (Xm rfl) (Ca (Zn rfl rfl) (Ca (Ar rfl rfl) (Ca (Gc rfl) (Ca (Ec rfl) (Cc (Ca (Fd rfl) (Ca (Fd rfl) ?_)))))))
 refine We (d := 18) rfl (fun hg0 => ?_) (fun hg0 => ?_)
 refine Ca (Fd rfl) (Ca (Oc rfl rfl) (Ca (Fd rfl) ?_))
 refine We (d := 21) rfl (fun hg1 => ?_) (fun hg1 => ?_)
 refine Ca (Hb rfl) (Ca (CD rfl rfl) (Ca (Oc rfl rfl) (Ca (Ec rfl) (Ea ?_))))
 refine Xd (v := .bool _) rfl rfl ?_
 exact ⟨by simp_all [W8], hF.same⟩
 refine Sa (Sa (Ca (Jd rfl rfl) (Ca (Ec rfl) (Ea ?_))))
 refine Xd (v := .bool false) rfl rfl ?_
 exact ⟨by simp_all [W8], hF.same⟩
 refine Sa (Ca (Jd rfl rfl) (Ca (Fd rfl) (Sa (Sa (Ca (Jd rfl rfl) (Ca (Ec rfl) (Ea ?_)))))))
 refine Xd (v := .bool false) rfl rfl ?_
 exact ⟨by simp_all [W8], hF.same⟩
end Go.Scarf
namespace Go.Scarf
open Go.RowKit Go.Proofs Go.Proofs.Tryz
def Eo (ks : List Str) (n : Int) : Bool := decide ks.Nodup && ks.all Lib.validD && decide ((ks.length : Int) = n)
def Et (ks : List Str) : MapL := ks.map fun k => (k, .bool true)
theorem Oz (ks : List Str) (k : Str) : Ah (Et ks) k = if k ∈ ks then some (.bool true) else none := by
  induction ks with
  | nil => rfl
  | cons a r ih =>
    have e : Et (a :: r) = [(a, .bool true)] ++ Et r := rfl
    rw [e, F6, ih]
    by_cases h : a = k
    · subst h; simp [Ah]
    · have h' : ¬ k = a := fun e => h e.symm
      simp [Ah, h, h']
theorem EA (ks : List Str) (j : Nat) (h : j < ks.length) : Et (ks.take j) ++ [(ks[j], .bool true)] = Et (ks.take (j + 1)) := by
  unfold Et; rw [List.take_succ_eq_append_getElem h, List.map_append]; rfl
theorem Ix {ks : List Str} {j : Nat} (h : j < ks.length) (hn : (ks.take j).Nodup) (hi : ¬ ks[j] ∈ ks.take j) : (ks.take (j + 1)).Nodup := by
  rw [List.take_succ_eq_append_getElem h, List.nodup_append]
  refine ⟨hn, by simp, ?_⟩
  intro a ha b hb e
  simp only [List.mem_singleton] at hb
  subst e; subst hb; exact hi ha
theorem Zt {ks : List Str} {j : Nat} (h : j < ks.length) (hi : ks[j] ∈ ks.take j) : ¬ ks.Nodup := by
  intro hn
  obtain ⟨i, hi', he⟩ := List.getElem_of_mem hi
  rw [List.getElem_take] at he
  have hi2 : i < j := by rw [List.length_take] at hi'; omega
  have := (List.pairwise_iff_getElem.1 hn) i j by_Om h hi2
  exact this he
theorem G1 {f : Str → Bool} {ks : List Str} {j : Nat} (h : j < ks.length) (ha : (ks.take j).all f = true) (hv : f ks[j] = true) : (ks.take (j + 1)).all f = true := by
  rw [List.take_succ_eq_append_getElem h, List.all_append, ha]; simp [hv]
theorem DN {f : Str → Bool} {ks : List Str} {j : Nat} (h : j < ks.length) (hv : f ks[j] = false) : ks.all f = false := by
  rw [Bool.eq_false_iff]; intro ha
  have := List.all_eq_true.1 ha ks[j] (List.getElem_mem h)
  rw [hv] at this; cases this
theorem CO (ks : List Str) (n : Int) (S : Nat → Prop) (A : Option Addr) (c : Nat) (hl : ∀ k ∈ ks, k.length ≤ 140737488355328) (w0 : World) (hG : Gl w0) (hX : Rep S w0 (Gf ks) [.slice A ks.length c]) : Calls prog 71 #[.slice A ks.length c, .int .i64 n] w0 (Rd fun v w' => v = .bool (Eo ks n) ∧ Same [] w0 w') := by
 have hXl := hX.slice_len
 refine Ma func71 rfl ntmps71 Jb (Vd _ _) ?_
 have hF := FR.start w0 []
 refine Ka (Ca (Ec rfl) (Cc (Ca (Md rfl) (Ca (Qe underlying25 rfl) ?_))))
 refine Xr (v := fun b => .map (some b)) hF (F4 underlying121 rfl) ?_
 clear hF; rintro b1 w hb1 hF -
 refine Ca (C1) (Ea (Ia (Ka (Ca (Md rfl) (Ca (Qe underlying25 rfl) (Ca (Hb rfl) (Ea (Va ?_))))))))
 replace hF : FR w0 [] [(b1, Sh (Et (ks.take 0)))] w := hF
 refine Uc (fun μ σ w => ∃ (j : Nat), μ = ks.length - j ∧ (j ≤ ks.length) ∧ ((ks.take j).Nodup) ∧ ((ks.take j).all Lib.validD = true) ∧ AllEq σ [(0, .slice A ks.length c), (1, .int .i64 n), (5, .map (some b1)), (11, .slice A ks.length c), (12, .int .i64 ((ks.length : Nat))), (13, .int .i64 ((j : Int)))] ∧ FR w0 [] [(b1, Sh (Et (ks.take j)))] w) _ ⟨0, rfl, (Nat.zero_le _), Ga, Ga, MG, hF⟩ ?_
 clear hF; rintro μ σ w ⟨j, rfl, hj, hd, hv, hs, hF⟩
 refine Cg.slots hs ?_
 clear hs; intro σ
 refine Ka (Ca (Nk rfl rfl) (Ea (Ia ?_)))
 refine Pc rfl rfl (fun hc0 => ?_) (fun hc0 => ?_)
 refine Wa (Ha (Ia (Va (Ka ?_))))
 obtain ⟨ad0, hA0, hk0, hx0⟩ := hX.str_elem (i := j) by_Om
 refine Ja (v := .pointer (some (ad0.add (j * 1)))) (Oa (i := (j : Int)) Lw rfl hA0 rfl by_Om by_Om) (Ja (v := .string (bs (ks[j]))) (Cb isAgg9 rfl (hF.cell0 hk0)) (Ca (Qj rfl) (Ea (Ia (Ka (Ca (Z0) (Ca (Lf rfl) ?_)))))))
 refine Ja (v := .bool (decide (ks[j] ∈ ks.take j))) (H2 underlying121 underlying9 zeroValue4 rfl rfl (hF.heap (i := 0) rfl) (by rw [Oz]; split <;> rename_i hh <;> simp only [hh, decide_true, decide_false] <;> rfl)) ?_
 refine Ca (Fd rfl) ?_
 refine Cd (d := 20) rfl (fun hg1 => ?_) (fun hg1 => ?_)
 refine Sa (Sa (Sa (Ca (Oc rfl rfl) (Ea (Ae rfl (Ka (Ca (Ec rfl) (Ea ?_))))))))
 refine Xd (v := .bool false) rfl rfl ?_
 have := Zt (ks := ks) (j := j) by_Om (by assumption)
 exact ⟨congrArg Value.bool (by unfold Eo; rw [decide_eq_false this]; rfl), hF.same⟩
 refine Ca (Lf rfl) ?_
 refine Pb hF (EC ks[j] (hl _ (List.getElem_mem _)) _ (hG.ext hF.same)) (Eb JP rfl rfl) ?_
 clear hF; intro w hF
 refine Ca (Oo rfl) (Ca (Jd rfl rfl) (Ea ?_))
 refine Pj rfl rfl (fun hc1 => ?_) (fun hc1 => ?_)
 refine Ka (Ca (Ec rfl) (Ea ?_))
 refine Xd (v := .bool false) rfl rfl ?_
 have := DN (f := Lib.validD) (ks := ks) (j := j) by_Om (by simpa using hc1)
 exact ⟨congrArg Value.bool (by unfold Eo; rw [this, Bool.and_false]; rfl), hF.same⟩
 refine Wa (Ha (Da (Ca (Z0) (Ca (Lf rfl) ?_))))
 refine Xw 0 (v := .bool true) hF underlying121 underlying9 rfl rfl rfl rfl (by rw [Oz, if_neg (by assumption)]) ?_
 clear hF; rintro w hF -
 rw [EA ks j by_Om] at hF
 replace hF : FR w0 [] [(b1, Sh (Et (ks.take (j + 1))))] w := hF
 refine Ya (Mb (Ha (Da (Ca (Jn rfl rfl) (Ca (Hb rfl) (Ya ?_))))))
 refine Ic ⟨_, ?_, j + 1, rfl, by_Om, (Ix by_Om hd (by assumption)), (G1 by_Om hv (by simpa using hc1)), MG, hF⟩
 omega
 refine Nc (Lc rfl ?_)
 refine Ha (Ka (Ca (Md rfl) (Ca (Qe underlying25 rfl) (Ca (Hb rfl) (Ca (Fo rfl rfl) (Ca (Ec rfl) (Ea ?_)))))))
 refine Xd (v := .bool _) rfl rfl ?_
 obtain rfl : j = ks.length := by omega
 rw [List.take_length] at hd hv
 exact ⟨congrArg Value.bool (by unfold Eo; rw [hv, decide_eq_true hd]; rfl), hF.same⟩
end Go.Scarf
namespace Go.Scarf
open Go.RowKit Go.Proofs Go.Proofs.Tryz
mutual
def Ox : Tree → Prop | .node _ t ks xs => t.length ≤ 140737488355328 ∧ (∀ k ∈ ks, k.length ≤ 140737488355328) ∧ F1 xs
def F1 : List Tree → Prop | [] => True | x :: xs => Ox x ∧ F1 xs
end
theorem Pq : ∀ {xs : List Tree}, F1 xs → ∀ x ∈ xs, Ox x
  | [], _, _, h => absurd h Ga
  | y :: ys, h, x, hx => by
    rw [F1] at h
    rcases List.mem_cons.1 hx with rfl | hx
    · exact h.1
    · exact Pq h.2 x hx
def nodeB : Tree → Bool
  | .node k t ks xs =>
    if k = 5 then decide (ks = []) && decide (t = []) else
    if k = 6 then Eo ks xs.length && decide (t = []) else
    if ks ≠ [] ∨ xs ≠ [] then false else
    if k = 1 then decide (t = []) else
    if k = 2 then decide (t = [116, 114, 117, 101]) || decide (t = [102, 97, 108, 115, 101]) else
    if k = 3 then Tj t else if k = 4 then Lib.validD t else if k = 7 then W8 t else false
def H3 (g : Nat) (q : Tree → Bool) : Prop := ∀ (x : Tree) (S : Nat → Prop) (w0 : World) (cs : List Value), Rep S w0 (Sc x) cs → Ox x → Gl w0 → Calls prog g #[.agg cs.toArray] w0 (Rd fun v w' => v = .bool (q x) ∧ Same [] w0 w')
theorem VJ  : H3 50 nodeB := by
 rintro ⟨k, t, ks, xs⟩ S w0 cs hR hk hG
 obtain ⟨A, c, B, e, rfl, -, -, hK, hX⟩ := hR.tree_inv
 rw [Ox] at hk
 refine Ma func50 rfl ntmps50 Jb (Ed _) ?_
 have hF := FR.start w0 []
 refine Ka ?_
 refine Sj hF rfl ?_
 clear hF; rintro b1 w hb1 hF -
 refine Ca (Ec rfl) (Ea (Ia ?_))
 refine Uf (zs := []) (.free 0 (.free 1 (.free 2 (.free 3 (.free 4 (.free 5 (.free 6 (.free 7 (.free 8 (.free 9 .nil)))))))))) hF ?_
 clear hF; intro w hF
 refine Xa rfl (Kc Zj rfl) (Zo rfl (Vi isAgg25 rfl C0 0 rfl rfl) (Xa rfl (Qe underlying25 rfl) (Xa rfl (X0 rfl rfl) (Xa rfl (Kc Ce rfl) (Zo rfl (Vi isAgg22 rfl C0 0 rfl rfl) (Xa rfl (Qe underlying22 rfl) (Xa rfl (X0 rfl rfl) (Xa rfl (Ec rfl) (Xa rfl (Ec rfl) (Jc (Ha (Ia (Ia ?_)))))))))))))
 refine Da (Ca (Kc Hl rfl) (Qd (Zr isAgg3 rfl hF.F 0 rfl rfl) (Ea (Va (Ka (Ca (Fo rfl rfl) (Ca (Ec rfl) (Ea ?_))))))))
 refine Pc rfl rfl (fun hc0 => ?_) (fun hc0 => ?_)
 refine Ka (Ca (Fd rfl) (Ca (AV rfl) (Ca (Fd rfl) ?_)))
 refine Cd (d := 21) rfl (fun hg0 => ?_) (fun hg0 => ?_)
 refine Ca (Kc Yh rfl) (Qd (Jx isAgg9 rfl hF.F 0 rfl rfl) (Ca (M_ rfl rfl) (Ca (Oc rfl rfl) (Ca (Ec rfl) (Ea ?_)))))
 refine Xd (v := .bool _) rfl rfl ?_
 refine ⟨?_, hF.same⟩
 clear hF hR hK hX hb1
 simp_all [nodeB, List.length_pos_iff]
 refine Sa (Sa (Sa (Ca (Jd rfl rfl) (Ca (Ec rfl) (Ea ?_)))))
 refine Xd (v := .bool false) rfl rfl ?_
 refine ⟨?_, hF.same⟩
 clear hF hR hK hX hb1
 simp_all [nodeB, List.length_pos_iff]
 refine Ka (Ca (Fo rfl rfl) (Ca (Ec rfl) (Ea ?_)))
 refine Pc rfl rfl (fun hc1 => ?_) (fun hc1 => ?_)
 refine Ka (Ca (Kc Zj rfl) (Qd (Vi isAgg25 rfl hF.F 0 rfl rfl) (Ca (Kc Ce rfl) (Qd (Vi isAgg22 rfl hF.F 0 rfl rfl) (Ca (Qe underlying22 rfl) ?_)))))
 refine Pb hF (CO ks (xs.length : Nat) S A c (by simpa using hk.2.1) _ (hG.ext hF.same) (hF.rep hK)) (Qb TS rfl rfl rfl) ?_
 clear hF; intro w hF
 refine Ca (Fd rfl) ?_
 refine We (d := 34) rfl (fun hg1 => ?_) (fun hg1 => ?_)
 refine Ca (Kc Yh rfl) (Qd (Jx isAgg9 rfl hF.F 0 rfl rfl) (Ca (M_ rfl rfl) (Ca (Oc rfl rfl) (Ca (Ec rfl) (Ea ?_)))))
 refine Xd (v := .bool _) rfl rfl ?_
 refine ⟨?_, hF.same⟩
 clear hF hR hK hX hb1
 simp_all [nodeB, List.length_pos_iff]
 refine Sa (Sa (Sa (Ca (Jd rfl rfl) (Ca (Ec rfl) (Ea ?_)))))
 refine Xd (v := .bool false) rfl rfl ?_
 refine ⟨?_, hF.same⟩
 clear hF hR hK hX hb1
 simp_all [nodeB, List.length_pos_iff]
 refine Wa (Mb (Ha (Ia (Ka (Ca (Fd rfl) (Ca (Fd rfl) ?_))))))
 refine Cd (d := 40) rfl (fun hg2 => ?_) (fun hg2 => ?_)
 refine Sa (Ca (Oc rfl rfl) (Ea (Ae rfl (Ka (Ca (Ec rfl) (Ea ?_))))))
 refine Xd (v := .bool false) rfl rfl ?_
 refine ⟨?_, hF.same⟩
 clear hF hR hK hX hb1
 simp_all [nodeB, List.length_pos_iff]
 refine Ca (Fd rfl) (Ca (Jd rfl rfl) (Ea ?_))
 refine Pc rfl rfl (fun hc2 => ?_) (fun hc2 => ?_)
 refine Ka (Ca (Ec rfl) (Ea ?_))
 refine Xd (v := .bool false) rfl rfl ?_
 refine ⟨?_, hF.same⟩
 clear hF hR hK hX hb1
 simp_all [nodeB, List.length_pos_iff]
 refine Wa (Ha (Ia (Ka (Ca (Kc Hl rfl) (Qd (Zr isAgg3 rfl hF.F 0 rfl rfl) (Ea (Va (Ka (Ca (Fo rfl rfl) (Ca (Ec rfl) ?_))))))))))
 refine Ea ?_
 refine Pc rfl rfl (fun hc3 => ?_) (fun hc3 => ?_)
 refine Ka (Ca (Kc Yh rfl) (Qd (Jx isAgg9 rfl hF.F 0 rfl rfl) (Ca (M_ rfl rfl) (Ca (Ec rfl) (Ea ?_)))))
 refine Xd (v := .bool _) rfl rfl ?_
 refine ⟨?_, hF.same⟩
 clear hF hR hK hX hb1
 simp_all [nodeB, List.length_pos_iff]
 refine Ka (Ca (Fo rfl rfl) (Ca (Ec rfl) (Ea ?_)))
 refine Pc rfl rfl (fun hc4 => ?_) (fun hc4 => ?_)
 refine Ka (Ca (Kc Yh rfl) (Qd (Jx isAgg9 rfl hF.F 0 rfl rfl) (Ca (M_ rfl rfl) (Ca (Fd rfl) ?_))))
 refine Cd (d := 55) rfl (fun hg3 => ?_) (fun hg3 => ?_)
 refine Sa (Sa (Sa (Ca (Oc rfl rfl) (Ca (Ec rfl) (Ea ?_)))))
 refine Xd (v := .bool true) rfl rfl ?_
 refine ⟨?_, hF.same⟩
 clear hF hR hK hX hb1
 simp_all [nodeB, List.length_pos_iff]
 refine Ca (Kc Yh rfl) (Qd (Jx isAgg9 rfl hF.F 0 rfl rfl) (Ca (M_ rfl rfl) (Ca (Jd rfl rfl) (Ca (Ec rfl) (Ea ?_)))))
 refine Xd (v := .bool _) rfl rfl ?_
 refine ⟨?_, hF.same⟩
 clear hF hR hK hX hb1
 simp_all [nodeB, List.length_pos_iff]
 refine Ka (Ca (Fo rfl rfl) (Ca (Ec rfl) (Ea ?_)))
 refine Pc rfl rfl (fun hc5 => ?_) (fun hc5 => ?_)
 refine Ka (Ca (Kc Yh rfl) (Qd (Jx isAgg9 rfl hF.F 0 rfl rfl) ?_))
 refine Pb hF (G2 t hk.1 _ (hG.ext hF.same)) (Eb PO rfl rfl) ?_
 clear hF; intro w hF
 refine Ca (Xm rfl) (Ca (XA rfl rfl) (Ca (Ar rfl rfl) ?_))
 refine Bj hF zeroValue71 sizeOf71 rfl ?_
 clear hF; rintro b2 w hb2 hF -
 refine Ca (Ec rfl) (Cc (Ca (Fd rfl) (Ca (Ec rfl) (Ea ?_))))
 refine Xd (v := .bool _) rfl rfl ?_
 refine ⟨?_, hF.same⟩
 clear hF hR hK hX hb1
 simp_all [nodeB, List.length_pos_iff]
 refine Ka (Ca (Fo rfl rfl) (Ca (Ec rfl) (Ea ?_)))
 refine Pc rfl rfl (fun hc6 => ?_) (fun hc6 => ?_)
 refine Ka (Ca (Kc Yh rfl) (Qd (Jx isAgg9 rfl hF.F 0 rfl rfl) ?_))
 refine Pb hF (EC t hk.1 _ (hG.ext hF.same)) (Eb JP rfl rfl) ?_
 clear hF; intro w hF
 refine Ca (Ec rfl) (Ea ?_)
 refine Xd (v := .bool _) rfl rfl ?_
 refine ⟨?_, hF.same⟩
 clear hF hR hK hX hb1
 simp_all [nodeB, List.length_pos_iff]
 refine Ka (Ca (Fo rfl rfl) (Ca (Ec rfl) (Ea ?_)))
 refine Pc rfl rfl (fun hc7 => ?_) (fun hc7 => ?_)
 refine Ka (Ca (Kc Yh rfl) (Qd (Jx isAgg9 rfl hF.F 0 rfl rfl) ?_))
 refine Pb hF (LQ t hk.1 _ (hG.ext hF.same)) (Eb RS rfl rfl) ?_
 clear hF; intro w hF
 refine Ca (Ec rfl) (Ea ?_)
 refine Xd (v := .bool _) rfl rfl ?_
 refine ⟨?_, hF.same⟩
 clear hF hR hK hX hb1
 simp_all [nodeB, List.length_pos_iff]
 refine Wa (Mb (Ha (Ka (Ca (Ec rfl) (Ea ?_)))))
 refine Xd (v := .bool false) rfl rfl ?_
 refine ⟨?_, hF.same⟩
 clear hF hR hK hX hb1
 simp_all [nodeB, List.length_pos_iff]
end Go.Scarf
namespace Go.Scarf
open Go.RowKit Go.Proofs Go.Proofs.Tryz
theorem Tree.ind {Q : Tree → Prop} (h : ∀ k t ks xs, (∀ x, x ∈ xs → Q x) → Q (.node k t ks xs)) (x : Tree) : Q x :=
  Tree.rec (motive_1 := Q) (motive_2 := fun xs => ∀ x, x ∈ xs → Q x) (fun k t ks xs ih => h k t ks xs ih) Ga
    (fun y ys h1 h2 => by
      intro z hz
      rcases List.mem_cons.1 hz with rfl | hz
      · exact h1
      · exact h2 z hz) x
mutual
def Ac : Tree → Nat | .node _ _ _ xs => 1 + Xc xs
def Xc : List Tree → Nat | [] => 0 | x :: xs => Ac x + Xc xs
end
mutual
def Gd : Tree → Nat | .node _ _ _ xs => Zc xs + 1
def Zc : List Tree → Nat | [] => 0 | x :: xs => max (Gd x) (Zc xs)
end
theorem Bs : ∀ (xs ys : List Tree), Xc (xs ++ ys) = Xc xs + Xc ys
  | [], ys => by simp [Xc]
  | x :: xs, ys => by simp [Xc, Bs xs ys, Nat.add_assoc]
theorem Up : ∀ (xs ys : List Tree), Zc (xs ++ ys) = max (Zc xs) (Zc ys)
  | [], ys => by simp [Zc]
  | x :: xs, ys => by simp only [List.cons_append, Zc, Up xs ys]; omega
theorem K9 (xs : List Tree) (j : Nat) (hj : j < xs.length) : Xc (xs.take (j+1)) = Xc (xs.take j) + Ac xs[j] := by
  rw [List.take_succ_eq_append_getElem hj, Bs]; simp [Xc]
theorem G6 (xs : List Tree) (j : Nat) (hj : j < xs.length) : Zc (xs.take (j+1)) = max (Zc (xs.take j)) (Gd xs[j]) := by
  rw [List.take_succ_eq_append_getElem hj, Up]; simp [Zc]
theorem Qk : ∀ {xs : List Tree} {x : Tree}, x ∈ xs → Ac x ≤ Xc xs
  | [], _, h => absurd h Ga
  | y :: ys, x, h => by
    rw [Xc]
    rcases List.mem_cons.1 h with rfl | h
    · omega
    · have := Qk h; omega
theorem ZE (x : Tree) : 1 ≤ Ac x := by cases x; rw [Ac]; omega
theorem To : ∀ (xs : List Tree), xs.length ≤ Xc xs
  | [] => by simp [Xc]
  | x :: xs => by have := To xs; have := ZE x; simp only [Xc, List.length_cons]; omega
theorem FI (x : Tree) : Gd x ≤ Ac x := by
  refine Tree.ind (Q := fun x => Gd x ≤ Ac x) (fun k t ks xs ih => ?_) x
  have : Zc xs ≤ Xc xs := by
    induction xs with
    | nil => simp [Zc, Xc]
    | cons y ys ihy =>
      have h1 := ih y Ga
      have h2 := ihy (fun z hz => ih z (by simp [hz]))
      simp only [Zc, Xc]; omega
  simp only [Gd, Ac]; omega
theorem AC (xs : List Tree) : Zc xs ≤ Xc xs := by
  have := FI (.node 0 [] [] xs)
  simp only [Gd, Ac] at this; omega
def EK (x : Tree) : Prop := ∀ S w0 cs, Rep S w0 (Sc x) cs → Calls prog 67 #[.agg cs.toArray] w0 (Rd fun v w' => v = .int .i64 (wr (Ac x)) ∧ Same [] w0 w')
theorem SG (k : Int) (t : Str) (ks : List Str) (xs : List Tree) (ih : ∀ x, x ∈ xs → EK x) : EK (.node k t ks xs) := by
 intro S w0 cs hR
 obtain ⟨A, c, B, e, rfl, -, -, -, hX⟩ := hR.tree_inv
 have hXl := hX.slice_len
 refine Ma func67 rfl ntmps67 Jb (Ed _) ?_
 have hF := FR.start w0 []
 refine Ka ?_
 refine Sj hF rfl ?_
 clear hF; rintro b1 w hb1 hF -
 refine Ca (Gc rfl) (Cc (Ca (Gc rfl) (Ea (Ia (Ka (Ca (Kc Ce rfl) (Qd (Vi isAgg22 rfl hF.F 0 rfl rfl) (Ca (Qe underlying22 rfl) ?_))))))))
 refine Ca (Hb rfl) (Ea (Va ?_))
 refine Uc (fun μ σ w => ∃ (j : Nat), μ = xs.length - j ∧ (j ≤ xs.length) ∧ AllEq σ [(3, .int .i64 (wr (1 + Xc (xs.take j)))), (7, .slice B xs.length e), (8, .int .i64 ((xs.length : Nat))), (9, .int .i64 ((j : Int)))] ∧ FR w0 [] [(b1, .cells #[.int .i64 k, .string (bs t), .slice A ks.length c, .slice B xs.length e] 27)] w) _ ⟨0, rfl, (Nat.zero_le _), Gt, hF⟩ ?_
 clear hF; rintro μ σ w ⟨j, rfl, hj, hs, hF⟩
 refine Cg.slots hs ?_
 clear hs; intro σ
 refine Ka (Ca (Nk rfl rfl) (Ea (Ia ?_)))
 refine Pc rfl rfl (fun hc0 => ?_) (fun hc0 => ?_)
 refine Wa (Ha (Ia (Va (Ka ?_))))
 obtain ⟨ad0, cs0, hA0, hl0, hk0, hx0⟩ := hX.tree_elem (i := j) by_Om
 have ho0 := hx0.one_
 refine Ja (v := .pointer (some (ad0.add (j * 4)))) (Oa (i := (j : Int)) Hi rfl hA0 rfl by_Om by_Om) (Ja (v := .agg (List.toArray cs0)) (Sb (l := cs0) isAgg27 sizeOf27 rfl hl0 (hF.cells0 hk0)) ?_)
 refine Tr (l := cs0) hF zeroValue27 (by rw [hl0]; exact sizeOf27) (by rw [hl0]; rfl) (v := .agg (List.toArray cs0)) rfl rfl (ho0) rfl ?_
 clear hF; rintro b2 w hb2 hF -
 refine Ea (Da (Ca (Hb rfl) (Ja (v := .agg (List.toArray cs0)) (Sb (l := cs0) isAgg27 sizeOf27 rfl hl0 (hF.cellsAll 0 rfl)) ?_)))
 refine Pb hF (ih _ (List.getElem_mem _) _ _ _ (hF.rep hx0)) (Eb GO rfl rfl) ?_
 clear hF; intro w hF
 refine Ja (v := .int .i64 (wr (1 + Xc (xs.take (j + 1))))) (Ct rfl rfl (by rw [UF, K9 xs j by_Om, Int.natCast_add, Int.add_assoc])) ?_
 refine Ca (Gc rfl) (Ya (Mb (Ha (Da (Ca (Jn rfl rfl) (Ca (Hb rfl) (Ya ?_)))))))
 refine Ic ⟨_, ?_, j + 1, rfl, by_Om, Gt, hF.drop 1⟩
 omega
 refine Nc (Lc rfl ?_)
 refine Ha (Ka (Ca (Hb rfl) (Ca (Gc rfl) (Ea ?_))))
 refine Xd (v := .int .i64 (wr (1 + Xc (xs.take j)))) rfl rfl ?_
 obtain rfl : j = xs.length := by omega
 exact ⟨by simp [Ac], hF.same⟩
theorem IQ (x : Tree) : EK x := Tree.ind SG x
def BB (x : Tree) : Prop := Ac x ≤ 1000000000 → ∀ S w0 cs, Rep S w0 (Sc x) cs → Calls prog 68 #[.agg cs.toArray] w0 (Rd fun v w' => v = .int .i64 (Gd x : Nat) ∧ Same [] w0 w')
theorem QB (k : Int) (t : Str) (ks : List Str) (xs : List Tree) (ih : ∀ x, x ∈ xs → BB x) : BB (.node k t ks xs) := by
 intro hsz S w0 cs hR
 obtain ⟨A, c, B, e, rfl, -, -, -, hX⟩ := hR.tree_inv
 have hXl := hX.slice_len
 have hdl := AC xs
 rw [Ac] at hsz
 refine Ma func68 rfl ntmps68 Jb (Ed _) ?_
 have hF := FR.start w0 []
 refine Ka ?_
 refine Sj hF rfl ?_
 clear hF; rintro b1 w hb1 hF -
 refine Ca (Gc rfl) (Cc (Ca (Gc rfl) (Ea (Ia (Ka (Ca (Kc Ce rfl) (Qd (Vi isAgg22 rfl hF.F 0 rfl rfl) (Ca (Qe underlying22 rfl) ?_))))))))
 refine Ca (Hb rfl) (Ea (Va ?_))
 refine Uc (fun μ σ w => ∃ (j : Nat), μ = xs.length - j ∧ (j ≤ xs.length) ∧ AllEq σ [(3, .int .i64 ((Zc (xs.take j) : Nat))), (7, .slice B xs.length e), (8, .int .i64 ((xs.length : Nat))), (9, .int .i64 ((j : Int)))] ∧ FR w0 [] [(b1, .cells #[.int .i64 k, .string (bs t), .slice A ks.length c, .slice B xs.length e] 27)] w) _ ⟨0, rfl, (Nat.zero_le _), Gt, hF⟩ ?_
 clear hF; rintro μ σ w ⟨j, rfl, hj, hs, hF⟩
 refine Cg.slots hs ?_
 clear hs; intro σ
 refine Ka (Ca (Nk rfl rfl) (Ea (Ia ?_)))
 refine Pc rfl rfl (fun hc0 => ?_) (fun hc0 => ?_)
 refine Wa (Ha (Ia (Va (Ka ?_))))
 obtain ⟨ad0, cs0, hA0, hl0, hk0, hx0⟩ := hX.tree_elem (i := j) by_Om
 have ho0 := hx0.one_
 refine Ja (v := .pointer (some (ad0.add (j * 4)))) (Oa (i := (j : Int)) Hi rfl hA0 rfl by_Om by_Om) (Ja (v := .agg (List.toArray cs0)) (Sb (l := cs0) isAgg27 sizeOf27 rfl hl0 (hF.cells0 hk0)) ?_)
 refine Tr (l := cs0) hF zeroValue27 (by rw [hl0]; exact sizeOf27) (by rw [hl0]; rfl) (v := .agg (List.toArray cs0)) rfl rfl (ho0) rfl ?_
 clear hF; rintro b2 w hb2 hF -
 refine Ea (Da (Ca (Hb rfl) (Ja (v := .agg (List.toArray cs0)) (Sb (l := cs0) isAgg27 sizeOf27 rfl hl0 (hF.cellsAll 0 rfl)) ?_)))
 refine Pb hF (ih _ (List.getElem_mem _) (by have := Qk (List.getElem_mem (l := xs) (n := j) by_Om); omega) _ _ _ (hF.rep hx0)) (Eb YO rfl rfl) ?_
 clear hF; intro w hF
 refine Ja (v := .int .i64 ((Zc (xs.take (j + 1)) : Nat))) (by rw [← show max ((Zc (xs.take j) : Nat) : Int) ((Gd xs[j] : Nat) : Int) = ((Zc (xs.take (j + 1)) : Nat) : Int) from by rw [G6 xs j by_Om]; omega]; exact ZT rfl rfl) ?_
 refine Ca (Gc rfl) (Ya (Mb (Ha (Da (Ca (Jn rfl rfl) (Ca (Hb rfl) (Ya ?_)))))))
 refine Ic ⟨_, ?_, j + 1, rfl, by_Om, Gt, hF.drop 1⟩
 omega
 refine Nc (Lc rfl ?_)
 refine Ha (Ka (Ca (Hb rfl) ?_))
 have eT : xs.take j = xs := List.take_of_length_le by_Om
 refine Ja (v := .int .i64 ((Gd (.node k t ks xs) : Nat))) (Ct rfl rfl (by rw [eT, Gd]; exact Bi by_Om by_Om by_Om)) ?_
 refine Ca (Gc rfl) (Ea ?_)
 refine Xd (v := .int .i64 ((Gd (.node k t ks xs) : Nat))) rfl rfl ?_
 exact ⟨rfl, hF.same⟩
theorem AO (x : Tree) : BB x := Tree.ind QB x
end Go.Scarf
namespace Go.Scarf
open Go.RowKit Go.Proofs Go.Proofs.Tryz
theorem Same.cell {w w' : World} {a : Addr} {v : Value} (h : Same [] w w') (hc : w.cell? a = some v) : w'.cell? a = some v := ((FR.start w []).ext h).cell0 hc
mutual
def Vc (q : Tree → Bool) : Tree → Bool | .node k t ks xs => q (.node k t ks xs) && Zm q xs
def Zm (q : Tree → Bool) : List Tree → Bool | [] => true | x :: xs => Vc q x && Zm q xs
end
theorem Po (q : Tree → Bool) : ∀ xs : List Tree, Zm q xs = !(xs.any fun x => !Vc q x)
  | [] => rfl
  | x :: xs => by rw [Zm, Po q xs]; simp
def EachC (w0 : World) (bb : Nat) (xs : List Tree) (q : Tree → Bool) : Prop := ∀ x, x ∈ xs → ∀ S w cs, Same [] w0 w → Rep S w (Sc x) cs → Calls prog 70 #[.agg cs.toArray, .pointer (some ⟨bb, 0, none⟩)] w (Rd fun v w' => v = .bool (q x) ∧ Same [] w w')
theorem EachC.ext {w0 w : World} {bb : Nat} {xs : List Tree} {q : Tree → Bool} (h : EachC w0 bb xs q) (hs : Same [] w0 w) : EachC w bb xs q := fun x hx S w' cs hw => h x hx S w' cs (hs.trans hw)
theorem XE {q : Tree → Bool} {xs : List Tree} {j : Nat} (h : j < xs.length) (hn : (xs.take j).any q = false) (hq : q xs[j] = false) : (xs.take (j + 1)).any q = false := by
  rw [List.take_succ_eq_append_getElem h, List.any_append, hn]; simp [hq]
def Fs (g : Nat) (q : Tree → Bool) (x : Tree) : Prop := ∀ S w0 cs, Rep S w0 (Sc x) cs → Ox x → Gl w0 → Calls prog 49 #[.agg cs.toArray, .func (.func g) #[] #[]] w0 (Rd fun v w' => v = .bool (Vc q x) ∧ Same [] w0 w')
theorem V7 (xs : List Tree) (q : Tree → Bool) (bb : Nat) (B : Option Addr) (e : Nat) (S : Nat → Prop) (w0 : World) (hX : Rep S w0 (.slice (Dd xs)) [.slice B xs.length e]) (hq : EachC w0 bb xs q) : Calls prog 96 #[.slice B xs.length e, .func (.func 70) #[] #[.pointer (some ⟨bb, 0, none⟩)]] w0 (Rd fun v w' => ∃ n : Int, v = .int .i64 n ∧ decide (0 ≤ n) = xs.any q ∧ Same [] w0 w') := by
 have hXl := hX.slice_len
 refine Ma func96 rfl ntmps96 Jb (Vd _ _) ?_
 have hF := FR.start w0 []
 refine Ka (Ca (Gc rfl) (Ea (Ia (Ka (Ca (Md rfl) (Ca (Qe underlying22 rfl) (Ca (Hb rfl) (Ea (Va ?_)))))))))
 refine Uc (fun μ σ w => ∃ (j : Nat), μ = xs.length - j ∧ (j ≤ xs.length) ∧ ((xs.take j).any q = false) ∧ AllEq σ [(0, .slice B xs.length e), (1, .func (.func 70) #[] #[.pointer (some (⟨bb, 0, none⟩))]), (7, .int .i64 ((xs.length : Nat))), (8, .int .i64 ((j : Int)))] ∧ FR w0 [] [] w) _ ⟨0, rfl, (Nat.zero_le _), Ga, Gt, hF⟩ ?_
 clear hF; rintro μ σ w ⟨j, rfl, hj, hn, hs, hF⟩
 refine Cg.slots hs ?_
 clear hs; intro σ
 refine Ka (Ca (Nk rfl rfl) (Ea (Ia ?_)))
 refine Pc rfl rfl (fun hc0 => ?_) (fun hc0 => ?_)
 refine Wa (Ha (Ia (Va (Ka (Ca (Hb rfl) (Ca (Gc rfl) (Cc (Ca (Z0) (Ca (Md rfl) ?_)))))))))
 refine Ca (Hb rfl) ?_
 obtain ⟨ad0, cs0, hA0, hl0, hk0, hx0⟩ := hX.tree_elem (i := j) by_Om
 have ho0 := hx0.one_
 refine Ja (v := .pointer (some (ad0.add (j * 4)))) (Oa (i := (j : Int)) Hi rfl hA0 rfl by_Om by_Om) (Ja (v := .agg (List.toArray cs0)) (Sb (l := cs0) isAgg27 sizeOf27 rfl hl0 (hF.cells0 hk0)) ?_)
 refine Pb hF (hq _ (List.getElem_mem (l := xs) (n := j) by_Om) _ _ _ hF.same (hF.rep hx0)) (Pz rfl NS rfl rfl) ?_
 clear hF; intro w hF
 refine Ea ?_
 refine Pj rfl rfl (fun hc1 => ?_) (fun hc1 => ?_)
 refine Ka (Ca (Hb rfl) (Ca (Gc rfl) (Ea ?_)))
 refine Xd (v := .int .i64 ((j : Int))) rfl rfl ?_
 exact ⟨_, rfl, by rw [List.any_eq_true.2 ⟨_, List.getElem_mem (l := xs) (n := j) by_Om, hc1⟩]; simp, hF.same⟩
 refine Wa (Mb (Ha (Da (Ca (Jn rfl rfl) (Ca (Hb rfl) (Ya ?_))))))
 refine Ic ⟨_, ?_, j + 1, rfl, by_Om, (XE by_Om hn hc1), Gt, hF⟩
 omega
 refine Nc (Lc rfl ?_)
 refine Ha (Ka (Ca (Gc rfl) (Ea ?_)))
 refine Xd (v := .int .i64 ((-1))) rfl rfl ?_
 have eT : xs.take j = xs := List.take_of_length_le by_Om
 rw [eT] at hn
 exact ⟨_, rfl, by rw [hn]; decide, hF.same⟩
theorem Vp (xs : List Tree) (q : Tree → Bool) (bb : Nat) (B : Option Addr) (e : Nat) (S : Nat → Prop) (w0 : World) (hX : Rep S w0 (.slice (Dd xs)) [.slice B xs.length e]) (hq : EachC w0 bb xs q) : Calls prog 69 #[.slice B xs.length e, .func (.func 70) #[] #[.pointer (some ⟨bb, 0, none⟩)]] w0 (Rd fun v w' => v = .bool (xs.any q) ∧ Same [] w0 w') := by
 refine Ma func69 rfl ntmps69 Jb (Vd _ _) ?_
 have hF := FR.start w0 []
 refine Ka (Ca (Ec rfl) (Cc (Ca (Md rfl) (Ca (Z0) ?_))))
 refine Db (V7 xs q bb B e S _ (hF.rep hX) (hq.ext hF.same)) (Qb VS rfl rfl rfl) ?_
 rintro _ w ⟨n, rfl, hn, hE⟩
 replace hF := hF.ext hE
 clear hE
 refine Ca (CD rfl rfl) (Ca (Ec rfl) (Ea ?_))
 refine Xd (v := .bool _) rfl rfl ?_
 exact ⟨congrArg Value.bool hn, hF.same⟩
theorem Y2 (g : Nat) (q : Tree → Bool) (x : Tree) (h : Fs g q x) (bb : Nat) (S : Nat → Prop) (w0 : World) (cs : List Value) (hR : Rep S w0 (Sc x) cs) (hk : Ox x) (hG : Gl w0) (hb : w0.cell? ⟨bb, 0, none⟩ = some (.func (.func g) #[] #[])) : Calls prog 70 #[.agg cs.toArray, .pointer (some ⟨bb, 0, none⟩)] w0 (Rd fun v w' => v = .bool (!Vc q x) ∧ Same [] w0 w') := by
 have hl : cs.length = 4 := hR.length.trans (Tc x)
 have ho := hR.one_
 refine Ma func70 rfl ntmps70 Jb (Vd _ _) ?_
 have hF := FR.start w0 []
 refine Ka ?_
 refine Jj (v := .agg (List.toArray cs)) (cs := (List.toArray cs)) hF rfl rfl ?_
 clear hF; rintro b1 w hb1 hF -
 refine Ca (Ec rfl) (Cc (Ja (v := .agg (List.toArray cs)) (Sb (l := cs) isAgg27 sizeOf27 rfl hl (hF.cellsAll 0 rfl)) (Ja (v := .func (.func g) #[] #[]) (Cb isAgg65 rfl (hF.cell0 hb)) ?_)))
 refine Pb hF (h S _ cs (hF.rep hR) hk (hG.ext hF.same)) (Qb RK rfl rfl rfl) ?_
 clear hF; intro w hF
 refine Ca (Oo rfl) (Ca (Ec rfl) (Ea ?_))
 refine Xd (v := .bool _) rfl rfl ?_
 exact ⟨rfl, hF.same⟩
theorem T6 (q : Tree → Bool) (hp : H3 60 q) (k : Int) (t : Str) (ks : List Str) (xs : List Tree) (ih : ∀ x, x ∈ xs → Fs 60 q x) : Fs 60 q (.node k t ks xs) := by
 intro S w0 cs hR hk hG
 have hk' := hk
 rw [Ox] at hk'
 obtain ⟨A, c, B, e, rfl, -, -, hK, hX⟩ := hR.tree_inv
 refine Ma func49 rfl ntmps49 Jb (Vd _ _) ?_
 have hF := FR.start w0 []
 refine Ka ?_
 refine Sj hF rfl ?_
 clear hF; rintro b1 w hb1 hF -
 refine TP (.func (.func 60) #[] #[]) hF rfl ?_
 clear hF; rintro b2 w hb2 hF -
 refine Ca (Ec rfl) (Cc (Qd (UU isAgg65 rfl hF.F 0 rfl rfl) (Qd (Bm isAgg27 sizeOf27 rfl hF.F 1 rfl rfl) ?_)))
 refine Pb hF (hp (.node k t ks xs) S _ _ (hF.rep hR) hk (hG.ext hF.same)) (Pz rfl EU rfl rfl) ?_
 clear hF; intro w hF
 refine Ca (Fd rfl) ?_
 refine We (d := 8) rfl (fun hg0 => ?_) (fun hg0 => ?_)
 refine Ca (Kc Ce rfl) (Qd (Vi isAgg22 rfl hF.F 1 rfl rfl) (Ja (v := .func (.func 70) #[] #[.pointer (some ⟨b2, 0, none⟩)]) (Zs rfl) ?_))
 refine Pb hF (Vp xs (fun x => !Vc q x) b2 B e S _ (hF.rep hX) (fun x hx S' w' cs' hs hr => Y2 60 q x (ih x hx) b2 S' w' cs' hr (Pq hk'.2.2 x hx) ((hG.ext hF.same).ext hs) (hs.cell (hF.cell 0 rfl rfl)))) (Qb NO rfl rfl rfl) ?_
 clear hF; intro w hF
 refine Ca (Oo rfl) (Ca (Oc rfl rfl) (Ca (Ec rfl) (Ea ?_)))
 refine Xd (v := .bool _) rfl rfl ?_
 refine ⟨?_, hF.same⟩
 rw [Vc, Po]
 simp_all
 refine Sa (Sa (Sa (Sa (Sa (Ca (Jd rfl rfl) (Ca (Ec rfl) (Ea ?_)))))))
 refine Xd (v := .bool false) rfl rfl ?_
 refine ⟨?_, hF.same⟩
 rw [Vc, Po]
 simp_all
theorem LE (q : Tree → Bool) (hp : H3 60 q) (x : Tree) : Fs 60 q x := Tree.ind (T6 q hp) x
theorem E6 (q : Tree → Bool) (hp : H3 50 q) (k : Int) (t : Str) (ks : List Str) (xs : List Tree) (ih : ∀ x, x ∈ xs → Fs 50 q x) : Fs 50 q (.node k t ks xs) := by
 intro S w0 cs hR hk hG
 have hk' := hk
 rw [Ox] at hk'
 obtain ⟨A, c, B, e, rfl, -, -, hK, hX⟩ := hR.tree_inv
 refine Ma func49 rfl ntmps49 Jb (Vd _ _) ?_
 have hF := FR.start w0 []
 refine Ka ?_
 refine Sj hF rfl ?_
 clear hF; rintro b1 w hb1 hF -
 refine TP (.func (.func 50) #[] #[]) hF rfl ?_
 clear hF; rintro b2 w hb2 hF -
 refine Ca (Ec rfl) (Cc (Qd (UU isAgg65 rfl hF.F 0 rfl rfl) (Qd (Bm isAgg27 sizeOf27 rfl hF.F 1 rfl rfl) ?_)))
 refine Pb hF (hp (.node k t ks xs) S _ _ (hF.rep hR) hk (hG.ext hF.same)) (Pz rfl RO rfl rfl) ?_
 clear hF; intro w hF
 refine Ca (Fd rfl) ?_
 refine We (d := 8) rfl (fun hg0 => ?_) (fun hg0 => ?_)
 refine Ca (Kc Ce rfl) (Qd (Vi isAgg22 rfl hF.F 1 rfl rfl) (Ja (v := .func (.func 70) #[] #[.pointer (some ⟨b2, 0, none⟩)]) (Zs rfl) ?_))
 refine Pb hF (Vp xs (fun x => !Vc q x) b2 B e S _ (hF.rep hX) (fun x hx S' w' cs' hs hr => Y2 50 q x (ih x hx) b2 S' w' cs' hr (Pq hk'.2.2 x hx) ((hG.ext hF.same).ext hs) (hs.cell (hF.cell 0 rfl rfl)))) (Qb NO rfl rfl rfl) ?_
 clear hF; intro w hF
 refine Ca (Oo rfl) (Ca (Oc rfl rfl) (Ca (Ec rfl) (Ea ?_)))
 refine Xd (v := .bool _) rfl rfl ?_
 refine ⟨?_, hF.same⟩
 rw [Vc, Po]
 simp_all
 refine Sa (Sa (Sa (Sa (Sa (Ca (Jd rfl rfl) (Ca (Ec rfl) (Ea ?_)))))))
 refine Xd (v := .bool false) rfl rfl ?_
 refine ⟨?_, hF.same⟩
 rw [Vc, Po]
 simp_all
theorem UE (q : Tree → Bool) (hp : H3 50 q) (x : Tree) : Fs 50 q x := Tree.ind (E6 q hp) x
end Go.Scarf
namespace Go.Scarf
open Go.RowKit Go.Proofs Go.Proofs.Tryz
def rnodeB (x : Tree) : Bool := decide (x.kind ≠ 7) && nodeB x
def Hn (x : Tree) : Bool := decide (Ac x ≤ 4096) && decide (Gd x ≤ 32)
def Th (x : Tree) : Bool := Hn x && Vc nodeB x
def Zb (x : Tree) : Bool := Hn x && Vc rnodeB x
theorem WK {n : Nat} (h : n ≤ 1000000000) : wr (n : Int) = (n : Int) := Un by_Om by_Om
theorem ZL  : H3 60 rnodeB := by
 rintro ⟨k, t, ks, xs⟩ S w0 cs hR hk hG
 obtain ⟨A, c, B, e, rfl, -, -, hK, hX⟩ := hR.tree_inv
 refine Ma func60 rfl ntmps60 Jb (Ed _) ?_
 have hF := FR.start w0 []
 refine Ka ?_
 refine Sj hF rfl ?_
 clear hF; rintro b1 w hb1 hF -
 refine Ca (Ec rfl) (Cc (Ca (Kc Hl rfl) (Qd (Zr isAgg3 rfl hF.F 0 rfl rfl) (Ca (Ux rfl rfl) (Ca (Fd rfl) ?_)))))
 refine Cd (d := 6) rfl (fun hg0 => ?_) (fun hg0 => ?_)
 refine Qd (Bm isAgg27 sizeOf27 rfl hF.F 0 rfl rfl) ?_
 refine Pb hF (VJ (.node k t ks xs) S _ _ (hF.rep hR) hk (hG.ext hF.same)) (Eb RO rfl rfl) ?_
 clear hF; intro w hF
 refine Ca (Oc rfl rfl) (Ca (Ec rfl) (Ea ?_))
 refine Xd (v := .bool _) rfl rfl ?_
 refine ⟨?_, hF.same⟩
 simp_all [rnodeB, Tree.kind]
 refine Sa (Sa (Ca (Jd rfl rfl) (Ca (Ec rfl) (Ea ?_))))
 refine Xd (v := .bool false) rfl rfl ?_
 refine ⟨?_, hF.same⟩
 simp_all [rnodeB, Tree.kind]
theorem NP (x : Tree) (hsz : Ac x ≤ 1000000000) (S : Nat → Prop) (w0 : World) (cs : List Value) (hR : Rep S w0 (Sc x) cs) : Calls prog 67 #[.agg cs.toArray] w0 (Rd fun v w' => v = .int .i64 (Ac x : Nat) ∧ Same [] w0 w') := by
  have h := IQ x S w0 cs hR
  rwa [WK hsz] at h
theorem ID (x : Tree) (hsz : Ac x ≤ 1000000000) (S : Nat → Prop) (w0 : World) (cs : List Value) (hR : Rep S w0 (Sc x) cs) : Calls prog 48 #[.agg cs.toArray] w0 (Rd fun v w' => v = .bool (Hn x) ∧ Same [] w0 w') := by
 have hl : cs.length = 4 := hR.length.trans (Tc x)
 have ho := hR.one_
 refine Ma func48 rfl ntmps48 Jb (Ed _) ?_
 have hF := FR.start w0 []
 refine Ka ?_
 refine Jj (v := .agg (List.toArray cs)) (cs := (List.toArray cs)) hF rfl rfl ?_
 clear hF; rintro b1 w hb1 hF -
 refine Ca (Ec rfl) (Cc (Ja (v := .agg (List.toArray cs)) (Sb (l := cs) isAgg27 sizeOf27 rfl hl (hF.cellsAll 0 rfl)) ?_))
 refine Pb hF (NP x hsz S _ cs (hF.rep hR)) (Eb GO rfl rfl) ?_
 clear hF; intro w hF
 refine Ca (II rfl rfl) (Ca (Fd rfl) ?_)
 refine Cd (d := 6) rfl (fun hg0 => ?_) (fun hg0 => ?_)
 refine Ja (v := .agg (List.toArray cs)) (Sb (l := cs) isAgg27 sizeOf27 rfl hl (hF.cellsAll 0 rfl)) ?_
 refine Pb hF (AO x hsz S _ cs (hF.rep hR)) (Eb YO rfl rfl) ?_
 clear hF; intro w hF
 refine Ca (II rfl rfl) (Ca (Oc rfl rfl) (Ca (Ec rfl) (Ea ?_)))
 refine Xd (v := .bool _) rfl rfl ?_
 refine ⟨congrArg Value.bool ?_, hF.same⟩
 unfold Hn
 first | (rw [decide_eq_true (by omega : Ac x ≤ 4096)]; exact decide_eq_decide.2 by_Om) | (rw [decide_eq_false (by omega : ¬ Ac x ≤ 4096)]; rfl)
 refine Sa (Sa (Sa (Ca (Jd rfl rfl) (Ca (Ec rfl) (Ea ?_)))))
 refine Xd (v := .bool false) rfl rfl ?_
 refine ⟨congrArg Value.bool ?_, hF.same⟩
 unfold Hn
 first | (rw [decide_eq_true (by omega : Ac x ≤ 4096)]; exact decide_eq_decide.2 by_Om) | (rw [decide_eq_false (by omega : ¬ Ac x ≤ 4096)]; rfl)
theorem Px (x : Tree) (hsz : Ac x ≤ 1000000000) (S : Nat → Prop) (w0 : World) (cs : List Value) (hR : Rep S w0 (Sc x) cs) (hk : Ox x) (hG : Gl w0) : Calls prog 41 #[.agg cs.toArray] w0 (Rd fun v w' => v = .bool (Zb x) ∧ Same [] w0 w') := by
 have hl : cs.length = 4 := hR.length.trans (Tc x)
 have ho := hR.one_
 refine Ma func41 rfl ntmps41 Jb (Ed _) ?_
 have hF := FR.start w0 []
 refine Ka ?_
 refine Jj (v := .agg (List.toArray cs)) (cs := (List.toArray cs)) hF rfl rfl ?_
 clear hF; rintro b1 w hb1 hF -
 refine Ca (Ec rfl) (Cc (Ja (v := .agg (List.toArray cs)) (Sb (l := cs) isAgg27 sizeOf27 rfl hl (hF.cellsAll 0 rfl)) ?_))
 refine Pb hF (ID x hsz S _ cs (hF.rep hR)) (Eb JO rfl rfl) ?_
 clear hF; intro w hF
 refine Ca (Fd rfl) ?_
 refine We (d := 5) rfl (fun hg0 => ?_) (fun hg0 => ?_)
 refine Ja (v := .agg (List.toArray cs)) (Sb (l := cs) isAgg27 sizeOf27 rfl hl (hF.cellsAll 0 rfl)) ?_
 refine Pb hF (LE rnodeB ZL x S _ cs (hF.rep hR) hk (hG.ext hF.same)) (Qb RK rfl rfl rfl) ?_
 clear hF; intro w hF
 refine Ca (Oc rfl rfl) (Ca (Ec rfl) (Ea ?_))
 refine Xd (v := .bool _) rfl rfl ?_
 exact ⟨congrArg Value.bool (by unfold Zb; simp_all), hF.same⟩
 refine Sa (Sa (Ca (Jd rfl rfl) (Ca (Ec rfl) (Ea ?_))))
 refine Xd (v := .bool false) rfl rfl ?_
 exact ⟨congrArg Value.bool (by unfold Zb; simp_all), hF.same⟩
theorem PA (x : Tree) (hsz : Ac x ≤ 1000000000) (S : Nat → Prop) (w0 : World) (cs : List Value) (hR : Rep S w0 (Sc x) cs) (hk : Ox x) (hG : Gl w0) : Calls prog 33 #[.agg cs.toArray] w0 (Rd fun v w' => v = .bool (Th x) ∧ Same [] w0 w') := by
 have hl : cs.length = 4 := hR.length.trans (Tc x)
 have ho := hR.one_
 refine Ma func33 rfl ntmps33 Jb (Ed _) ?_
 have hF := FR.start w0 []
 refine Ka ?_
 refine Jj (v := .agg (List.toArray cs)) (cs := (List.toArray cs)) hF rfl rfl ?_
 clear hF; rintro b1 w hb1 hF -
 refine Ca (Ec rfl) (Cc (Ja (v := .agg (List.toArray cs)) (Sb (l := cs) isAgg27 sizeOf27 rfl hl (hF.cellsAll 0 rfl)) ?_))
 refine Pb hF (ID x hsz S _ cs (hF.rep hR)) (Eb JO rfl rfl) ?_
 clear hF; intro w hF
 refine Ca (Fd rfl) ?_
 refine We (d := 5) rfl (fun hg0 => ?_) (fun hg0 => ?_)
 refine Ja (v := .agg (List.toArray cs)) (Sb (l := cs) isAgg27 sizeOf27 rfl hl (hF.cellsAll 0 rfl)) ?_
 refine Pb hF (UE nodeB VJ x S _ cs (hF.rep hR) hk (hG.ext hF.same)) (Qb RK rfl rfl rfl) ?_
 clear hF; intro w hF
 refine Ca (Oc rfl rfl) (Ca (Ec rfl) (Ea ?_))
 refine Xd (v := .bool _) rfl rfl ?_
 exact ⟨congrArg Value.bool (by unfold Th; simp_all), hF.same⟩
 refine Sa (Sa (Ca (Jd rfl rfl) (Ca (Ec rfl) (Ea ?_))))
 refine Xd (v := .bool false) rfl rfl ?_
 exact ⟨congrArg Value.bool (by unfold Th; simp_all), hF.same⟩
end Go.Scarf
