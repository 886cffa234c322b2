/- A part of the proof. -/
import Derived.Test.YtehigfneiofjnaaGreatDoorW2
import Derived.Test.YtehigfneiofjnaaGreatDoorShelf2
import Derived.Test.YtehigfneiofjnaaGreatDoorMem
import Derived.Lib.ValidLaws
import Derived.Lib.TrimUEq
import Derived.Lib.MapLaws
import Derived.Test.YtehigfneiofjnaaGreatDoorMore
set_option linter.all false
set_option maxHeartbeats 8000000
set_option maxRecDepth 10000
namespace Go.Scarf
open Go.RowKit Go.Proofs Go.Proofs.Tryz
def Ki (s : Str) : Bool := decide ((He s).2 = 0) && decide (Uk (He s).1 = s)
def Lq (s : Str) : Bool := Ki s && (Gu (He s).1).2 && decide (0 ≤ (Gu (He s).1).1)
theorem K4 (s : Str) : Sd (He s).1 = true := by
  rw [Ng]
  repeat' split
  all_goals first | rfl | simp_all
theorem En (s : Str) : (He s).1.digits.length ≤ 1000 := (Id (K4 s)).1
theorem Gk (s : Str) (q : Nat) : Lib.decodeL (s.drop q) = Utf8.decode (bs s) q := Lib.decodeL_drop (bs s) q
theorem Tf (s : Str) (q : Nat) : 1 ≤ (Utf8.decode (bs s) q).2 := by rw [← Gk]; exact Lib.decodeL_width _
theorem Pn (s : Str) (q : Nat) (h : q < s.length) : q + (Utf8.decode (bs s) q).2 ≤ s.length := by
  have := Lib.decodeL_le (s.drop q) (by rw [ne_eq, List.drop_eq_nil_iff]; omega)
  rw [Gk, List.length_drop] at this
  omega
theorem G0 (s : Str) (q : Nat) (h : q < s.length) (hv : Lib.validD (s.drop q) = false) (hn : ¬ ((Utf8.decode (bs s) q).1 = 65533 ∧ (Utf8.decode (bs s) q).2 = 1)) : Lib.validD (s.drop (q + (Utf8.decode (bs s) q).2)) = false := by
  rw [Lib.validD_step _ (by rw [ne_eq, List.drop_eq_nil_iff]; omega), Gk, if_neg hn, List.drop_drop] at hv
  exact hv
theorem Ms (s : Str) (q : Nat) (h : q < s.length) : Lib.decodeGo (bs (s.drop q)) = Utf8.decode (bs s) q := by
  have h1 : (bs (s.drop q)).size ≠ 0 := by rw [Pm, List.length_drop]; omega
  rw [Lib.decodeGo, if_neg h1]; exact Gk s q
theorem T0 (s : Str) (hl : s.length ≤ 140737488355328) {w : World} (hG : Gl w) : Calls prog 99 #[.string (bs s)] w (Ce fun v w' => v = .bool (Lib.validD s) ∧ Same [] w w') :=
  Zr (utf8_ValidString (bs s) w (by rw [Pm]; omega) hG.tabs)
theorem P3 (s : Str) {w : World} (hG : Gl w) : Calls prog 100 #[.string (bs s)] w (Ce fun v w' => v = .tuple #[.int .i32 (Lib.decodeGo (bs s)).1, .int .i64 (Lib.decodeGo (bs s)).2] ∧ Same [] w w') :=
  Zr (utf8_DecodeRuneInString (bs s) w hG.tabs)
theorem OB (s : Str) (hl : s.length ≤ 140737488355328) (w0 : World) (hG : Gl w0) : Calls prog 76 #[.string (bs s)] w0 (Ce fun v w' => ∃ n, v = .tuple #[.int .i64 n, .bool (Lib.validD s)] ∧ Same [] w0 w') := by
  refine Ma func76 rfl ntmps76 Qb (Rc _) ?_
  have hF := FR.start w0 []
  refine Ia ?_
  refine Ga ?_
  refine Ca (Kb rfl) ?_
  refine Ca (Cc rfl) ?_
  refine Cb ?_
  refine Ja ?_
  refine Ia ?_
  refine Ia ?_
  refine Ga ?_
  refine Ca (Pc rfl) ?_
  refine Va hF (T0 s hl (hG.ext hF.same)) (Ua UR rfl rfl) ?_
  clear hF; intro w hF
  refine Cb ?_
  refine Ja ?_
  refine Vh rfl rfl (fun hc0 => ?_) (fun hc0 => ?_)
  ·
    refine Ia ?_
    refine Ga ?_
    refine Ca (Pc rfl) ?_
    refine Ca (Hk underlying9 rfl) ?_
    refine Ca (Kb rfl) ?_
    refine Ca (Cc rfl) ?_
    refine Cb ?_
    refine Ja ?_
    refine Pb (Ob (Qa (Nd (v := .int .i64 ((((s) : Str).length : Int))) (x := .bool true) rfl rfl rfl) ?_))
    exact ⟨_, by rw [hc0], hF.same⟩
  ·
    refine Ra ?_
    refine Ja ?_
    refine Ia ?_
    refine Ia ?_
    refine Ga ?_
    refine Ca (Pc rfl) ?_
    refine Nu (str := s) hF underlying9 rfl ?_
    clear hF; intro b1 w hb1 hF hE
    clear hE
    refine Cb ?_
    refine Ja ?_
    refine Db ?_
    refine Xc (fun μ σ w => ∃ (q : Nat), μ = s.length - q ∧ (q ≤ s.length) ∧ (Lib.validD (s.drop q) = false) ∧ AllEq σ [(0, .string (bs s)), (13, .pointer (some ⟨b1, 0, none⟩))] ∧ FR w0 [] [(b1, .stringIter (bs s) (q))] w) _ ⟨0, rfl, (Nat.zero_le _), (by simpa using hc0), Nv, hF⟩ ?_
    clear hF; rintro μ σ w ⟨q, rfl, hq, hv, hs, hF⟩
    refine Cg.slots hs ?_
    clear hs; intro σ
    refine Ia ?_
    refine Ga ?_
    by_cases hn0 : (q) < (s : Str).length
    ·
      refine Ay 0 (p := q) (str := s) hF rfl rfl hn0 ?_
      clear hF; intro w hF hE
      clear hE
      replace hF : FR w0 [] [(b1, .stringIter (bs s) (q + (Utf8.decode (bs s) (q)).2))] w := hF
      refine Ca (Xs rfl rfl) ?_
      refine Cb ?_
      refine Ja ?_
      refine Ia ?_
      refine Qd rfl ?_
      refine Ra ?_
      refine Ja ?_
      refine Db ?_
      refine Ia ?_
      refine Ga ?_
      refine Ca (Re rfl rfl) ?_
      refine Ca (Re rfl rfl) ?_
      refine Ca (Kb rfl) ?_
      refine Ca (Kb rfl) ?_
      refine Cb ?_
      refine Ja ?_
      refine Ia ?_
      refine Ia ?_
      refine Ga ?_
      refine Ca (Za rfl) ?_
      refine Ca (Vs rfl rfl) ?_
      refine Cb ?_
      refine Ja ?_
      refine Bc rfl rfl (fun hc2 => ?_) (fun hc2 => ?_)
      ·
        refine Oc (Nc rfl ?_)
        have h1 := Tf s q
        have hw : ¬ ((Utf8.decode (bs s) q).1 = 65533 ∧ (Utf8.decode (bs s) q).2 = 1) := by
          first
          | (intro hh; omega)
          | (rw [Ms s q by_Om] at hc3; intro hh; omega)
        refine Gb ⟨_, ?_, q + (Utf8.decode (bs s) q).2, rfl, (Pn s q by_Om), (G0 s q by_Om hv hw), Nv, hF⟩
        omega
      ·
        refine Ra ?_
        refine Ja ?_
        refine Ia ?_
        refine Ga ?_
        refine Ca (Pc rfl) ?_
        refine Ca (Za rfl) ?_
        refine Fa (v := .string (bs ((s : Str).drop (q)))) (Gh (q) underlying9 rfl rfl by_Om) ?_
        refine Va hF (P3 (s.drop q) (hG.ext hF.same)) (Ua HP rfl rfl) ?_
        clear hF; intro w hF
        refine Ca (Qg rfl) ?_
        refine Ca (Re rfl rfl) ?_
        refine Ca (Re rfl rfl) ?_
        refine Ca (Kb rfl) ?_
        refine Ca (Kb rfl) ?_
        refine Cb ?_
        refine Ja ?_
        refine Ia ?_
        refine Ga ?_
        refine Ca (Za rfl) ?_
        refine Ca (Li rfl rfl) ?_
        refine Cb ?_
        refine Ja ?_
        refine Bc rfl rfl (fun hc3 => ?_) (fun hc3 => ?_)
        ·
          refine Ia ?_
          refine Ga ?_
          refine Ca (Za rfl) ?_
          refine Ca (Kb rfl) ?_
          refine Ca (Cc rfl) ?_
          refine Cb ?_
          refine Ja ?_
          refine Pb (Ob (Qa (Nd (v := .int .i64 (((q : Nat) : Int))) (x := .bool false) rfl rfl rfl) ?_))
          exact ⟨_, by rw [hc0], hF.same⟩
        ·
          refine Ra ?_
          refine Wb ?_
          have h1 := Tf s q
          have hw : ¬ ((Utf8.decode (bs s) q).1 = 65533 ∧ (Utf8.decode (bs s) q).2 = 1) := by
            first
            | (intro hh; omega)
            | (rw [Ms s q by_Om] at hc3; intro hh; omega)
          refine Gb ⟨_, ?_, q + (Utf8.decode (bs s) q).2, rfl, (Pn s q by_Om), (G0 s q by_Om hv hw), Nv, hF⟩
          omega
    ·
      refine Aq 0 (p := q) (str := s) hF rfl rfl hn0 ?_
      refine Ca (Xs rfl rfl) ?_
      refine Cb ?_
      refine Ja ?_
      refine Ia ?_
      refine Xe rfl ?_
      refine Oc (Nc rfl ?_)
      refine Ja ?_
      refine Ia ?_
      refine Ga ?_
      refine Ca (Pc rfl) ?_
      refine Ca (Hk underlying9 rfl) ?_
      refine Ca (Kb rfl) ?_
      refine Ca (Cc rfl) ?_
      refine Cb ?_
      refine Ja ?_
      refine Pb (Ob (Qa (Nd (v := .int .i64 ((((s) : Str).length : Int))) (x := .bool true) rfl rfl rfl) ?_))
      have e : s.drop q = [] := List.drop_eq_nil_of_le by_Om
      rw [e] at hv; cases hv
theorem DB (s : Str) (hl : s.length ≤ 140737488355328) (w0 : World) (hG : Gl w0) : Calls prog 53 #[.string (bs s)] w0 (Ce fun v w' => v = .bool (Lib.validD s) ∧ Same [] w0 w') := by
 refine Ma func53 rfl ntmps53 Qb (Rc _) ?_
 have hF := FR.start w0 []
 refine Ha (Ca (Cc rfl) (Yb (Ca (Pc rfl) ?_)))
 refine Zb (OB s hl _ (hG.ext hF.same)) (Ua DN rfl rfl) ?_
 rintro _ w ⟨n, rfl, hE⟩
 replace hF := hF.ext hE
 clear hE
 refine Ca (Qg rfl) (Ca (Re rfl rfl) (Ca (Xs rfl rfl) (Ca (Kb rfl) (Ca (Cc rfl) (Yb (Ca (Jc rfl) (Ca (Cc rfl) (Da ?_))))))))
 refine Ud (v := .bool _) rfl rfl ?_
 exact ⟨rfl, hF.same⟩
theorem L2 (s : Str) (hl : s.length ≤ 140737488355328) (w0 : World) (hG : Gl w0) : Calls prog 52 #[.string (bs s)] w0 (Ce fun v w' => v = .tuple #[Ml (He s).1, .bool (Ki s)] ∧ Same [] w0 w') := by
 refine Ma func52 rfl ntmps52 Qb (Rc _) ?_
 have hF := FR.start w0 []
 refine Ha ?_
 refine Af (cs := #[.bool false, .string (bs []), .int .i64 0]) hF zeroValue49 rfl ?_
 clear hF; rintro b1 w hb1 hF -
 refine Ca (Cc rfl) (Yb (Ca (Pc rfl) ?_))
 refine Va hF (VB s hl _) (Ua ON rfl rfl) ?_
 clear hF; intro w hF
 refine Ca (Qg rfl) (Ca (Yw rfl rfl) (Ca (Re rfl rfl) ?_))
 refine Hh hF zeroValue49 sizeOf49 rfl ?_
 clear hF; rintro b2 w hb2 hF -
 refine Ca (Kb rfl) (Da (Ia ?_))
 refine De [] (.free 0 (.free 1 (.free 2 (.free 3 (.free 4 (.free 6 (.act 5 (.free 7 (.free 8 (.act 9 (.free 10 .nil))))))))))) hF ?_
 clear hF; rintro w hF -
 refine ⟨fun wq => FR w0 [] [(b2, .cells #[.bool ((He s).1.neg), .string (bs ((He s).1.digits)), .int .i64 ((He s).1.exp)] 49)] wq, hF.sub (.cons_cons _ (.cons _ .slnil)), ?_⟩
 refine Bk rfl (Bi isAgg49 sizeOf49 rfl C0 0 rfl rfl) (Eb rfl (Za rfl) (Eb rfl (Li rfl rfl) (Eb rfl (Jc rfl) ?_)))
 refine Jk (d := 14) rfl (fun hg0 => ?_) (fun hg0 => ?_)
 refine Bk rfl (Bi isAgg49 sizeOf49 rfl C0 0 rfl rfl) (Eb rfl (Pc rfl) ?_)
 refine Wa hF (NJ (He s).1 (by have := En s; omega) _ (hG.ext hF.same)) rfl (Ua BN rfl rfl) ?_
 clear hF; intro w hF
 refine ⟨hF.sub (.cons_cons _ (.cons _ .slnil)), ?_⟩
 refine Eb rfl (Mv rfl rfl) (Eb rfl (Lc rfl rfl) ?_)
 refine Hs rfl hF sizeOf49 rfl rfl Y1 ?_
 clear hF; rintro w hF -
 refine ⟨hF.sub (.cons_cons _ (.cons _ .slnil)), ?_⟩
 refine Eb rfl (Cc rfl) (Ic (Ja ?_))
 refine Pb (Ob (Qa (Ie rfl (l := [.bool ((He s).1.neg), .string (bs ((He s).1.digits)), .int .i64 ((He s).1.exp)]) rfl isAgg49 sizeOf49 rfl (hF.cellsAll 1 rfl) (v := .bool (decide ((Uk (He s).1 : Str) = s))) rfl) ?_))
 exact ⟨by simp_all [Ki, Ml], hF.same⟩
 refine Kg rfl ?_
 refine Kg rfl ?_
 refine AG rfl ?_ (hF.sub (.cons_cons _ (.cons _ .slnil)))
 refine Kg rfl ?_
 refine Eb rfl (Dc rfl rfl) ?_
 refine Hs rfl hF sizeOf49 rfl rfl Y1 ?_
 clear hF; rintro w hF -
 refine ⟨hF.sub (.cons_cons _ (.cons _ .slnil)), ?_⟩
 refine Eb rfl (Cc rfl) (Ic (Ja ?_))
 refine Pb (Ob (Qa (Ie rfl (l := [.bool ((He s).1.neg), .string (bs ((He s).1.digits)), .int .i64 ((He s).1.exp)]) rfl isAgg49 sizeOf49 rfl (hF.cellsAll 1 rfl) (v := .bool false) rfl) ?_))
 exact ⟨by simp_all [Ki, Ml], hF.same⟩
theorem JQ (s : Str) (hl : s.length ≤ 140737488355328) (w0 : World) (hG : Gl w0) : Calls prog 54 #[.string (bs s)] w0 (Ce fun v w' => v = .bool (Lq s) ∧ Same [] w0 w') := by
 refine Ma func54 rfl ntmps54 Qb (Rc _) ?_
 have hF := FR.start w0 []
 refine Ha (Ca (Cc rfl) (Yb (Ca (Pc rfl) ?_)))
 refine Va hF (L2 s hl _ (hG.ext hF.same)) (Ua WM rfl rfl) ?_
 clear hF; intro w hF
 refine Ca (Qg rfl) (Ca (Yw rfl rfl) (Ca (Xs rfl rfl) ?_))
 refine Hh hF zeroValue49 sizeOf49 rfl ?_
 clear hF; rintro b1 w hb1 hF -
 refine Ca (Cc rfl) (Yb (Uc (Bi isAgg49 sizeOf49 rfl hF.F 0 rfl rfl) ?_))
 refine Va hF (WF (He s).1 (by have := En s; omega) _ (hG.ext hF.same)) (Ua XR rfl rfl) ?_
 clear hF; intro w hF
 refine Ca (Qg rfl) (Ca (Re rfl rfl) (Ca (Xs rfl rfl) (Ca (Kb rfl) (Ca (Cc rfl) (Yb (Ca (Jc rfl) (Ca (Jc rfl) ?_)))))))
 refine Qe (d := 18) rfl (fun hg0 => ?_) (fun hg0 => ?_)
 refine Ca (Jc rfl) (Ca (Lc rfl rfl) (Ca (Jc rfl) ?_))
 refine Qe (d := 21) rfl (fun hg1 => ?_) (fun hg1 => ?_)
 refine Ca (Za rfl) (Ca (Zv rfl rfl) (Ca (Lc rfl rfl) (Ca (Cc rfl) (Da ?_))))
 refine Ud (v := .bool _) rfl rfl ?_
 exact ⟨by simp_all [Lq], hF.same⟩
 refine Ea (Ea (Ca (Dc rfl rfl) (Ca (Cc rfl) (Da ?_))))
 refine Ud (v := .bool false) rfl rfl ?_
 exact ⟨by simp_all [Lq], hF.same⟩
 refine Ea (Ca (Dc rfl rfl) (Ca (Jc rfl) (Ea (Ea (Ca (Dc rfl rfl) (Ca (Cc rfl) (Da ?_)))))))
 refine Ud (v := .bool false) rfl rfl ?_
 exact ⟨by simp_all [Lq], hF.same⟩
end Go.Scarf
namespace Go.Scarf
open Go.RowKit Go.Proofs Go.Proofs.Tryz
def Bl (ks : List Str) (n : Int) : Bool := decide ks.Nodup && ks.all Lib.validD && decide ((ks.length : Int) = n)
def Ju (ks : List Str) : MapL := ks.map fun k => (k, .bool true)
theorem Sz (ks : List Str) (k : Str) : Jj (Ju ks) k = if k ∈ ks then some (.bool true) else none := by
  induction ks with
  | nil => rfl
  | cons a r ih =>
    have e : Ju (a :: r) = [(a, .bool true)] ++ Ju r := rfl
    rw [e, E4, ih]
    by_cases h : a = k
    · subst h; simp [Jj]
    · have h' : ¬ k = a := fun e => h e.symm
      simp [Jj, h, h']
theorem Y_ (ks : List Str) (j : Nat) (h : j < ks.length) : Ju (ks.take j) ++ [(ks[j], .bool true)] = Ju (ks.take (j + 1)) := by
  unfold Ju; rw [List.take_succ_eq_append_getElem h, List.map_append]; rfl
theorem Iq {ks : List Str} {j : Nat} (h : j < ks.length) (hn : (ks.take j).Nodup) (hi : ¬ ks[j] ∈ ks.take j) : (ks.take (j + 1)).Nodup := by
  rw [List.take_succ_eq_append_getElem h, List.nodup_append]
  refine ⟨hn, by simp, ?_⟩
  intro a ha b hb e
  simp only [List.mem_singleton] at hb
  subst e; subst hb; exact hi ha
theorem Wp {ks : List Str} {j : Nat} (h : j < ks.length) (hi : ks[j] ∈ ks.take j) : ¬ ks.Nodup := by
  intro hn
  obtain ⟨i, hi', he⟩ := List.getElem_of_mem hi
  rw [List.getElem_take] at he
  have hi2 : i < j := by rw [List.length_take] at hi'; omega
  have := (List.pairwise_iff_getElem.1 hn) i j by_Om h hi2
  exact this he
theorem Ps {f : Str → Bool} {ks : List Str} {j : Nat} (h : j < ks.length) (ha : (ks.take j).all f = true) (hv : f ks[j] = true) : (ks.take (j + 1)).all f = true := by
  rw [List.take_succ_eq_append_getElem h, List.all_append, ha]; simp [hv]
theorem CC {f : Str → Bool} {ks : List Str} {j : Nat} (h : j < ks.length) (hv : f ks[j] = false) : ks.all f = false := by
  rw [Bool.eq_false_iff]; intro ha
  have := List.all_eq_true.1 ha ks[j] (List.getElem_mem h)
  rw [hv] at this; cases this
theorem OL (ks : List Str) (n : Int) (S : Nat → Prop) (A : Option Addr) (c : Nat) (hl : ∀ k ∈ ks, k.length ≤ 140737488355328) (w0 : World) (hG : Gl w0) (hX : Rep S w0 (We ks) [.slice A ks.length c]) : Calls prog 51 #[.slice A ks.length c, .int .i64 n] w0 (Ce fun v w' => v = .bool (Bl ks n) ∧ Same [] w0 w') := by
 have hXl := hX.slice_len
 refine Ma func51 rfl ntmps51 Qb (Wd _ _) ?_
 have hF := FR.start w0 []
 refine Ha (Ca (Cc rfl) (Yb (Ca (No rfl) (Ca (Ji underlying22 rfl) ?_))))
 refine Ty (v := fun b => .map (some b)) hF (C2 underlying104 rfl) ?_
 clear hF; rintro b1 w hb1 hF -
 refine Ca (V2) (Da (Ia (Ha (Ca (No rfl) (Ca (Ji underlying22 rfl) (Ca (Za rfl) (Da (Db ?_))))))))
 replace hF : FR w0 [] [(b1, Ql (Ju (ks.take 0)))] w := hF
 refine Xc (fun μ σ w => ∃ (j : Nat), μ = ks.length - j ∧ (j ≤ ks.length) ∧ ((ks.take j).Nodup) ∧ ((ks.take j).all Lib.validD = true) ∧ AllEq σ [(0, .slice A ks.length c), (1, .int .i64 n), (5, .map (some b1)), (11, .slice A ks.length c), (12, .int .i64 ((ks.length : Nat))), (13, .int .i64 ((j : Int)))] ∧ FR w0 [] [(b1, Ql (Ju (ks.take j)))] w) _ ⟨0, rfl, (Nat.zero_le _), Sa, Sa, Xt, hF⟩ ?_
 clear hF; rintro μ σ w ⟨j, rfl, hj, hd, hv, hs, hF⟩
 refine Cg.slots hs ?_
 clear hs; intro σ
 refine Ha (Ca (Fj rfl rfl) (Da (Ia ?_)))
 refine Bc rfl rfl (fun hc0 => ?_) (fun hc0 => ?_)
 refine Ra (Ja (Ia (Db (Ha ?_))))
 obtain ⟨ad0, hA0, hk0, hx0⟩ := hX.str_elem (i := j) by_Om
 refine Fa (v := .pointer (some (ad0.add (j * 1)))) (Ya (i := (j : Int)) Pj rfl hA0 rfl by_Om by_Om) (Fa (v := .string (bs (ks[j]))) (Vb isAgg9 rfl (hF.cell0 hk0)) (Ca (Ld rfl) (Da (Ia (Ha (Ca (EC) (Ca (Pc rfl) ?_)))))))
 refine Fa (v := .bool (decide (ks[j] ∈ ks.take j))) (M2 underlying104 underlying9 zeroValue4 rfl rfl (hF.heap (i := 0) rfl) (by rw [Sz]; split <;> rename_i hh <;> simp only [hh, decide_true, decide_false] <;> rfl)) ?_
 refine Ca (Jc rfl) ?_
 refine Mb (d := 20) rfl (fun hg1 => ?_) (fun hg1 => ?_)
 refine Ea (Ea (Ea (Ca (Lc rfl rfl) (Da (Qd rfl (Ha (Ca (Cc rfl) (Da ?_))))))))
 refine Ud (v := .bool false) rfl rfl ?_
 have := Wp (ks := ks) (j := j) by_Om (by assumption)
 exact ⟨congrArg Value.bool (by unfold Bl; rw [decide_eq_false this]; rfl), hF.same⟩
 refine Ca (Pc rfl) ?_
 refine Va hF (DB ks[j] (hl _ (List.getElem_mem _)) _ (hG.ext hF.same)) (Ua HN rfl rfl) ?_
 clear hF; intro w hF
 refine Ca (Dm rfl) (Ca (Dc rfl rfl) (Da ?_))
 refine Vh rfl rfl (fun hc1 => ?_) (fun hc1 => ?_)
 refine Ha (Ca (Cc rfl) (Da ?_))
 refine Ud (v := .bool false) rfl rfl ?_
 have := CC (f := Lib.validD) (ks := ks) (j := j) by_Om (by simpa using hc1)
 exact ⟨congrArg Value.bool (by unfold Bl; rw [this, Bool.and_false]; rfl), hF.same⟩
 refine Ra (Ja (Ga (Ca (EC) (Ca (Pc rfl) ?_))))
 refine Cx 0 (v := .bool true) hF underlying104 underlying9 rfl rfl rfl rfl (by rw [Sz, if_neg (by assumption)]) ?_
 clear hF; rintro w hF -
 rw [Y_ ks j by_Om] at hF
 replace hF : FR w0 [] [(b1, Ql (Ju (ks.take (j + 1))))] w := hF
 refine Cb (Wb (Ja (Ga (Ca (El rfl rfl) (Ca (Za rfl) (Cb ?_))))))
 refine Gb ⟨_, ?_, j + 1, rfl, by_Om, (Iq by_Om hd (by assumption)), (Ps by_Om hv (by simpa using hc1)), Xt, hF⟩
 omega
 refine Oc (Nc rfl ?_)
 refine Ja (Ha (Ca (No rfl) (Ca (Ji underlying22 rfl) (Ca (Za rfl) (Ca (Li rfl rfl) (Ca (Cc rfl) (Da ?_)))))))
 refine Ud (v := .bool _) rfl rfl ?_
 obtain rfl : j = ks.length := by omega
 rw [List.take_length] at hd hv
 exact ⟨congrArg Value.bool (by unfold Bl; rw [hv, decide_eq_true hd]; rfl), hF.same⟩
end Go.Scarf
namespace Go.Scarf
open Go.RowKit Go.Proofs Go.Proofs.Tryz
mutual
def H5 : Tree → Prop | .node _ t ks xs => t.length ≤ 140737488355328 ∧ (∀ k ∈ ks, k.length ≤ 140737488355328) ∧ V8 xs
def V8 : List Tree → Prop | [] => True | x :: xs => H5 x ∧ V8 xs
end
theorem Qq : ∀ {xs : List Tree}, V8 xs → ∀ x ∈ xs, H5 x
  | [], _, _, h => absurd h Sa
  | y :: ys, h, x, hx => by
    rw [V8] at h
    rcases List.mem_cons.1 hx with rfl | hx
    · exact h.1
    · exact Qq h.2 x hx
def nodeB : Tree → Bool
  | .node k t ks xs =>
    if k = 5 then decide (ks = []) && decide (t = []) else
    if k = 6 then Bl ks xs.length && decide (t = []) else
    if ks ≠ [] ∨ xs ≠ [] then false else
    if k = 1 then decide (t = []) else
    if k = 2 then decide (t = [116, 114, 117, 101]) || decide (t = [102, 97, 108, 115, 101]) else
    if k = 3 then Ki t else if k = 4 then Lib.validD t else if k = 7 then Lq t else false
def G1 (g : Nat) (q : Tree → Bool) : Prop := ∀ (x : Tree) (S : Nat → Prop) (w0 : World) (cs : List Value), Rep S w0 (Gc x) cs → H5 x → Gl w0 → Calls prog g #[.agg cs.toArray] w0 (Ce fun v w' => v = .bool (q x) ∧ Same [] w0 w')
theorem LK {α : Type} (l : List α) : decide ((0 : Int) < (l.length : Int)) = decide (l ≠ []) := by
  cases l <;> simp
theorem UG  : G1 25 nodeB := by
 rintro ⟨k, t, ks, xs⟩ S w0 cs hR hk hG
 obtain ⟨A, c, B, e, rfl, -, -, hK, hX⟩ := hR.tree_inv
 rw [H5] at hk
 refine Ma func25 rfl ntmps25 Qb (Rc _) ?_
 have hF := FR.start w0 []
 refine Ha ?_
 refine Bh hF rfl ?_
 clear hF; rintro b1 w hb1 hF -
 refine Ca (Cc rfl) (Da (Ia ?_))
 refine Ag (zs := []) (.free 0 (.free 1 (.free 2 (.free 3 (.free 4 (.free 5 (.free 6 (.free 7 (.free 8 (.free 9 .nil)))))))))) hF ?_
 clear hF; intro w hF
 refine Eb rfl (Fc Nf rfl) (Bk rfl (Mf isAgg22 rfl C0 0 rfl rfl) (Eb rfl (Ji underlying22 rfl) (Eb rfl (Gn rfl rfl) (Eb rfl (Fc Vc rfl) (Bk rfl (Mf isAgg23 rfl C0 0 rfl rfl) (Eb rfl (Ji underlying23 rfl) (Eb rfl (Gn rfl rfl) (Eb rfl (Cc rfl) (Eb rfl (Cc rfl) (Ic (Ja (Ia (Ia ?_)))))))))))))
 refine Ga (Ca (Fc Ke rfl) (Uc (Nm isAgg3 rfl hF.F 0 rfl rfl) (Da (Db (Ha (Ca (Li rfl rfl) (Ca (Cc rfl) (Da ?_))))))))
 refine Bc rfl rfl (fun hc0 => ?_) (fun hc0 => ?_)
 refine Ha (Ca (Jc rfl) (Ca (BU rfl) (Ca (Jc rfl) ?_)))
 refine Mb (d := 21) rfl (fun hg0 => ?_) (fun hg0 => ?_)
 refine Ca (Fc Pf rfl) (Uc (Ko isAgg9 rfl hF.F 0 rfl rfl) (Ca (Mv rfl rfl) (Ca (Lc rfl rfl) (Ca (Cc rfl) (Da ?_)))))
 refine Ud (v := .bool _) rfl rfl ?_
 refine ⟨?_, hF.same⟩
 clear hF hR hK hX hb1
 simp_all [nodeB, List.length_pos_iff]
 refine Ea (Ea (Ea (Ca (Dc rfl rfl) (Ca (Cc rfl) (Da ?_)))))
 refine Ud (v := .bool false) rfl rfl ?_
 refine ⟨?_, hF.same⟩
 clear hF hR hK hX hb1
 simp_all [nodeB, List.length_pos_iff]
 refine Ha (Ca (Li rfl rfl) (Ca (Cc rfl) (Da ?_)))
 refine Bc rfl rfl (fun hc1 => ?_) (fun hc1 => ?_)
 refine Ha (Ca (Fc Nf rfl) (Uc (Mf isAgg22 rfl hF.F 0 rfl rfl) (Ca (Fc Vc rfl) (Uc (Mf isAgg23 rfl hF.F 0 rfl rfl) (Ca (Ji underlying23 rfl) ?_)))))
 refine Va hF (OL ks (xs.length : Nat) S A c (by simpa using hk.2.1) _ (hG.ext hF.same) (hF.rep hK)) (Pa QS rfl rfl rfl) ?_
 clear hF; intro w hF
 refine Ca (Jc rfl) ?_
 refine Qe (d := 34) rfl (fun hg1 => ?_) (fun hg1 => ?_)
 refine Ca (Fc Pf rfl) (Uc (Ko isAgg9 rfl hF.F 0 rfl rfl) (Ca (Mv rfl rfl) (Ca (Lc rfl rfl) (Ca (Cc rfl) (Da ?_)))))
 refine Ud (v := .bool _) rfl rfl ?_
 refine ⟨?_, hF.same⟩
 clear hF hR hK hX hb1
 simp_all [nodeB, List.length_pos_iff]
 refine Ea (Ea (Ea (Ca (Dc rfl rfl) (Ca (Cc rfl) (Da ?_)))))
 refine Ud (v := .bool false) rfl rfl ?_
 refine ⟨?_, hF.same⟩
 clear hF hR hK hX hb1
 simp_all [nodeB, List.length_pos_iff]
 refine Ra (Wb (Ja (Ia (Ha (Ca (Jc rfl) (Ca (Jc rfl) ?_))))))
 refine Mb (d := 40) rfl (fun hg2 => ?_) (fun hg2 => ?_)
 refine Ea (Ca (Lc rfl rfl) (Da (Qd rfl (Ha (Ca (Cc rfl) (Da ?_))))))
 refine Ud (v := .bool false) rfl rfl ?_
 refine ⟨?_, hF.same⟩
 clear hF hR hK hX hb1
 simp_all [nodeB, List.length_pos_iff]
 refine Ca (Jc rfl) (Ca (Dc rfl rfl) (Da ?_))
 refine Bc rfl rfl (fun hc2 => ?_) (fun hc2 => ?_)
 refine Ha (Ca (Cc rfl) (Da ?_))
 refine Ud (v := .bool false) rfl rfl ?_
 refine ⟨?_, hF.same⟩
 clear hF hR hK hX hb1
 simp_all [nodeB, List.length_pos_iff]
 refine Ra (Ja (Ia (Ha (Ca (Fc Ke rfl) (Uc (Nm isAgg3 rfl hF.F 0 rfl rfl) (Da (Db (Ha (Ca (Li rfl rfl) (Ca (Cc rfl) ?_))))))))))
 refine Da ?_
 refine Bc rfl rfl (fun hc3 => ?_) (fun hc3 => ?_)
 refine Ha (Ca (Fc Pf rfl) (Uc (Ko isAgg9 rfl hF.F 0 rfl rfl) (Ca (Mv rfl rfl) (Ca (Cc rfl) (Da ?_)))))
 refine Ud (v := .bool _) rfl rfl ?_
 refine ⟨?_, hF.same⟩
 clear hF hR hK hX hb1
 simp_all [nodeB, List.length_pos_iff]
 refine Ha (Ca (Li rfl rfl) (Ca (Cc rfl) (Da ?_)))
 refine Bc rfl rfl (fun hc4 => ?_) (fun hc4 => ?_)
 refine Ha (Ca (Fc Pf rfl) (Uc (Ko isAgg9 rfl hF.F 0 rfl rfl) (Ca (Mv rfl rfl) (Ca (Jc rfl) ?_))))
 refine Mb (d := 55) rfl (fun hg3 => ?_) (fun hg3 => ?_)
 refine Ea (Ea (Ea (Ca (Lc rfl rfl) (Ca (Cc rfl) (Da ?_)))))
 refine Ud (v := .bool true) rfl rfl ?_
 refine ⟨?_, hF.same⟩
 clear hF hR hK hX hb1
 simp_all [nodeB, List.length_pos_iff]
 refine Ca (Fc Pf rfl) (Uc (Ko isAgg9 rfl hF.F 0 rfl rfl) (Ca (Mv rfl rfl) (Ca (Dc rfl rfl) (Ca (Cc rfl) (Da ?_)))))
 refine Ud (v := .bool _) rfl rfl ?_
 refine ⟨?_, hF.same⟩
 clear hF hR hK hX hb1
 simp_all [nodeB, List.length_pos_iff]
 refine Ha (Ca (Li rfl rfl) (Ca (Cc rfl) (Da ?_)))
 refine Bc rfl rfl (fun hc5 => ?_) (fun hc5 => ?_)
 refine Ha (Ca (Fc Pf rfl) (Uc (Ko isAgg9 rfl hF.F 0 rfl rfl) ?_))
 refine Va hF (L2 t hk.1 _ (hG.ext hF.same)) (Ua WM rfl rfl) ?_
 clear hF; intro w hF
 refine Ca (Qg rfl) (Ca (Yw rfl rfl) (Ca (Xs rfl rfl) ?_))
 refine Hh hF zeroValue49 sizeOf49 rfl ?_
 clear hF; rintro b2 w hb2 hF -
 refine Ca (Cc rfl) (Yb (Ca (Jc rfl) (Ca (Cc rfl) (Da ?_))))
 refine Ud (v := .bool _) rfl rfl ?_
 refine ⟨?_, hF.same⟩
 clear hF hR hK hX hb1
 simp_all [nodeB, List.length_pos_iff]
 refine Ha (Ca (Li rfl rfl) (Ca (Cc rfl) (Da ?_)))
 refine Bc rfl rfl (fun hc6 => ?_) (fun hc6 => ?_)
 refine Ha (Ca (Fc Pf rfl) (Uc (Ko isAgg9 rfl hF.F 0 rfl rfl) ?_))
 refine Va hF (DB t hk.1 _ (hG.ext hF.same)) (Ua HN rfl rfl) ?_
 clear hF; intro w hF
 refine Ca (Cc rfl) (Da ?_)
 refine Ud (v := .bool _) rfl rfl ?_
 refine ⟨?_, hF.same⟩
 clear hF hR hK hX hb1
 simp_all [nodeB, List.length_pos_iff]
 refine Ha (Ca (Li rfl rfl) (Ca (Cc rfl) (Da ?_)))
 refine Bc rfl rfl (fun hc7 => ?_) (fun hc7 => ?_)
 refine Ha (Ca (Fc Pf rfl) (Uc (Ko isAgg9 rfl hF.F 0 rfl rfl) ?_))
 refine Va hF (JQ t hk.1 _ (hG.ext hF.same)) (Ua TR rfl rfl) ?_
 clear hF; intro w hF
 refine Ca (Cc rfl) (Da ?_)
 refine Ud (v := .bool _) rfl rfl ?_
 refine ⟨?_, hF.same⟩
 clear hF hR hK hX hb1
 simp_all [nodeB, List.length_pos_iff]
 refine Ra (Wb (Ja (Ha (Ca (Cc rfl) (Da ?_)))))
 refine Ud (v := .bool false) rfl rfl ?_
 refine ⟨?_, hF.same⟩
 clear hF hR hK hX hb1
 simp_all [nodeB, List.length_pos_iff]
end Go.Scarf
namespace Go.Scarf
open Go.RowKit Go.Proofs Go.Proofs.Tryz
theorem Tree.ind {Q : Tree → Prop} (h : ∀ k t ks xs, (∀ x, x ∈ xs → Q x) → Q (.node k t ks xs)) (x : Tree) : Q x :=
  Tree.rec (motive_1 := Q) (motive_2 := fun xs => ∀ x, x ∈ xs → Q x) (fun k t ks xs ih => h k t ks xs ih) Sa
    (fun y ys h1 h2 => by
      intro z hz
      rcases List.mem_cons.1 hz with rfl | hz
      · exact h1
      · exact h2 z hz) x
mutual
def Ec : Tree → Nat | .node _ _ _ xs => 1 + Zc xs
def Zc : List Tree → Nat | [] => 0 | x :: xs => Ec x + Zc xs
end
mutual
def Wc : Tree → Nat | .node _ _ _ xs => Hd xs + 1
def Hd : List Tree → Nat | [] => 0 | x :: xs => max (Wc x) (Hd xs)
end
theorem Rs : ∀ (xs ys : List Tree), Zc (xs ++ ys) = Zc xs + Zc ys
  | [], ys => by simp [Zc]
  | x :: xs, ys => by simp [Zc, Rs xs ys, Nat.add_assoc]
theorem Zq : ∀ (xs ys : List Tree), Hd (xs ++ ys) = max (Hd xs) (Hd ys)
  | [], ys => by simp [Hd]
  | x :: xs, ys => by simp only [List.cons_append, Hd, Zq xs ys]; omega
theorem Px (xs : List Tree) (j : Nat) (hj : j < xs.length) : Zc (xs.take (j+1)) = Zc (xs.take j) + Ec xs[j] := by
  rw [List.take_succ_eq_append_getElem hj, Rs]; simp [Zc]
theorem Hu (xs : List Tree) (j : Nat) (hj : j < xs.length) : Hd (xs.take (j+1)) = max (Hd (xs.take j)) (Wc xs[j]) := by
  rw [List.take_succ_eq_append_getElem hj, Zq]; simp [Hd]
theorem If : ∀ {xs : List Tree} {x : Tree}, x ∈ xs → Ec x ≤ Zc xs
  | [], _, h => absurd h Sa
  | y :: ys, x, h => by
    rw [Zc]
    rcases List.mem_cons.1 h with rfl | h
    · omega
    · have := If h; omega
theorem HE (x : Tree) : 1 ≤ Ec x := by cases x; rw [Ec]; omega
theorem Bn : ∀ (xs : List Tree), xs.length ≤ Zc xs
  | [] => by simp [Zc]
  | x :: xs => by have := Bn xs; have := HE x; simp only [Zc, List.length_cons]; omega
theorem ZI (x : Tree) : Wc x ≤ Ec x := by
  refine Tree.ind (Q := fun x => Wc x ≤ Ec x) (fun k t ks xs ih => ?_) x
  have : Hd xs ≤ Zc xs := by
    induction xs with
    | nil => simp [Hd, Zc]
    | cons y ys ihy =>
      have h1 := ih y Sa
      have h2 := ihy (fun z hz => ih z (by simp [hz]))
      simp only [Hd, Zc]; omega
  simp only [Wc, Ec]; omega
theorem Ht (xs : List Tree) : Hd xs ≤ Zc xs := by
  have := ZI (.node 0 [] [] xs)
  simp only [Wc, Ec] at this; omega
def II (x : Tree) : Prop := ∀ S w0 cs, Rep S w0 (Gc x) cs → Calls prog 47 #[.agg cs.toArray] w0 (Ce fun v w' => v = .int .i64 (wr (Ec x)) ∧ Same [] w0 w')
theorem TE (k : Int) (t : Str) (ks : List Str) (xs : List Tree) (ih : ∀ x, x ∈ xs → II x) : II (.node k t ks xs) := by
 intro S w0 cs hR
 obtain ⟨A, c, B, e, rfl, -, -, -, hX⟩ := hR.tree_inv
 have hXl := hX.slice_len
 refine Ma func47 rfl ntmps47 Qb (Rc _) ?_
 have hF := FR.start w0 []
 refine Ha ?_
 refine Bh hF rfl ?_
 clear hF; rintro b1 w hb1 hF -
 refine Ca (Kb rfl) (Yb (Ca (Kb rfl) (Da (Ia (Ha (Ca (Fc Vc rfl) (Uc (Mf isAgg23 rfl hF.F 0 rfl rfl) (Ca (Ji underlying23 rfl) ?_))))))))
 refine Ca (Za rfl) (Da (Db ?_))
 refine Xc (fun μ σ w => ∃ (j : Nat), μ = xs.length - j ∧ (j ≤ xs.length) ∧ AllEq σ [(3, .int .i64 (wr (1 + Zc (xs.take j)))), (7, .slice B xs.length e), (8, .int .i64 ((xs.length : Nat))), (9, .int .i64 ((j : Int)))] ∧ FR w0 [] [(b1, .cells #[.int .i64 k, .string (bs t), .slice A ks.length c, .slice B xs.length e] 25)] w) _ ⟨0, rfl, (Nat.zero_le _), An, hF⟩ ?_
 clear hF; rintro μ σ w ⟨j, rfl, hj, hs, hF⟩
 refine Cg.slots hs ?_
 clear hs; intro σ
 refine Ha (Ca (Fj rfl rfl) (Da (Ia ?_)))
 refine Bc rfl rfl (fun hc0 => ?_) (fun hc0 => ?_)
 refine Ra (Ja (Ia (Db (Ha ?_))))
 obtain ⟨ad0, cs0, hA0, hl0, hk0, hx0⟩ := hX.tree_elem (i := j) by_Om
 have ho0 := hx0.one_
 refine Fa (v := .pointer (some (ad0.add (j * 4)))) (Ya (i := (j : Int)) Sj rfl hA0 rfl by_Om by_Om) (Fa (v := .agg (List.toArray cs0)) (Rb (l := cs0) isAgg25 sizeOf25 rfl hl0 (hF.cells0 hk0)) ?_)
 refine I2 (l := cs0) hF zeroValue25 (by rw [hl0]; exact sizeOf25) (by rw [hl0]; rfl) (v := .agg (List.toArray cs0)) rfl rfl (ho0) rfl ?_
 clear hF; rintro b2 w hb2 hF -
 refine Da (Ga (Ca (Za rfl) (Fa (v := .agg (List.toArray cs0)) (Rb (l := cs0) isAgg25 sizeOf25 rfl hl0 (hF.cellsAll 0 rfl)) ?_)))
 refine Va hF (ih _ (List.getElem_mem _) _ _ _ (hF.rep hx0)) (Ua KM rfl rfl) ?_
 clear hF; intro w hF
 refine Fa (v := .int .i64 (wr (1 + Zc (xs.take (j + 1))))) (Tq rfl rfl (by rw [KE, Px xs j by_Om, Int.natCast_add, Int.add_assoc])) ?_
 refine Ca (Kb rfl) (Cb (Wb (Ja (Ga (Ca (El rfl rfl) (Ca (Za rfl) (Cb ?_)))))))
 refine Gb ⟨_, ?_, j + 1, rfl, by_Om, An, hF.drop 1⟩
 omega
 refine Oc (Nc rfl ?_)
 refine Ja (Ha (Ca (Za rfl) (Ca (Kb rfl) (Da ?_))))
 refine Ud (v := .int .i64 (wr (1 + Zc (xs.take j)))) rfl rfl ?_
 obtain rfl : j = xs.length := by omega
 exact ⟨by simp [Ec], hF.same⟩
theorem CQ (x : Tree) : II x := Tree.ind TE x
def W_ (x : Tree) : Prop := Ec x ≤ 1000000000 → ∀ S w0 cs, Rep S w0 (Gc x) cs → Calls prog 48 #[.agg cs.toArray] w0 (Ce fun v w' => v = .int .i64 (Wc x : Nat) ∧ Same [] w0 w')
theorem OA (k : Int) (t : Str) (ks : List Str) (xs : List Tree) (ih : ∀ x, x ∈ xs → W_ x) : W_ (.node k t ks xs) := by
 intro hsz S w0 cs hR
 obtain ⟨A, c, B, e, rfl, -, -, -, hX⟩ := hR.tree_inv
 have hXl := hX.slice_len
 have hdl := Ht xs
 rw [Ec] at hsz
 refine Ma func48 rfl ntmps48 Qb (Rc _) ?_
 have hF := FR.start w0 []
 refine Ha ?_
 refine Bh hF rfl ?_
 clear hF; rintro b1 w hb1 hF -
 refine Ca (Kb rfl) (Yb (Ca (Kb rfl) (Da (Ia (Ha (Ca (Fc Vc rfl) (Uc (Mf isAgg23 rfl hF.F 0 rfl rfl) (Ca (Ji underlying23 rfl) ?_))))))))
 refine Ca (Za rfl) (Da (Db ?_))
 refine Xc (fun μ σ w => ∃ (j : Nat), μ = xs.length - j ∧ (j ≤ xs.length) ∧ AllEq σ [(3, .int .i64 ((Hd (xs.take j) : Nat))), (7, .slice B xs.length e), (8, .int .i64 ((xs.length : Nat))), (9, .int .i64 ((j : Int)))] ∧ FR w0 [] [(b1, .cells #[.int .i64 k, .string (bs t), .slice A ks.length c, .slice B xs.length e] 25)] w) _ ⟨0, rfl, (Nat.zero_le _), An, hF⟩ ?_
 clear hF; rintro μ σ w ⟨j, rfl, hj, hs, hF⟩
 refine Cg.slots hs ?_
 clear hs; intro σ
 refine Ha (Ca (Fj rfl rfl) (Da (Ia ?_)))
 refine Bc rfl rfl (fun hc0 => ?_) (fun hc0 => ?_)
 refine Ra (Ja (Ia (Db (Ha ?_))))
 obtain ⟨ad0, cs0, hA0, hl0, hk0, hx0⟩ := hX.tree_elem (i := j) by_Om
 have ho0 := hx0.one_
 refine Fa (v := .pointer (some (ad0.add (j * 4)))) (Ya (i := (j : Int)) Sj rfl hA0 rfl by_Om by_Om) (Fa (v := .agg (List.toArray cs0)) (Rb (l := cs0) isAgg25 sizeOf25 rfl hl0 (hF.cells0 hk0)) ?_)
 refine I2 (l := cs0) hF zeroValue25 (by rw [hl0]; exact sizeOf25) (by rw [hl0]; rfl) (v := .agg (List.toArray cs0)) rfl rfl (ho0) rfl ?_
 clear hF; rintro b2 w hb2 hF -
 refine Da (Ga (Ca (Za rfl) (Fa (v := .agg (List.toArray cs0)) (Rb (l := cs0) isAgg25 sizeOf25 rfl hl0 (hF.cellsAll 0 rfl)) ?_)))
 refine Va hF (ih _ (List.getElem_mem _) (by have := If (List.getElem_mem (l := xs) (n := j) by_Om); omega) _ _ _ (hF.rep hx0)) (Ua LM rfl rfl) ?_
 clear hF; intro w hF
 refine Fa (v := .int .i64 ((Hd (xs.take (j + 1)) : Nat))) (by rw [← show max ((Hd (xs.take j) : Nat) : Int) ((Wc xs[j] : Nat) : Int) = ((Hd (xs.take (j + 1)) : Nat) : Int) from by rw [Hu xs j by_Om]; omega]; exact EJ rfl rfl) ?_
 refine Ca (Kb rfl) (Cb (Wb (Ja (Ga (Ca (El rfl rfl) (Ca (Za rfl) (Cb ?_)))))))
 refine Gb ⟨_, ?_, j + 1, rfl, by_Om, An, hF.drop 1⟩
 omega
 refine Oc (Nc rfl ?_)
 refine Ja (Ha (Ca (Za rfl) ?_))
 have eT : xs.take j = xs := List.take_of_length_le by_Om
 refine Fa (v := .int .i64 ((Wc (.node k t ks xs) : Nat))) (Tq rfl rfl (by rw [eT, Wc]; exact Me by_Om by_Om by_Om)) ?_
 refine Ca (Kb rfl) (Da ?_)
 refine Ud (v := .int .i64 ((Wc (.node k t ks xs) : Nat))) rfl rfl ?_
 exact ⟨rfl, hF.same⟩
theorem ZJ (x : Tree) : W_ x := Tree.ind OA x
end Go.Scarf
namespace Go.Scarf
open Go.RowKit Go.Proofs Go.Proofs.Tryz
theorem Same.cell {w w' : World} {a : Addr} {v : Value} (h : Same [] w w') (hc : w.cell? a = some v) : w'.cell? a = some v := ((FR.start w []).ext h).cell0 hc
mutual
def Yd (q : Tree → Bool) : Tree → Bool | .node k t ks xs => q (.node k t ks xs) && Jp q xs
def Jp (q : Tree → Bool) : List Tree → Bool | [] => true | x :: xs => Yd q x && Jp q xs
end
theorem So (q : Tree → Bool) : ∀ xs : List Tree, Jp q xs = !(xs.any fun x => !Yd q x)
  | [] => rfl
  | x :: xs => by rw [Jp, So q xs]; simp
def EachC (w0 : World) (bb : Nat) (xs : List Tree) (q : Tree → Bool) : Prop := ∀ x, x ∈ xs → ∀ S w cs, Same [] w0 w → Rep S w (Gc x) cs → Calls prog 50 #[.agg cs.toArray, .pointer (some ⟨bb, 0, none⟩)] w (Ce fun v w' => v = .bool (q x) ∧ Same [] w w')
theorem EachC.ext {w0 w : World} {bb : Nat} {xs : List Tree} {q : Tree → Bool} (h : EachC w0 bb xs q) (hs : Same [] w0 w) : EachC w bb xs q := fun x hx S w' cs hw => h x hx S w' cs (hs.trans hw)
theorem BD {q : Tree → Bool} {xs : List Tree} {j : Nat} (h : j < xs.length) (hn : (xs.take j).any q = false) (hq : q xs[j] = false) : (xs.take (j + 1)).any q = false := by
  rw [List.take_succ_eq_append_getElem h, List.any_append, hn]; simp [hq]
def Dt (g : Nat) (q : Tree → Bool) (x : Tree) : Prop := ∀ S w0 cs, Rep S w0 (Gc x) cs → H5 x → Gl w0 → Calls prog 23 #[.agg cs.toArray, .func (.func g) #[] #[]] w0 (Ce fun v w' => v = .bool (Yd q x) ∧ Same [] w0 w')
theorem Q7 (xs : List Tree) (q : Tree → Bool) (bb : Nat) (B : Option Addr) (e : Nat) (S : Nat → Prop) (w0 : World) (hX : Rep S w0 (.slice (Je xs)) [.slice B xs.length e]) (hq : EachC w0 bb xs q) : Calls prog 75 #[.slice B xs.length e, .func (.func 50) #[] #[.pointer (some ⟨bb, 0, none⟩)]] w0 (Ce fun v w' => ∃ n : Int, v = .int .i64 n ∧ decide (0 ≤ n) = xs.any q ∧ Same [] w0 w') := by
 have hXl := hX.slice_len
 refine Ma func75 rfl ntmps75 Qb (Wd _ _) ?_
 have hF := FR.start w0 []
 refine Ha (Ca (Kb rfl) (Da (Ia (Ha (Ca (No rfl) (Ca (Ji underlying23 rfl) (Ca (Za rfl) (Da (Db ?_)))))))))
 refine Xc (fun μ σ w => ∃ (j : Nat), μ = xs.length - j ∧ (j ≤ xs.length) ∧ ((xs.take j).any q = false) ∧ AllEq σ [(0, .slice B xs.length e), (1, .func (.func 50) #[] #[.pointer (some (⟨bb, 0, none⟩))]), (7, .int .i64 ((xs.length : Nat))), (8, .int .i64 ((j : Int)))] ∧ FR w0 [] [] w) _ ⟨0, rfl, (Nat.zero_le _), Sa, An, hF⟩ ?_
 clear hF; rintro μ σ w ⟨j, rfl, hj, hn, hs, hF⟩
 refine Cg.slots hs ?_
 clear hs; intro σ
 refine Ha (Ca (Fj rfl rfl) (Da (Ia ?_)))
 refine Bc rfl rfl (fun hc0 => ?_) (fun hc0 => ?_)
 refine Ra (Ja (Ia (Db (Ha (Ca (Za rfl) (Ca (Kb rfl) (Yb (Ca (EC) (Ca (No rfl) ?_)))))))))
 refine Ca (Za rfl) ?_
 obtain ⟨ad0, cs0, hA0, hl0, hk0, hx0⟩ := hX.tree_elem (i := j) by_Om
 have ho0 := hx0.one_
 refine Fa (v := .pointer (some (ad0.add (j * 4)))) (Ya (i := (j : Int)) Sj rfl hA0 rfl by_Om by_Om) (Fa (v := .agg (List.toArray cs0)) (Rb (l := cs0) isAgg25 sizeOf25 rfl hl0 (hF.cells0 hk0)) ?_)
 refine Va hF (hq _ (List.getElem_mem (l := xs) (n := j) by_Om) _ _ _ hF.same (hF.rep hx0)) (Yy rfl WS rfl rfl) ?_
 clear hF; intro w hF
 refine Da ?_
 refine Vh rfl rfl (fun hc1 => ?_) (fun hc1 => ?_)
 refine Ha (Ca (Za rfl) (Ca (Kb rfl) (Da ?_)))
 refine Ud (v := .int .i64 ((j : Int))) rfl rfl ?_
 exact ⟨_, rfl, by rw [List.any_eq_true.2 ⟨_, List.getElem_mem (l := xs) (n := j) by_Om, hc1⟩]; simp, hF.same⟩
 refine Ra (Wb (Ja (Ga (Ca (El rfl rfl) (Ca (Za rfl) (Cb ?_))))))
 refine Gb ⟨_, ?_, j + 1, rfl, by_Om, (BD by_Om hn hc1), An, hF⟩
 omega
 refine Oc (Nc rfl ?_)
 refine Ja (Ha (Ca (Kb rfl) (Da ?_)))
 refine Ud (v := .int .i64 ((-1))) rfl rfl ?_
 have eT : xs.take j = xs := List.take_of_length_le by_Om
 rw [eT] at hn
 exact ⟨_, rfl, by rw [hn]; decide, hF.same⟩
theorem Oq (xs : List Tree) (q : Tree → Bool) (bb : Nat) (B : Option Addr) (e : Nat) (S : Nat → Prop) (w0 : World) (hX : Rep S w0 (.slice (Je xs)) [.slice B xs.length e]) (hq : EachC w0 bb xs q) : Calls prog 49 #[.slice B xs.length e, .func (.func 50) #[] #[.pointer (some ⟨bb, 0, none⟩)]] w0 (Ce fun v w' => v = .bool (xs.any q) ∧ Same [] w0 w') := by
 refine Ma func49 rfl ntmps49 Qb (Wd _ _) ?_
 have hF := FR.start w0 []
 refine Ha (Ca (Cc rfl) (Yb (Ca (No rfl) (Ca (EC) ?_))))
 refine Zb (Q7 xs q bb B e S _ (hF.rep hX) (hq.ext hF.same)) (Pa CS rfl rfl rfl) ?_
 rintro _ w ⟨n, rfl, hn, hE⟩
 replace hF := hF.ext hE
 clear hE
 refine Ca (Zv rfl rfl) (Ca (Cc rfl) (Da ?_))
 refine Ud (v := .bool _) rfl rfl ?_
 exact ⟨congrArg Value.bool hn, hF.same⟩
theorem L1 (g : Nat) (q : Tree → Bool) (x : Tree) (h : Dt g q x) (bb : Nat) (S : Nat → Prop) (w0 : World) (cs : List Value) (hR : Rep S w0 (Gc x) cs) (hk : H5 x) (hG : Gl w0) (hb : w0.cell? ⟨bb, 0, none⟩ = some (.func (.func g) #[] #[])) : Calls prog 50 #[.agg cs.toArray, .pointer (some ⟨bb, 0, none⟩)] w0 (Ce fun v w' => v = .bool (!Yd q x) ∧ Same [] w0 w') := by
 have hl : cs.length = 4 := hR.length.trans (Ac x)
 have ho := hR.one_
 refine Ma func50 rfl ntmps50 Qb (Wd _ _) ?_
 have hF := FR.start w0 []
 refine Ha ?_
 refine Vf (v := .agg (List.toArray cs)) (cs := (List.toArray cs)) hF rfl rfl ?_
 clear hF; rintro b1 w hb1 hF -
 refine Ca (Cc rfl) (Yb (Fa (v := .agg (List.toArray cs)) (Rb (l := cs) isAgg25 sizeOf25 rfl hl (hF.cellsAll 0 rfl)) (Fa (v := .func (.func g) #[] #[]) (Vb isAgg41 rfl (hF.cell0 hb)) ?_)))
 refine Va hF (h S _ cs (hF.rep hR) hk (hG.ext hF.same)) (Pa KJ rfl rfl rfl) ?_
 clear hF; intro w hF
 refine Ca (Dm rfl) (Ca (Cc rfl) (Da ?_))
 refine Ud (v := .bool _) rfl rfl ?_
 exact ⟨rfl, hF.same⟩
theorem V4 (q : Tree → Bool) (hp : G1 24 q) (k : Int) (t : Str) (ks : List Str) (xs : List Tree) (ih : ∀ x, x ∈ xs → Dt 24 q x) : Dt 24 q (.node k t ks xs) := by
 intro S w0 cs hR hk hG
 have hk' := hk
 rw [H5] at hk'
 obtain ⟨A, c, B, e, rfl, -, -, hK, hX⟩ := hR.tree_inv
 refine Ma func23 rfl ntmps23 Qb (Wd _ _) ?_
 have hF := FR.start w0 []
 refine Ha ?_
 refine Bh hF rfl ?_
 clear hF; rintro b1 w hb1 hF -
 refine VP (.func (.func 24) #[] #[]) hF rfl ?_
 clear hF; rintro b2 w hb2 hF -
 refine Ca (Cc rfl) (Yb (Uc (VT isAgg41 rfl hF.F 0 rfl rfl) (Uc (Bi isAgg25 sizeOf25 rfl hF.F 1 rfl rfl) ?_)))
 refine Va hF (hp (.node k t ks xs) S _ _ (hF.rep hR) hk (hG.ext hF.same)) (Yy rfl NR rfl rfl) ?_
 clear hF; intro w hF
 refine Ca (Jc rfl) ?_
 refine Qe (d := 8) rfl (fun hg0 => ?_) (fun hg0 => ?_)
 refine Ca (Fc Vc rfl) (Uc (Mf isAgg23 rfl hF.F 1 rfl rfl) (Fa (v := .func (.func 50) #[] #[.pointer (some ⟨b2, 0, none⟩)]) (Gv rfl) ?_))
 refine Va hF (Oq xs (fun x => !Yd q x) b2 B e S _ (hF.rep hX) (fun x hx S' w' cs' hs hr => L1 24 q x (ih x hx) b2 S' w' cs' hr (Qq hk'.2.2 x hx) ((hG.ext hF.same).ext hs) (hs.cell (hF.cell 0 rfl rfl)))) (Pa HM rfl rfl rfl) ?_
 clear hF; intro w hF
 refine Ca (Dm rfl) (Ca (Lc rfl rfl) (Ca (Cc rfl) (Da ?_)))
 refine Ud (v := .bool _) rfl rfl ?_
 refine ⟨?_, hF.same⟩
 rw [Yd, So]
 simp_all
 refine Ea (Ea (Ea (Ea (Ea (Ca (Dc rfl rfl) (Ca (Cc rfl) (Da ?_)))))))
 refine Ud (v := .bool false) rfl rfl ?_
 refine ⟨?_, hF.same⟩
 rw [Yd, So]
 simp_all
theorem WD (q : Tree → Bool) (hp : G1 24 q) (x : Tree) : Dt 24 q x := Tree.ind (V4 q hp) x
theorem N4 (q : Tree → Bool) (hp : G1 25 q) (k : Int) (t : Str) (ks : List Str) (xs : List Tree) (ih : ∀ x, x ∈ xs → Dt 25 q x) : Dt 25 q (.node k t ks xs) := by
 intro S w0 cs hR hk hG
 have hk' := hk
 rw [H5] at hk'
 obtain ⟨A, c, B, e, rfl, -, -, hK, hX⟩ := hR.tree_inv
 refine Ma func23 rfl ntmps23 Qb (Wd _ _) ?_
 have hF := FR.start w0 []
 refine Ha ?_
 refine Bh hF rfl ?_
 clear hF; rintro b1 w hb1 hF -
 refine VP (.func (.func 25) #[] #[]) hF rfl ?_
 clear hF; rintro b2 w hb2 hF -
 refine Ca (Cc rfl) (Yb (Uc (VT isAgg41 rfl hF.F 0 rfl rfl) (Uc (Bi isAgg25 sizeOf25 rfl hF.F 1 rfl rfl) ?_)))
 refine Va hF (hp (.node k t ks xs) S _ _ (hF.rep hR) hk (hG.ext hF.same)) (Yy rfl KN rfl rfl) ?_
 clear hF; intro w hF
 refine Ca (Jc rfl) ?_
 refine Qe (d := 8) rfl (fun hg0 => ?_) (fun hg0 => ?_)
 refine Ca (Fc Vc rfl) (Uc (Mf isAgg23 rfl hF.F 1 rfl rfl) (Fa (v := .func (.func 50) #[] #[.pointer (some ⟨b2, 0, none⟩)]) (Gv rfl) ?_))
 refine Va hF (Oq xs (fun x => !Yd q x) b2 B e S _ (hF.rep hX) (fun x hx S' w' cs' hs hr => L1 25 q x (ih x hx) b2 S' w' cs' hr (Qq hk'.2.2 x hx) ((hG.ext hF.same).ext hs) (hs.cell (hF.cell 0 rfl rfl)))) (Pa HM rfl rfl rfl) ?_
 clear hF; intro w hF
 refine Ca (Dm rfl) (Ca (Lc rfl rfl) (Ca (Cc rfl) (Da ?_)))
 refine Ud (v := .bool _) rfl rfl ?_
 refine ⟨?_, hF.same⟩
 rw [Yd, So]
 simp_all
 refine Ea (Ea (Ea (Ea (Ea (Ca (Dc rfl rfl) (Ca (Cc rfl) (Da ?_)))))))
 refine Ud (v := .bool false) rfl rfl ?_
 refine ⟨?_, hF.same⟩
 rw [Yd, So]
 simp_all
theorem EE (q : Tree → Bool) (hp : G1 25 q) (x : Tree) : Dt 25 q x := Tree.ind (N4 q hp) x
end Go.Scarf
namespace Go.Scarf
open Go.RowKit Go.Proofs Go.Proofs.Tryz
def rnodeB (x : Tree) : Bool := decide (x.kind ≠ 7) && nodeB x
def Yj (x : Tree) : Bool := decide (Ec x ≤ 4096) && decide (Wc x ≤ 32)
def Ti (x : Tree) : Bool := Yj x && Yd nodeB x
def Yc (x : Tree) : Bool := Yj x && Yd rnodeB x
theorem SI {n : Nat} (h : n ≤ 1000000000) : wr (n : Int) = (n : Int) := Lh by_Om by_Om
theorem NK  : G1 24 rnodeB := by
 rintro ⟨k, t, ks, xs⟩ S w0 cs hR hk hG
 obtain ⟨A, c, B, e, rfl, -, -, hK, hX⟩ := hR.tree_inv
 refine Ma func24 rfl ntmps24 Qb (Rc _) ?_
 have hF := FR.start w0 []
 refine Ha ?_
 refine Bh hF rfl ?_
 clear hF; rintro b1 w hb1 hF -
 refine Ca (Cc rfl) (Yb (Ca (Fc Ke rfl) (Uc (Nm isAgg3 rfl hF.F 0 rfl rfl) (Ca (Vs rfl rfl) (Ca (Jc rfl) ?_)))))
 refine Mb (d := 6) rfl (fun hg0 => ?_) (fun hg0 => ?_)
 refine Uc (Bi isAgg25 sizeOf25 rfl hF.F 0 rfl rfl) ?_
 refine Va hF (UG (.node k t ks xs) S _ _ (hF.rep hR) hk (hG.ext hF.same)) (Ua KN rfl rfl) ?_
 clear hF; intro w hF
 refine Ca (Lc rfl rfl) (Ca (Cc rfl) (Da ?_))
 refine Ud (v := .bool _) rfl rfl ?_
 refine ⟨?_, hF.same⟩
 simp_all [rnodeB, Tree.kind]
 refine Ea (Ea (Ca (Dc rfl rfl) (Ca (Cc rfl) (Da ?_))))
 refine Ud (v := .bool false) rfl rfl ?_
 refine ⟨?_, hF.same⟩
 simp_all [rnodeB, Tree.kind]
theorem RQ (x : Tree) (hsz : Ec x ≤ 1000000000) (S : Nat → Prop) (w0 : World) (cs : List Value) (hR : Rep S w0 (Gc x) cs) : Calls prog 47 #[.agg cs.toArray] w0 (Ce fun v w' => v = .int .i64 (Ec x : Nat) ∧ Same [] w0 w') := by
  have h := CQ x S w0 cs hR
  rwa [SI hsz] at h
theorem WA (x : Tree) (hsz : Ec x ≤ 1000000000) (S : Nat → Prop) (w0 : World) (cs : List Value) (hR : Rep S w0 (Gc x) cs) : Calls prog 22 #[.agg cs.toArray] w0 (Ce fun v w' => v = .bool (Yj x) ∧ Same [] w0 w') := by
 have hl : cs.length = 4 := hR.length.trans (Ac x)
 have ho := hR.one_
 refine Ma func22 rfl ntmps22 Qb (Rc _) ?_
 have hF := FR.start w0 []
 refine Ha ?_
 refine Vf (v := .agg (List.toArray cs)) (cs := (List.toArray cs)) hF rfl rfl ?_
 clear hF; rintro b1 w hb1 hF -
 refine Ca (Cc rfl) (Yb (Fa (v := .agg (List.toArray cs)) (Rb (l := cs) isAgg25 sizeOf25 rfl hl (hF.cellsAll 0 rfl)) ?_))
 refine Va hF (RQ x hsz S _ cs (hF.rep hR)) (Ua KM rfl rfl) ?_
 clear hF; intro w hF
 refine Ca (T6 rfl rfl) (Ca (Jc rfl) ?_)
 refine Mb (d := 6) rfl (fun hg0 => ?_) (fun hg0 => ?_)
 refine Fa (v := .agg (List.toArray cs)) (Rb (l := cs) isAgg25 sizeOf25 rfl hl (hF.cellsAll 0 rfl)) ?_
 refine Va hF (ZJ x hsz S _ cs (hF.rep hR)) (Ua LM rfl rfl) ?_
 clear hF; intro w hF
 refine Ca (T6 rfl rfl) (Ca (Lc rfl rfl) (Ca (Cc rfl) (Da ?_)))
 refine Ud (v := .bool _) rfl rfl ?_
 refine ⟨congrArg Value.bool ?_, hF.same⟩
 unfold Yj
 first | (rw [decide_eq_true (by omega : Ec x ≤ 4096)]; exact decide_eq_decide.2 by_Om) | (rw [decide_eq_false (by omega : ¬ Ec x ≤ 4096)]; rfl)
 refine Ea (Ea (Ea (Ca (Dc rfl rfl) (Ca (Cc rfl) (Da ?_)))))
 refine Ud (v := .bool false) rfl rfl ?_
 refine ⟨congrArg Value.bool ?_, hF.same⟩
 unfold Yj
 first | (rw [decide_eq_true (by omega : Ec x ≤ 4096)]; exact decide_eq_decide.2 by_Om) | (rw [decide_eq_false (by omega : ¬ Ec x ≤ 4096)]; rfl)
theorem G4 (x : Tree) (hsz : Ec x ≤ 1000000000) (S : Nat → Prop) (w0 : World) (cs : List Value) (hR : Rep S w0 (Gc x) cs) (hk : H5 x) (hG : Gl w0) : Calls prog 14 #[.agg cs.toArray] w0 (Ce fun v w' => v = .bool (Yc x) ∧ Same [] w0 w') := by
 have hl : cs.length = 4 := hR.length.trans (Ac x)
 have ho := hR.one_
 refine Ma func14 rfl ntmps14 Qb (Rc _) ?_
 have hF := FR.start w0 []
 refine Ha ?_
 refine Vf (v := .agg (List.toArray cs)) (cs := (List.toArray cs)) hF rfl rfl ?_
 clear hF; rintro b1 w hb1 hF -
 refine Ca (Cc rfl) (Yb (Fa (v := .agg (List.toArray cs)) (Rb (l := cs) isAgg25 sizeOf25 rfl hl (hF.cellsAll 0 rfl)) ?_))
 refine Va hF (WA x hsz S _ cs (hF.rep hR)) (Ua SM rfl rfl) ?_
 clear hF; intro w hF
 refine Ca (Jc rfl) ?_
 refine Qe (d := 5) rfl (fun hg0 => ?_) (fun hg0 => ?_)
 refine Fa (v := .agg (List.toArray cs)) (Rb (l := cs) isAgg25 sizeOf25 rfl hl (hF.cellsAll 0 rfl)) ?_
 refine Va hF (WD rnodeB NK x S _ cs (hF.rep hR) hk (hG.ext hF.same)) (Pa KJ rfl rfl rfl) ?_
 clear hF; intro w hF
 refine Ca (Lc rfl rfl) (Ca (Cc rfl) (Da ?_))
 refine Ud (v := .bool _) rfl rfl ?_
 exact ⟨congrArg Value.bool (by unfold Yc; simp_all), hF.same⟩
 refine Ea (Ea (Ca (Dc rfl rfl) (Ca (Cc rfl) (Da ?_))))
 refine Ud (v := .bool false) rfl rfl ?_
 exact ⟨congrArg Value.bool (by unfold Yc; simp_all), hF.same⟩
theorem WO (x : Tree) (hsz : Ec x ≤ 1000000000) (S : Nat → Prop) (w0 : World) (cs : List Value) (hR : Rep S w0 (Gc x) cs) (hk : H5 x) (hG : Gl w0) : Calls prog 33 #[.agg cs.toArray] w0 (Ce fun v w' => v = .bool (Ti x) ∧ Same [] w0 w') := by
 have hl : cs.length = 4 := hR.length.trans (Ac x)
 have ho := hR.one_
 refine Ma func33 rfl ntmps33 Qb (Rc _) ?_
 have hF := FR.start w0 []
 refine Ha ?_
 refine Vf (v := .agg (List.toArray cs)) (cs := (List.toArray cs)) hF rfl rfl ?_
 clear hF; rintro b1 w hb1 hF -
 refine Ca (Cc rfl) (Yb (Fa (v := .agg (List.toArray cs)) (Rb (l := cs) isAgg25 sizeOf25 rfl hl (hF.cellsAll 0 rfl)) ?_))
 refine Va hF (WA x hsz S _ cs (hF.rep hR)) (Ua SM rfl rfl) ?_
 clear hF; intro w hF
 refine Ca (Jc rfl) ?_
 refine Qe (d := 5) rfl (fun hg0 => ?_) (fun hg0 => ?_)
 refine Fa (v := .agg (List.toArray cs)) (Rb (l := cs) isAgg25 sizeOf25 rfl hl (hF.cellsAll 0 rfl)) ?_
 refine Va hF (EE nodeB UG x S _ cs (hF.rep hR) hk (hG.ext hF.same)) (Pa KJ rfl rfl rfl) ?_
 clear hF; intro w hF
 refine Ca (Lc rfl rfl) (Ca (Cc rfl) (Da ?_))
 refine Ud (v := .bool _) rfl rfl ?_
 exact ⟨congrArg Value.bool (by unfold Ti; simp_all), hF.same⟩
 refine Ea (Ea (Ca (Dc rfl rfl) (Ca (Cc rfl) (Da ?_))))
 refine Ud (v := .bool false) rfl rfl ?_
 exact ⟨congrArg Value.bool (by unfold Ti; simp_all), hF.same⟩
end Go.Scarf
