/- A part of the proof. -/
import Derived.Test.YtepbomjpbdbejaaGreatDoorW2
import Derived.Test.YtepbomjpbdbejaaGreatDoorShelf2
import Derived.Test.YtepbomjpbdbejaaGreatDoorMem
import Derived.Lib.ValidLaws
import Derived.Lib.TrimUEq
import Derived.Lib.MapLaws
import Derived.Test.YtepbomjpbdbejaaGreatDoorMore
set_option linter.all false
set_option maxHeartbeats 8000000
set_option maxRecDepth 10000
namespace Go.Scarf
open Go.RowKit Go.Proofs Go.Proofs.Tryz
def Wm (s : Str) : Bool := decide ((Jf s).2 = 0) && decide (Eo (Jf s).1 = s)
def H3 (s : Str) : Bool := Wm s && (XD (Jf s).1).2 && decide (0 ≤ (XD (Jf s).1).1)
theorem S2 (s : Str) : Le (Jf s).1 = true := by
  rw [Mj]
  repeat' split
  all_goals first | rfl | simp_all
theorem Rq (s : Str) : (Jf s).1.digits.length ≤ 1000 := (Jd (S2 s)).1
theorem Wl (s : Str) (q : Nat) : Lib.decodeL (s.drop q) = Utf8.decode (bs s) q := Lib.decodeL_drop (bs s) q
theorem Ff (s : Str) (q : Nat) : 1 ≤ (Utf8.decode (bs s) q).2 := by rw [← Wl]; exact Lib.decodeL_width _
theorem Jx (s : Str) (q : Nat) (h : q < s.length) : q + (Utf8.decode (bs s) q).2 ≤ s.length := by
  have := Lib.decodeL_le (s.drop q) (by rw [ne_eq, List.drop_eq_nil_iff]; omega)
  rw [Wl, List.length_drop] at this
  omega
theorem Sx (s : Str) (q : Nat) (h : q < s.length) (hv : Lib.validD (s.drop q) = false) (hn : ¬ ((Utf8.decode (bs s) q).1 = 65533 ∧ (Utf8.decode (bs s) q).2 = 1)) : Lib.validD (s.drop (q + (Utf8.decode (bs s) q).2)) = false := by
  rw [Lib.validD_step _ (by rw [ne_eq, List.drop_eq_nil_iff]; omega), Wl, if_neg hn, List.drop_drop] at hv
  exact hv
theorem Fq (s : Str) (q : Nat) (h : q < s.length) : Lib.decodeGo (bs (s.drop q)) = Utf8.decode (bs s) q := by
  have h1 : (bs (s.drop q)).size ≠ 0 := by rw [Cm, List.length_drop]; omega
  rw [Lib.decodeGo, if_neg h1]; exact Wl s q
theorem Zx (s : Str) (hl : s.length ≤ 140737488355328) {w : World} (hG : Gl w) : Calls prog 122 #[.string (bs s)] w (Md fun v w' => v = .bool (Lib.validD s) ∧ Same [] w w') :=
  Lp (utf8_ValidString (bs s) w (by rw [Cm]; omega) hG.tabs)
theorem U1 (s : Str) {w : World} (hG : Gl w) : Calls prog 123 #[.string (bs s)] w (Md fun v w' => v = .tuple #[.int .i32 (Lib.decodeGo (bs s)).1, .int .i64 (Lib.decodeGo (bs s)).2] ∧ Same [] w w') :=
  Lp (utf8_DecodeRuneInString (bs s) w hG.tabs)
theorem H_ (s : Str) (hl : s.length ≤ 140737488355328) (w0 : World) (hG : Gl w0) : Calls prog 97 #[.string (bs s)] w0 (Md fun v w' => ∃ n, v = .tuple #[.int .i64 n, .bool (Lib.validD s)] ∧ Same [] w0 w') := by
  refine Ka func97 rfl ntmps97 Gb (Dd _) ?_
  have hF := FR.start w0 []
  refine Ja ?_
  refine Ea ?_
  refine Ca (Pc rfl) ?_
  refine Ca (Hc rfl) ?_
  refine Fb ?_
  refine Ha ?_
  refine Ja ?_
  refine Ja ?_
  refine Ea ?_
  refine Ca (Bf rfl) ?_
  refine Rb hF (Zx s hl (hG.ext hF.same)) (Ob TJ rfl rfl) ?_
  clear hF; intro w hF
  refine Fb ?_
  refine Ha ?_
  refine Ik rfl rfl (fun hc0 => ?_) (fun hc0 => ?_)
  ·
    refine Ja ?_
    refine Ea ?_
    refine Ca (Bf rfl) ?_
    refine Ca (M7 underlying9 rfl) ?_
    refine Ca (Pc rfl) ?_
    refine Ca (Hc rfl) ?_
    refine Fb ?_
    refine Ha ?_
    refine Xb (Wb (Va (Od (v := .int .i64 ((((s) : Str).length : Int))) (x := .bool true) rfl rfl rfl) ?_))
    exact ⟨_, by rw [hc0], hF.same⟩
  ·
    refine Cb ?_
    refine Ha ?_
    refine Ja ?_
    refine Ja ?_
    refine Ea ?_
    refine Ca (Bf rfl) ?_
    refine Js (str := s) hF underlying9 rfl ?_
    clear hF; intro b1 w hb1 hF hE
    clear hE
    refine Fb ?_
    refine Ha ?_
    refine Ya ?_
    refine Uc (fun μ σ w => ∃ (q : Nat), μ = s.length - q ∧ (q ≤ s.length) ∧ (Lib.validD (s.drop q) = false) ∧ AllEq σ [(0, .string (bs s)), (13, .pointer (some ⟨b1, 0, none⟩))] ∧ FR w0 [] [(b1, .stringIter (bs s) (q))] w) _ ⟨0, rfl, (Nat.zero_le _), (by simpa using hc0), TE, hF⟩ ?_
    clear hF; rintro μ σ w ⟨q, rfl, hq, hv, hs, hF⟩
    refine Cg.slots hs ?_
    clear hs; intro σ
    refine Ja ?_
    refine Ea ?_
    by_cases hn0 : (q) < (s : Str).length
    ·
      refine Fv 0 (p := q) (str := s) hF rfl rfl hn0 ?_
      clear hF; intro w hF hE
      clear hE
      replace hF : FR w0 [] [(b1, .stringIter (bs s) (q + (Utf8.decode (bs s) (q)).2))] w := hF
      refine Ca (Wp rfl rfl) ?_
      refine Fb ?_
      refine Ha ?_
      refine Ja ?_
      refine Rd rfl ?_
      refine Cb ?_
      refine Ha ?_
      refine Ya ?_
      refine Ja ?_
      refine Ea ?_
      refine Ca (Mt rfl rfl) ?_
      refine Ca (Mt rfl rfl) ?_
      refine Ca (Pc rfl) ?_
      refine Ca (Pc rfl) ?_
      refine Fb ?_
      refine Ha ?_
      refine Ja ?_
      refine Ja ?_
      refine Ea ?_
      refine Ca (Hb rfl) ?_
      refine Ca (D6 rfl rfl) ?_
      refine Fb ?_
      refine Ha ?_
      refine Kc rfl rfl (fun hc2 => ?_) (fun hc2 => ?_)
      ·
        refine Lc (Jc rfl ?_)
        have h1 := Ff s q
        have hw : ¬ ((Utf8.decode (bs s) q).1 = 65533 ∧ (Utf8.decode (bs s) q).2 = 1) := by
          first
          | (intro hh; omega)
          | (rw [Fq s q by_Om] at hc3; intro hh; omega)
        refine Dc ⟨_, ?_, q + (Utf8.decode (bs s) q).2, rfl, (Jx s q by_Om), (Sx s q by_Om hv hw), TE, hF⟩
        omega
      ·
        refine Cb ?_
        refine Ha ?_
        refine Ja ?_
        refine Ea ?_
        refine Ca (Bf rfl) ?_
        refine Ca (Hb rfl) ?_
        refine Ia (v := .string (bs ((s : Str).drop (q)))) (C4 (q) underlying9 rfl rfl by_Om) ?_
        refine Rb hF (U1 (s.drop q) (hG.ext hF.same)) (Ob FJ rfl rfl) ?_
        clear hF; intro w hF
        refine Ca (Gn rfl) ?_
        refine Ca (Mt rfl rfl) ?_
        refine Ca (Mt rfl rfl) ?_
        refine Ca (Pc rfl) ?_
        refine Ca (Pc rfl) ?_
        refine Fb ?_
        refine Ha ?_
        refine Ja ?_
        refine Ea ?_
        refine Ca (Hb rfl) ?_
        refine Ca (Ho rfl rfl) ?_
        refine Fb ?_
        refine Ha ?_
        refine Kc rfl rfl (fun hc3 => ?_) (fun hc3 => ?_)
        ·
          refine Ja ?_
          refine Ea ?_
          refine Ca (Hb rfl) ?_
          refine Ca (Pc rfl) ?_
          refine Ca (Hc rfl) ?_
          refine Fb ?_
          refine Ha ?_
          refine Xb (Wb (Va (Od (v := .int .i64 (((q : Nat) : Int))) (x := .bool false) rfl rfl rfl) ?_))
          exact ⟨_, by rw [hc0], hF.same⟩
        ·
          refine Cb ?_
          refine Kb ?_
          have h1 := Ff s q
          have hw : ¬ ((Utf8.decode (bs s) q).1 = 65533 ∧ (Utf8.decode (bs s) q).2 = 1) := by
            first
            | (intro hh; omega)
            | (rw [Fq s q by_Om] at hc3; intro hh; omega)
          refine Dc ⟨_, ?_, q + (Utf8.decode (bs s) q).2, rfl, (Jx s q by_Om), (Sx s q by_Om hv hw), TE, hF⟩
          omega
    ·
      refine Vn 0 (p := q) (str := s) hF rfl rfl hn0 ?_
      refine Ca (Wp rfl rfl) ?_
      refine Fb ?_
      refine Ha ?_
      refine Ja ?_
      refine Qg rfl ?_
      refine Lc (Jc rfl ?_)
      refine Ha ?_
      refine Ja ?_
      refine Ea ?_
      refine Ca (Bf rfl) ?_
      refine Ca (M7 underlying9 rfl) ?_
      refine Ca (Pc rfl) ?_
      refine Ca (Hc rfl) ?_
      refine Fb ?_
      refine Ha ?_
      refine Xb (Wb (Va (Od (v := .int .i64 ((((s) : Str).length : Int))) (x := .bool true) rfl rfl rfl) ?_))
      have e : s.drop q = [] := List.drop_eq_nil_of_le by_Om
      rw [e] at hv; cases hv
theorem J_ (s : Str) (hl : s.length ≤ 140737488355328) (w0 : World) (hG : Gl w0) : Calls prog 73 #[.string (bs s)] w0 (Md fun v w' => v = .bool (Lib.validD s) ∧ Same [] w0 w') := by
 refine Ka func73 rfl ntmps73 Gb (Dd _) ?_
 have hF := FR.start w0 []
 refine Ma (Ca (Hc rfl) (Cc (Ca (Bf rfl) ?_)))
 refine Eb (H_ s hl _ (hG.ext hF.same)) (Ob UH rfl rfl) ?_
 rintro _ w ⟨n, rfl, hE⟩
 replace hF := hF.ext hE
 clear hE
 refine Ca (Gn rfl) (Ca (Mt rfl rfl) (Ca (Wp rfl rfl) (Ca (Pc rfl) (Ca (Hc rfl) (Cc (Ca (Kd rfl) (Ca (Hc rfl) (Fa ?_))))))))
 refine Ie (v := .bool _) rfl rfl ?_
 exact ⟨rfl, hF.same⟩
theorem Xz (s : Str) (hl : s.length ≤ 140737488355328) (w0 : World) (hG : Gl w0) : Calls prog 72 #[.string (bs s)] w0 (Md fun v w' => v = .tuple #[Qn (Jf s).1, .bool (Wm s)] ∧ Same [] w0 w') := by
 refine Ka func72 rfl ntmps72 Gb (Dd _) ?_
 have hF := FR.start w0 []
 refine Ma ?_
 refine Lh (cs := #[.bool false, .string (bs []), .int .i64 0]) hF zeroValue71 rfl ?_
 clear hF; rintro b1 w hb1 hF -
 refine Ca (Hc rfl) (Cc (Ca (Bf rfl) ?_))
 refine Rb hF (E_ s hl _) (Ob WH rfl rfl) ?_
 clear hF; intro w hF
 refine Ca (Gn rfl) (Ca (LK rfl rfl) (Ca (Mt rfl rfl) ?_))
 refine Rm hF zeroValue71 sizeOf71 rfl ?_
 clear hF; rintro b2 w hb2 hF -
 refine Ca (Pc rfl) (Fa (Ja ?_))
 refine Yc [] (.free 0 (.free 1 (.free 2 (.free 3 (.free 4 (.free 6 (.act 5 (.free 7 (.free 8 (.act 9 (.free 10 .nil))))))))))) hF ?_
 clear hF; rintro w hF -
 refine ⟨fun wq => FR w0 [] [(b2, .cells #[.bool ((Jf s).1.neg), .string (bs ((Jf s).1.digits)), .int .i64 ((Jf s).1.exp)] 71)] wq, hF.sub (.cons_cons _ (.cons _ .slnil)), ?_⟩
 refine Jo rfl (El isAgg71 sizeOf71 rfl C0 0 rfl rfl) (Xa rfl (Hb rfl) (Xa rfl (Ho rfl rfl) (Xa rfl (Kd rfl) ?_)))
 refine Lg (d := 14) rfl (fun hg0 => ?_) (fun hg0 => ?_)
 refine Jo rfl (El isAgg71 sizeOf71 rfl C0 0 rfl rfl) (Xa rfl (Bf rfl) ?_)
 refine Vp hF (ED (Jf s).1 (by have := Rq s; omega) _ (hG.ext hF.same)) rfl (Ob LH rfl rfl) ?_
 clear hF; intro w hF
 refine ⟨hF.sub (.cons_cons _ (.cons _ .slnil)), ?_⟩
 refine Xa rfl (G6 rfl rfl) (Xa rfl (Rc rfl rfl) ?_)
 refine Sr rfl hF sizeOf71 rfl rfl V2 ?_
 clear hF; rintro w hF -
 refine ⟨hF.sub (.cons_cons _ (.cons _ .slnil)), ?_⟩
 refine Xa rfl (Hc rfl) (Ac (Ha ?_))
 refine Xb (Wb (Va (Be rfl (l := [.bool ((Jf s).1.neg), .string (bs ((Jf s).1.digits)), .int .i64 ((Jf s).1.exp)]) rfl isAgg71 sizeOf71 rfl (hF.cellsAll 1 rfl) (v := .bool (decide ((Eo (Jf s).1 : Str) = s))) rfl) ?_))
 exact ⟨by simp_all [Wm, Qn], hF.same⟩
 refine Sa rfl ?_
 refine Sa rfl ?_
 refine OJ rfl ?_ (hF.sub (.cons_cons _ (.cons _ .slnil)))
 refine Sa rfl ?_
 refine Xa rfl (Fd rfl rfl) ?_
 refine Sr rfl hF sizeOf71 rfl rfl V2 ?_
 clear hF; rintro w hF -
 refine ⟨hF.sub (.cons_cons _ (.cons _ .slnil)), ?_⟩
 refine Xa rfl (Hc rfl) (Ac (Ha ?_))
 refine Xb (Wb (Va (Be rfl (l := [.bool ((Jf s).1.neg), .string (bs ((Jf s).1.digits)), .int .i64 ((Jf s).1.exp)]) rfl isAgg71 sizeOf71 rfl (hF.cellsAll 1 rfl) (v := .bool false) rfl) ?_))
 exact ⟨by simp_all [Wm, Qn], hF.same⟩
theorem TI (s : Str) (hl : s.length ≤ 140737488355328) (w0 : World) (hG : Gl w0) : Calls prog 74 #[.string (bs s)] w0 (Md fun v w' => v = .bool (H3 s) ∧ Same [] w0 w') := by
 refine Ka func74 rfl ntmps74 Gb (Dd _) ?_
 have hF := FR.start w0 []
 refine Ma (Ca (Hc rfl) (Cc (Ca (Bf rfl) ?_)))
 refine Rb hF (Xz s hl _ (hG.ext hF.same)) (Ob SH rfl rfl) ?_
 clear hF; intro w hF
 refine Ca (Gn rfl) (Ca (LK rfl rfl) (Ca (Wp rfl rfl) ?_))
 refine Rm hF zeroValue71 sizeOf71 rfl ?_
 clear hF; rintro b1 w hb1 hF -
 refine Ca (Hc rfl) (Cc (Vd (El isAgg71 sizeOf71 rfl hF.F 0 rfl rfl) ?_))
 refine Rb hF (VE (Jf s).1 (by have := Rq s; omega) _ (hG.ext hF.same)) (Ob ML rfl rfl) ?_
 clear hF; intro w hF
 refine Ca (Gn rfl) (Ca (Mt rfl rfl) (Ca (Wp rfl rfl) (Ca (Pc rfl) (Ca (Hc rfl) (Cc (Ca (Kd rfl) (Ca (Kd rfl) ?_)))))))
 refine Pf (d := 18) rfl (fun hg0 => ?_) (fun hg0 => ?_)
 refine Ca (Kd rfl) (Ca (Rc rfl rfl) (Ca (Kd rfl) ?_))
 refine Pf (d := 21) rfl (fun hg1 => ?_) (fun hg1 => ?_)
 refine Ca (Hb rfl) (Ca (X8 rfl rfl) (Ca (Rc rfl rfl) (Ca (Hc rfl) (Fa ?_))))
 refine Ie (v := .bool _) rfl rfl ?_
 exact ⟨by simp_all [H3], hF.same⟩
 refine Ra (Ra (Ca (Fd rfl rfl) (Ca (Hc rfl) (Fa ?_))))
 refine Ie (v := .bool false) rfl rfl ?_
 exact ⟨by simp_all [H3], hF.same⟩
 refine Ra (Ca (Fd rfl rfl) (Ca (Kd rfl) (Ra (Ra (Ca (Fd rfl rfl) (Ca (Hc rfl) (Fa ?_)))))))
 refine Ie (v := .bool false) rfl rfl ?_
 exact ⟨by simp_all [H3], hF.same⟩
end Go.Scarf
namespace Go.Scarf
open Go.RowKit Go.Proofs Go.Proofs.Tryz
def Zm (ks : List Str) (n : Int) : Bool := decide ks.Nodup && ks.all Lib.validD && decide ((ks.length : Int) = n)
def Ks (ks : List Str) : MapL := ks.map fun k => (k, .bool true)
theorem Vx (ks : List Str) (k : Str) : Qh (Ks ks) k = if k ∈ ks then some (.bool true) else none := by
  induction ks with
  | nil => rfl
  | cons a r ih =>
    have e : Ks (a :: r) = [(a, .bool true)] ++ Ks r := rfl
    rw [e, N2, ih]
    by_cases h : a = k
    · subst h; simp [Qh]
    · have h' : ¬ k = a := fun e => h e.symm
      simp [Qh, h, h']
theorem F7 (ks : List Str) (j : Nat) (h : j < ks.length) : Ks (ks.take j) ++ [(ks[j], .bool true)] = Ks (ks.take (j + 1)) := by
  unfold Ks; rw [List.take_succ_eq_append_getElem h, List.map_append]; rfl
theorem Av {ks : List Str} {j : Nat} (h : j < ks.length) (hn : (ks.take j).Nodup) (hi : ¬ ks[j] ∈ ks.take j) : (ks.take (j + 1)).Nodup := by
  rw [List.take_succ_eq_append_getElem h, List.nodup_append]
  refine ⟨hn, by simp, ?_⟩
  intro a ha b hb e
  simp only [List.mem_singleton] at hb
  subst e; subst hb; exact hi ha
theorem Xs {ks : List Str} {j : Nat} (h : j < ks.length) (hi : ks[j] ∈ ks.take j) : ¬ ks.Nodup := by
  intro hn
  obtain ⟨i, hi', he⟩ := List.getElem_of_mem hi
  rw [List.getElem_take] at he
  have hi2 : i < j := by rw [List.length_take] at hi'; omega
  have := (List.pairwise_iff_getElem.1 hn) i j by_Om h hi2
  exact this he
theorem Qy {f : Str → Bool} {ks : List Str} {j : Nat} (h : j < ks.length) (ha : (ks.take j).all f = true) (hv : f ks[j] = true) : (ks.take (j + 1)).all f = true := by
  rw [List.take_succ_eq_append_getElem h, List.all_append, ha]; simp [hv]
theorem XF {f : Str → Bool} {ks : List Str} {j : Nat} (h : j < ks.length) (hv : f ks[j] = false) : ks.all f = false := by
  rw [Bool.eq_false_iff]; intro ha
  have := List.all_eq_true.1 ha ks[j] (List.getElem_mem h)
  rw [hv] at this; cases this
theorem RG (ks : List Str) (n : Int) (S : Nat → Prop) (A : Option Addr) (c : Nat) (hl : ∀ k ∈ ks, k.length ≤ 140737488355328) (w0 : World) (hG : Gl w0) (hX : Rep S w0 (Qf ks) [.slice A ks.length c]) : Calls prog 71 #[.slice A ks.length c, .int .i64 n] w0 (Md fun v w' => v = .bool (Zm ks n) ∧ Same [] w0 w') := by
 have hXl := hX.slice_len
 refine Ka func71 rfl ntmps71 Gb (Sd _ _) ?_
 have hF := FR.start w0 []
 refine Ma (Ca (Hc rfl) (Cc (Ca (Pd rfl) (Ca (Lf underlying25 rfl) ?_))))
 refine So (v := fun b => .map (some b)) hF (O0 underlying121 rfl) ?_
 clear hF; rintro b1 w hb1 hF -
 refine Ca (Zy) (Fa (Ja (Ma (Ca (Pd rfl) (Ca (Lf underlying25 rfl) (Ca (Hb rfl) (Fa (Ya ?_))))))))
 replace hF : FR w0 [] [(b1, Rj (Ks (ks.take 0)))] w := hF
 refine Uc (fun μ σ w => ∃ (j : Nat), μ = ks.length - j ∧ (j ≤ ks.length) ∧ ((ks.take j).Nodup) ∧ ((ks.take j).all Lib.validD = true) ∧ AllEq σ [(0, .slice A ks.length c), (1, .int .i64 n), (5, .map (some b1)), (11, .slice A ks.length c), (12, .int .i64 ((ks.length : Nat))), (13, .int .i64 ((j : Int)))] ∧ FR w0 [] [(b1, Rj (Ks (ks.take j)))] w) _ ⟨0, rfl, (Nat.zero_le _), Ga, Ga, LB, hF⟩ ?_
 clear hF; rintro μ σ w ⟨j, rfl, hj, hd, hv, hs, hF⟩
 refine Cg.slots hs ?_
 clear hs; intro σ
 refine Ma (Ca (Yk rfl rfl) (Fa (Ja ?_)))
 refine Kc rfl rfl (fun hc0 => ?_) (fun hc0 => ?_)
 refine Cb (Ha (Ja (Ya (Ma ?_))))
 obtain ⟨ad0, hA0, hk0, hx0⟩ := hX.str_elem (i := j) by_Om
 refine Ia (v := .pointer (some (ad0.add (j * 1)))) (Pa (i := (j : Int)) Wx rfl hA0 rfl by_Om by_Om) (Ia (v := .string (bs (ks[j]))) (Wa isAgg9 rfl (hF.cell0 hk0)) (Ca (Zi rfl) (Fa (Ja (Ma (Ca (F6) (Ca (Bf rfl) ?_)))))))
 refine Ia (v := .bool (decide (ks[j] ∈ ks.take j))) (Uy underlying121 underlying9 zeroValue4 rfl rfl (hF.heap (i := 0) rfl) (by rw [Vx]; split <;> rename_i hh <;> simp only [hh, decide_true, decide_false] <;> rfl)) ?_
 refine Ca (Kd rfl) ?_
 refine Gd (d := 20) rfl (fun hg1 => ?_) (fun hg1 => ?_)
 refine Ra (Ra (Ra (Ca (Rc rfl rfl) (Fa (Rd rfl (Ma (Ca (Hc rfl) (Fa ?_))))))))
 refine Ie (v := .bool false) rfl rfl ?_
 have := Xs (ks := ks) (j := j) by_Om (by assumption)
 exact ⟨congrArg Value.bool (by unfold Zm; rw [decide_eq_false this]; rfl), hF.same⟩
 refine Ca (Bf rfl) ?_
 refine Rb hF (J_ ks[j] (hl _ (List.getElem_mem _)) _ (hG.ext hF.same)) (Ob DI rfl rfl) ?_
 clear hF; intro w hF
 refine Ca (On rfl) (Ca (Fd rfl rfl) (Fa ?_))
 refine Ik rfl rfl (fun hc1 => ?_) (fun hc1 => ?_)
 refine Ma (Ca (Hc rfl) (Fa ?_))
 refine Ie (v := .bool false) rfl rfl ?_
 have := XF (f := Lib.validD) (ks := ks) (j := j) by_Om (by simpa using hc1)
 exact ⟨congrArg Value.bool (by unfold Zm; rw [this, Bool.and_false]; rfl), hF.same⟩
 refine Cb (Ha (Ea (Ca (F6) (Ca (Bf rfl) ?_))))
 refine Pu 0 (v := .bool true) hF underlying121 underlying9 rfl rfl rfl rfl (by rw [Vx, if_neg (by assumption)]) ?_
 clear hF; rintro w hF -
 rw [F7 ks j by_Om] at hF
 replace hF : FR w0 [] [(b1, Rj (Ks (ks.take (j + 1))))] w := hF
 refine Fb (Kb (Ha (Ea (Ca (To rfl rfl) (Ca (Hb rfl) (Fb ?_))))))
 refine Dc ⟨_, ?_, j + 1, rfl, by_Om, (Av by_Om hd (by assumption)), (Qy by_Om hv (by simpa using hc1)), LB, hF⟩
 omega
 refine Lc (Jc rfl ?_)
 refine Ha (Ma (Ca (Pd rfl) (Ca (Lf underlying25 rfl) (Ca (Hb rfl) (Ca (Ho rfl rfl) (Ca (Hc rfl) (Fa ?_)))))))
 refine Ie (v := .bool _) rfl rfl ?_
 obtain rfl : j = ks.length := by omega
 rw [List.take_length] at hd hv
 exact ⟨congrArg Value.bool (by unfold Zm; rw [hv, decide_eq_true hd]; rfl), hF.same⟩
end Go.Scarf
namespace Go.Scarf
open Go.RowKit Go.Proofs Go.Proofs.Tryz
mutual
def Xx : Tree → Prop | .node _ t ks xs => t.length ≤ 140737488355328 ∧ (∀ k ∈ ks, k.length ≤ 140737488355328) ∧ Cy xs
def Cy : List Tree → Prop | [] => True | x :: xs => Xx x ∧ Cy xs
end
theorem Hp : ∀ {xs : List Tree}, Cy xs → ∀ x ∈ xs, Xx x
  | [], _, _, h => absurd h Ga
  | y :: ys, h, x, hx => by
    rw [Cy] at h
    rcases List.mem_cons.1 hx with rfl | hx
    · exact h.1
    · exact Hp h.2 x hx
def nodeB : Tree → Bool
  | .node k t ks xs =>
    if k = 5 then decide (ks = []) && decide (t = []) else
    if k = 6 then Zm ks xs.length && decide (t = []) else
    if ks ≠ [] ∨ xs ≠ [] then false else
    if k = 1 then decide (t = []) else
    if k = 2 then decide (t = [116, 114, 117, 101]) || decide (t = [102, 97, 108, 115, 101]) else
    if k = 3 then Wm t else if k = 4 then Lib.validD t else if k = 7 then H3 t else false
def Nz (g : Nat) (q : Tree → Bool) : Prop := ∀ (x : Tree) (S : Nat → Prop) (w0 : World) (cs : List Value), Rep S w0 (Ed x) cs → Xx x → Gl w0 → Calls prog g #[.agg cs.toArray] w0 (Md fun v w' => v = .bool (q x) ∧ Same [] w0 w')
theorem DF  : Nz 50 nodeB := by
 rintro ⟨k, t, ks, xs⟩ S w0 cs hR hk hG
 obtain ⟨A, c, B, e, rfl, -, -, hK, hX⟩ := hR.tree_inv
 rw [Xx] at hk
 refine Ka func50 rfl ntmps50 Gb (Dd _) ?_
 have hF := FR.start w0 []
 refine Ma ?_
 refine Kk hF rfl ?_
 clear hF; rintro b1 w hb1 hF -
 refine Ca (Hc rfl) (Fa (Ja ?_))
 refine Hg (zs := []) (.free 0 (.free 1 (.free 2 (.free 3 (.free 4 (.free 5 (.free 6 (.free 7 (.free 8 (.free 9 .nil)))))))))) hF ?_
 clear hF; intro w hF
 refine Xa rfl (Gc Fm rfl) (Jo rfl (Ij isAgg25 rfl C0 0 rfl rfl) (Xa rfl (Lf underlying25 rfl) (Xa rfl (Ey rfl rfl) (Xa rfl (Gc Xe rfl) (Jo rfl (Ij isAgg22 rfl C0 0 rfl rfl) (Xa rfl (Lf underlying22 rfl) (Xa rfl (Ey rfl rfl) (Xa rfl (Hc rfl) (Xa rfl (Hc rfl) (Ac (Ha (Ja (Ja ?_)))))))))))))
 refine Ea (Ca (Gc An rfl) (Vd (At isAgg3 rfl hF.F 0 rfl rfl) (Fa (Ya (Ma (Ca (Ho rfl rfl) (Ca (Hc rfl) (Fa ?_))))))))
 refine Kc rfl rfl (fun hc0 => ?_) (fun hc0 => ?_)
 refine Ma (Ca (Kd rfl) (Ca (HN rfl) (Ca (Kd rfl) ?_)))
 refine Gd (d := 21) rfl (fun hg0 => ?_) (fun hg0 => ?_)
 refine Ca (Gc Wi rfl) (Vd (Yx isAgg9 rfl hF.F 0 rfl rfl) (Ca (G6 rfl rfl) (Ca (Rc rfl rfl) (Ca (Hc rfl) (Fa ?_)))))
 refine Ie (v := .bool _) rfl rfl ?_
 refine ⟨?_, hF.same⟩
 clear hF hR hK hX hb1
 simp_all [nodeB, List.length_pos_iff]
 refine Ra (Ra (Ra (Ca (Fd rfl rfl) (Ca (Hc rfl) (Fa ?_)))))
 refine Ie (v := .bool false) rfl rfl ?_
 refine ⟨?_, hF.same⟩
 clear hF hR hK hX hb1
 simp_all [nodeB, List.length_pos_iff]
 refine Ma (Ca (Ho rfl rfl) (Ca (Hc rfl) (Fa ?_)))
 refine Kc rfl rfl (fun hc1 => ?_) (fun hc1 => ?_)
 refine Ma (Ca (Gc Fm rfl) (Vd (Ij isAgg25 rfl hF.F 0 rfl rfl) (Ca (Gc Xe rfl) (Vd (Ij isAgg22 rfl hF.F 0 rfl rfl) (Ca (Lf underlying22 rfl) ?_)))))
 refine Rb hF (RG ks (xs.length : Nat) S A c (by simpa using hk.2.1) _ (hG.ext hF.same) (hF.rep hK)) (Mb BM rfl rfl rfl) ?_
 clear hF; intro w hF
 refine Ca (Kd rfl) ?_
 refine Pf (d := 34) rfl (fun hg1 => ?_) (fun hg1 => ?_)
 refine Ca (Gc Wi rfl) (Vd (Yx isAgg9 rfl hF.F 0 rfl rfl) (Ca (G6 rfl rfl) (Ca (Rc rfl rfl) (Ca (Hc rfl) (Fa ?_)))))
 refine Ie (v := .bool _) rfl rfl ?_
 refine ⟨?_, hF.same⟩
 clear hF hR hK hX hb1
 simp_all [nodeB, List.length_pos_iff]
 refine Ra (Ra (Ra (Ca (Fd rfl rfl) (Ca (Hc rfl) (Fa ?_)))))
 refine Ie (v := .bool false) rfl rfl ?_
 refine ⟨?_, hF.same⟩
 clear hF hR hK hX hb1
 simp_all [nodeB, List.length_pos_iff]
 refine Cb (Kb (Ha (Ja (Ma (Ca (Kd rfl) (Ca (Kd rfl) ?_))))))
 refine Gd (d := 40) rfl (fun hg2 => ?_) (fun hg2 => ?_)
 refine Ra (Ca (Rc rfl rfl) (Fa (Rd rfl (Ma (Ca (Hc rfl) (Fa ?_))))))
 refine Ie (v := .bool false) rfl rfl ?_
 refine ⟨?_, hF.same⟩
 clear hF hR hK hX hb1
 simp_all [nodeB, List.length_pos_iff]
 refine Ca (Kd rfl) (Ca (Fd rfl rfl) (Fa ?_))
 refine Kc rfl rfl (fun hc2 => ?_) (fun hc2 => ?_)
 refine Ma (Ca (Hc rfl) (Fa ?_))
 refine Ie (v := .bool false) rfl rfl ?_
 refine ⟨?_, hF.same⟩
 clear hF hR hK hX hb1
 simp_all [nodeB, List.length_pos_iff]
 refine Cb (Ha (Ja (Ma (Ca (Gc An rfl) (Vd (At isAgg3 rfl hF.F 0 rfl rfl) (Fa (Ya (Ma (Ca (Ho rfl rfl) (Ca (Hc rfl) ?_))))))))))
 refine Fa ?_
 refine Kc rfl rfl (fun hc3 => ?_) (fun hc3 => ?_)
 refine Ma (Ca (Gc Wi rfl) (Vd (Yx isAgg9 rfl hF.F 0 rfl rfl) (Ca (G6 rfl rfl) (Ca (Hc rfl) (Fa ?_)))))
 refine Ie (v := .bool _) rfl rfl ?_
 refine ⟨?_, hF.same⟩
 clear hF hR hK hX hb1
 simp_all [nodeB, List.length_pos_iff]
 refine Ma (Ca (Ho rfl rfl) (Ca (Hc rfl) (Fa ?_)))
 refine Kc rfl rfl (fun hc4 => ?_) (fun hc4 => ?_)
 refine Ma (Ca (Gc Wi rfl) (Vd (Yx isAgg9 rfl hF.F 0 rfl rfl) (Ca (G6 rfl rfl) (Ca (Kd rfl) ?_))))
 refine Gd (d := 55) rfl (fun hg3 => ?_) (fun hg3 => ?_)
 refine Ra (Ra (Ra (Ca (Rc rfl rfl) (Ca (Hc rfl) (Fa ?_)))))
 refine Ie (v := .bool true) rfl rfl ?_
 refine ⟨?_, hF.same⟩
 clear hF hR hK hX hb1
 simp_all [nodeB, List.length_pos_iff]
 refine Ca (Gc Wi rfl) (Vd (Yx isAgg9 rfl hF.F 0 rfl rfl) (Ca (G6 rfl rfl) (Ca (Fd rfl rfl) (Ca (Hc rfl) (Fa ?_)))))
 refine Ie (v := .bool _) rfl rfl ?_
 refine ⟨?_, hF.same⟩
 clear hF hR hK hX hb1
 simp_all [nodeB, List.length_pos_iff]
 refine Ma (Ca (Ho rfl rfl) (Ca (Hc rfl) (Fa ?_)))
 refine Kc rfl rfl (fun hc5 => ?_) (fun hc5 => ?_)
 refine Ma (Ca (Gc Wi rfl) (Vd (Yx isAgg9 rfl hF.F 0 rfl rfl) ?_))
 refine Rb hF (Xz t hk.1 _ (hG.ext hF.same)) (Ob SH rfl rfl) ?_
 clear hF; intro w hF
 refine Ca (Gn rfl) (Ca (LK rfl rfl) (Ca (Wp rfl rfl) ?_))
 refine Rm hF zeroValue71 sizeOf71 rfl ?_
 clear hF; rintro b2 w hb2 hF -
 refine Ca (Hc rfl) (Cc (Ca (Kd rfl) (Ca (Hc rfl) (Fa ?_))))
 refine Ie (v := .bool _) rfl rfl ?_
 refine ⟨?_, hF.same⟩
 clear hF hR hK hX hb1
 simp_all [nodeB, List.length_pos_iff]
 refine Ma (Ca (Ho rfl rfl) (Ca (Hc rfl) (Fa ?_)))
 refine Kc rfl rfl (fun hc6 => ?_) (fun hc6 => ?_)
 refine Ma (Ca (Gc Wi rfl) (Vd (Yx isAgg9 rfl hF.F 0 rfl rfl) ?_))
 refine Rb hF (J_ t hk.1 _ (hG.ext hF.same)) (Ob DI rfl rfl) ?_
 clear hF; intro w hF
 refine Ca (Hc rfl) (Fa ?_)
 refine Ie (v := .bool _) rfl rfl ?_
 refine ⟨?_, hF.same⟩
 clear hF hR hK hX hb1
 simp_all [nodeB, List.length_pos_iff]
 refine Ma (Ca (Ho rfl rfl) (Ca (Hc rfl) (Fa ?_)))
 refine Kc rfl rfl (fun hc7 => ?_) (fun hc7 => ?_)
 refine Ma (Ca (Gc Wi rfl) (Vd (Yx isAgg9 rfl hF.F 0 rfl rfl) ?_))
 refine Rb hF (TI t hk.1 _ (hG.ext hF.same)) (Ob YL rfl rfl) ?_
 clear hF; intro w hF
 refine Ca (Hc rfl) (Fa ?_)
 refine Ie (v := .bool _) rfl rfl ?_
 refine ⟨?_, hF.same⟩
 clear hF hR hK hX hb1
 simp_all [nodeB, List.length_pos_iff]
 refine Cb (Kb (Ha (Ma (Ca (Hc rfl) (Fa ?_)))))
 refine Ie (v := .bool false) rfl rfl ?_
 refine ⟨?_, hF.same⟩
 clear hF hR hK hX hb1
 simp_all [nodeB, List.length_pos_iff]
end Go.Scarf
namespace Go.Scarf
open Go.RowKit Go.Proofs Go.Proofs.Tryz
theorem Tree.ind {Q : Tree → Prop} (h : ∀ k t ks xs, (∀ x, x ∈ xs → Q x) → Q (.node k t ks xs)) (x : Tree) : Q x :=
  Tree.rec (motive_1 := Q) (motive_2 := fun xs => ∀ x, x ∈ xs → Q x) (fun k t ks xs ih => h k t ks xs ih) Ga
    (fun y ys h1 h2 => by
      intro z hz
      rcases List.mem_cons.1 hz with rfl | hz
      · exact h1
      · exact h2 z hz) x
mutual
def Qc : Tree → Nat | .node _ _ _ xs => 1 + Vc xs
def Vc : List Tree → Nat | [] => 0 | x :: xs => Qc x + Vc xs
end
mutual
def Hd : Tree → Nat | .node _ _ _ xs => Xc xs + 1
def Xc : List Tree → Nat | [] => 0 | x :: xs => max (Hd x) (Xc xs)
end
theorem Iq : ∀ (xs ys : List Tree), Vc (xs ++ ys) = Vc xs + Vc ys
  | [], ys => by simp [Vc]
  | x :: xs, ys => by simp [Vc, Iq xs ys, Nat.add_assoc]
theorem Qo : ∀ (xs ys : List Tree), Xc (xs ++ ys) = max (Xc xs) (Xc ys)
  | [], ys => by simp [Xc]
  | x :: xs, ys => by simp only [List.cons_append, Xc, Qo xs ys]; omega
theorem K4 (xs : List Tree) (j : Nat) (hj : j < xs.length) : Vc (xs.take (j+1)) = Vc (xs.take j) + Qc xs[j] := by
  rw [List.take_succ_eq_append_getElem hj, Iq]; simp [Vc]
theorem M1 (xs : List Tree) (j : Nat) (hj : j < xs.length) : Xc (xs.take (j+1)) = max (Xc (xs.take j)) (Hd xs[j]) := by
  rw [List.take_succ_eq_append_getElem hj, Qo]; simp [Xc]
theorem Qj : ∀ {xs : List Tree} {x : Tree}, x ∈ xs → Qc x ≤ Vc xs
  | [], _, h => absurd h Ga
  | y :: ys, x, h => by
    rw [Vc]
    rcases List.mem_cons.1 h with rfl | h
    · omega
    · have := Qj h; omega
theorem MA (x : Tree) : 1 ≤ Qc x := by cases x; rw [Qc]; omega
theorem En : ∀ (xs : List Tree), xs.length ≤ Vc xs
  | [] => by simp [Vc]
  | x :: xs => by have := En xs; have := MA x; simp only [Vc, List.length_cons]; omega
theorem WD (x : Tree) : Hd x ≤ Qc x := by
  refine Tree.ind (Q := fun x => Hd x ≤ Qc x) (fun k t ks xs ih => ?_) x
  have : Xc xs ≤ Vc xs := by
    induction xs with
    | nil => simp [Xc, Vc]
    | cons y ys ihy =>
      have h1 := ih y Ga
      have h2 := ihy (fun z hz => ih z (by simp [hz]))
      simp only [Xc, Vc]; omega
  simp only [Hd, Qc]; omega
theorem P7 (xs : List Tree) : Xc xs ≤ Vc xs := by
  have := WD (.node 0 [] [] xs)
  simp only [Hd, Qc] at this; omega
def RE (x : Tree) : Prop := ∀ S w0 cs, Rep S w0 (Ed x) cs → Calls prog 67 #[.agg cs.toArray] w0 (Md fun v w' => v = .int .i64 (wr (Qc x)) ∧ Same [] w0 w')
theorem BB (k : Int) (t : Str) (ks : List Str) (xs : List Tree) (ih : ∀ x, x ∈ xs → RE x) : RE (.node k t ks xs) := by
 intro S w0 cs hR
 obtain ⟨A, c, B, e, rfl, -, -, -, hX⟩ := hR.tree_inv
 have hXl := hX.slice_len
 refine Ka func67 rfl ntmps67 Gb (Dd _) ?_
 have hF := FR.start w0 []
 refine Ma ?_
 refine Kk hF rfl ?_
 clear hF; rintro b1 w hb1 hF -
 refine Ca (Pc rfl) (Cc (Ca (Pc rfl) (Fa (Ja (Ma (Ca (Gc Xe rfl) (Vd (Ij isAgg22 rfl hF.F 0 rfl rfl) (Ca (Lf underlying22 rfl) ?_))))))))
 refine Ca (Hb rfl) (Fa (Ya ?_))
 refine Uc (fun μ σ w => ∃ (j : Nat), μ = xs.length - j ∧ (j ≤ xs.length) ∧ AllEq σ [(3, .int .i64 (wr (1 + Vc (xs.take j)))), (7, .slice B xs.length e), (8, .int .i64 ((xs.length : Nat))), (9, .int .i64 ((j : Int)))] ∧ FR w0 [] [(b1, .cells #[.int .i64 k, .string (bs t), .slice A ks.length c, .slice B xs.length e] 27)] w) _ ⟨0, rfl, (Nat.zero_le _), Dq, hF⟩ ?_
 clear hF; rintro μ σ w ⟨j, rfl, hj, hs, hF⟩
 refine Cg.slots hs ?_
 clear hs; intro σ
 refine Ma (Ca (Yk rfl rfl) (Fa (Ja ?_)))
 refine Kc rfl rfl (fun hc0 => ?_) (fun hc0 => ?_)
 refine Cb (Ha (Ja (Ya (Ma ?_))))
 obtain ⟨ad0, cs0, hA0, hl0, hk0, hx0⟩ := hX.tree_elem (i := j) by_Om
 have ho0 := hx0.one_
 refine Ia (v := .pointer (some (ad0.add (j * 4)))) (Pa (i := (j : Int)) Do rfl hA0 rfl by_Om by_Om) (Ia (v := .agg (List.toArray cs0)) (Ic (l := cs0) isAgg27 sizeOf27 rfl hl0 (hF.cells0 hk0)) ?_)
 refine Gu (l := cs0) hF zeroValue27 (by rw [hl0]; exact sizeOf27) (by rw [hl0]; rfl) (v := .agg (List.toArray cs0)) rfl rfl (ho0) rfl ?_
 clear hF; rintro b2 w hb2 hF -
 refine Fa (Ea (Ca (Hb rfl) (Ia (v := .agg (List.toArray cs0)) (Ic (l := cs0) isAgg27 sizeOf27 rfl hl0 (hF.cellsAll 0 rfl)) ?_)))
 refine Rb hF (ih _ (List.getElem_mem _) _ _ _ (hF.rep hx0)) (Ob HH rfl rfl) ?_
 clear hF; intro w hF
 refine Ia (v := .int .i64 (wr (1 + Vc (xs.take (j + 1))))) (Ou rfl rfl (by rw [QA, K4 xs j by_Om, Int.natCast_add, Int.add_assoc])) ?_
 refine Ca (Pc rfl) (Fb (Kb (Ha (Ea (Ca (To rfl rfl) (Ca (Hb rfl) (Fb ?_)))))))
 refine Dc ⟨_, ?_, j + 1, rfl, by_Om, Dq, hF.drop 1⟩
 omega
 refine Lc (Jc rfl ?_)
 refine Ha (Ma (Ca (Hb rfl) (Ca (Pc rfl) (Fa ?_))))
 refine Ie (v := .int .i64 (wr (1 + Vc (xs.take j)))) rfl rfl ?_
 obtain rfl : j = xs.length := by omega
 exact ⟨by simp [Qc], hF.same⟩
theorem UI (x : Tree) : RE x := Tree.ind BB x
def X7 (x : Tree) : Prop := Qc x ≤ 1000000000 → ∀ S w0 cs, Rep S w0 (Ed x) cs → Calls prog 68 #[.agg cs.toArray] w0 (Md fun v w' => v = .int .i64 (Hd x : Nat) ∧ Same [] w0 w')
theorem K8 (k : Int) (t : Str) (ks : List Str) (xs : List Tree) (ih : ∀ x, x ∈ xs → X7 x) : X7 (.node k t ks xs) := by
 intro hsz S w0 cs hR
 obtain ⟨A, c, B, e, rfl, -, -, -, hX⟩ := hR.tree_inv
 have hXl := hX.slice_len
 have hdl := P7 xs
 rw [Qc] at hsz
 refine Ka func68 rfl ntmps68 Gb (Dd _) ?_
 have hF := FR.start w0 []
 refine Ma ?_
 refine Kk hF rfl ?_
 clear hF; rintro b1 w hb1 hF -
 refine Ca (Pc rfl) (Cc (Ca (Pc rfl) (Fa (Ja (Ma (Ca (Gc Xe rfl) (Vd (Ij isAgg22 rfl hF.F 0 rfl rfl) (Ca (Lf underlying22 rfl) ?_))))))))
 refine Ca (Hb rfl) (Fa (Ya ?_))
 refine Uc (fun μ σ w => ∃ (j : Nat), μ = xs.length - j ∧ (j ≤ xs.length) ∧ AllEq σ [(3, .int .i64 ((Xc (xs.take j) : Nat))), (7, .slice B xs.length e), (8, .int .i64 ((xs.length : Nat))), (9, .int .i64 ((j : Int)))] ∧ FR w0 [] [(b1, .cells #[.int .i64 k, .string (bs t), .slice A ks.length c, .slice B xs.length e] 27)] w) _ ⟨0, rfl, (Nat.zero_le _), Dq, hF⟩ ?_
 clear hF; rintro μ σ w ⟨j, rfl, hj, hs, hF⟩
 refine Cg.slots hs ?_
 clear hs; intro σ
 refine Ma (Ca (Yk rfl rfl) (Fa (Ja ?_)))
 refine Kc rfl rfl (fun hc0 => ?_) (fun hc0 => ?_)
 refine Cb (Ha (Ja (Ya (Ma ?_))))
 obtain ⟨ad0, cs0, hA0, hl0, hk0, hx0⟩ := hX.tree_elem (i := j) by_Om
 have ho0 := hx0.one_
 refine Ia (v := .pointer (some (ad0.add (j * 4)))) (Pa (i := (j : Int)) Do rfl hA0 rfl by_Om by_Om) (Ia (v := .agg (List.toArray cs0)) (Ic (l := cs0) isAgg27 sizeOf27 rfl hl0 (hF.cells0 hk0)) ?_)
 refine Gu (l := cs0) hF zeroValue27 (by rw [hl0]; exact sizeOf27) (by rw [hl0]; rfl) (v := .agg (List.toArray cs0)) rfl rfl (ho0) rfl ?_
 clear hF; rintro b2 w hb2 hF -
 refine Fa (Ea (Ca (Hb rfl) (Ia (v := .agg (List.toArray cs0)) (Ic (l := cs0) isAgg27 sizeOf27 rfl hl0 (hF.cellsAll 0 rfl)) ?_)))
 refine Rb hF (ih _ (List.getElem_mem _) (by have := Qj (List.getElem_mem (l := xs) (n := j) by_Om); omega) _ _ _ (hF.rep hx0)) (Ob XH rfl rfl) ?_
 clear hF; intro w hF
 refine Ia (v := .int .i64 ((Xc (xs.take (j + 1)) : Nat))) (by rw [← show max ((Xc (xs.take j) : Nat) : Int) ((Hd xs[j] : Nat) : Int) = ((Xc (xs.take (j + 1)) : Nat) : Int) from by rw [M1 xs j by_Om]; omega]; exact PL rfl rfl) ?_
 refine Ca (Pc rfl) (Fb (Kb (Ha (Ea (Ca (To rfl rfl) (Ca (Hb rfl) (Fb ?_)))))))
 refine Dc ⟨_, ?_, j + 1, rfl, by_Om, Dq, hF.drop 1⟩
 omega
 refine Lc (Jc rfl ?_)
 refine Ha (Ma (Ca (Hb rfl) ?_))
 have eT : xs.take j = xs := List.take_of_length_le by_Om
 refine Ia (v := .int .i64 ((Hd (.node k t ks xs) : Nat))) (Ou rfl rfl (by rw [eT, Hd]; exact Xh by_Om by_Om by_Om)) ?_
 refine Ca (Pc rfl) (Fa ?_)
 refine Ie (v := .int .i64 ((Hd (.node k t ks xs) : Nat))) rfl rfl ?_
 exact ⟨rfl, hF.same⟩
theorem LG (x : Tree) : X7 x := Tree.ind K8 x
end Go.Scarf
namespace Go.Scarf
open Go.RowKit Go.Proofs Go.Proofs.Tryz
theorem Same.cell {w w' : World} {a : Addr} {v : Value} (h : Same [] w w') (hc : w.cell? a = some v) : w'.cell? a = some v := ((FR.start w []).ext h).cell0 hc
mutual
def Xd (q : Tree → Bool) : Tree → Bool | .node k t ks xs => q (.node k t ks xs) && Qm q xs
def Qm (q : Tree → Bool) : List Tree → Bool | [] => true | x :: xs => Xd q x && Qm q xs
end
theorem Vm (q : Tree → Bool) : ∀ xs : List Tree, Qm q xs = !(xs.any fun x => !Xd q x)
  | [] => rfl
  | x :: xs => by rw [Qm, Vm q xs]; simp
def EachC (w0 : World) (bb : Nat) (xs : List Tree) (q : Tree → Bool) : Prop := ∀ x, x ∈ xs → ∀ S w cs, Same [] w0 w → Rep S w (Ed x) cs → Calls prog 70 #[.agg cs.toArray, .pointer (some ⟨bb, 0, none⟩)] w (Md fun v w' => v = .bool (q x) ∧ Same [] w w')
theorem EachC.ext {w0 w : World} {bb : Nat} {xs : List Tree} {q : Tree → Bool} (h : EachC w0 bb xs q) (hs : Same [] w0 w) : EachC w bb xs q := fun x hx S w' cs hw => h x hx S w' cs (hs.trans hw)
theorem GA {q : Tree → Bool} {xs : List Tree} {j : Nat} (h : j < xs.length) (hn : (xs.take j).any q = false) (hq : q xs[j] = false) : (xs.take (j + 1)).any q = false := by
  rw [List.take_succ_eq_append_getElem h, List.any_append, hn]; simp [hq]
def Wq (g : Nat) (q : Tree → Bool) (x : Tree) : Prop := ∀ S w0 cs, Rep S w0 (Ed x) cs → Xx x → Gl w0 → Calls prog 49 #[.agg cs.toArray, .func (.func g) #[] #[]] w0 (Md fun v w' => v = .bool (Xd q x) ∧ Same [] w0 w')
theorem U5 (xs : List Tree) (q : Tree → Bool) (bb : Nat) (B : Option Addr) (e : Nat) (S : Nat → Prop) (w0 : World) (hX : Rep S w0 (.slice (He xs)) [.slice B xs.length e]) (hq : EachC w0 bb xs q) : Calls prog 96 #[.slice B xs.length e, .func (.func 70) #[] #[.pointer (some ⟨bb, 0, none⟩)]] w0 (Md fun v w' => ∃ n : Int, v = .int .i64 n ∧ decide (0 ≤ n) = xs.any q ∧ Same [] w0 w') := by
 have hXl := hX.slice_len
 refine Ka func96 rfl ntmps96 Gb (Sd _ _) ?_
 have hF := FR.start w0 []
 refine Ma (Ca (Pc rfl) (Fa (Ja (Ma (Ca (Pd rfl) (Ca (Lf underlying22 rfl) (Ca (Hb rfl) (Fa (Ya ?_)))))))))
 refine Uc (fun μ σ w => ∃ (j : Nat), μ = xs.length - j ∧ (j ≤ xs.length) ∧ ((xs.take j).any q = false) ∧ AllEq σ [(0, .slice B xs.length e), (1, .func (.func 70) #[] #[.pointer (some (⟨bb, 0, none⟩))]), (7, .int .i64 ((xs.length : Nat))), (8, .int .i64 ((j : Int)))] ∧ FR w0 [] [] w) _ ⟨0, rfl, (Nat.zero_le _), Ga, Dq, hF⟩ ?_
 clear hF; rintro μ σ w ⟨j, rfl, hj, hn, hs, hF⟩
 refine Cg.slots hs ?_
 clear hs; intro σ
 refine Ma (Ca (Yk rfl rfl) (Fa (Ja ?_)))
 refine Kc rfl rfl (fun hc0 => ?_) (fun hc0 => ?_)
 refine Cb (Ha (Ja (Ya (Ma (Ca (Hb rfl) (Ca (Pc rfl) (Cc (Ca (F6) (Ca (Pd rfl) ?_)))))))))
 refine Ca (Hb rfl) ?_
 obtain ⟨ad0, cs0, hA0, hl0, hk0, hx0⟩ := hX.tree_elem (i := j) by_Om
 have ho0 := hx0.one_
 refine Ia (v := .pointer (some (ad0.add (j * 4)))) (Pa (i := (j : Int)) Do rfl hA0 rfl by_Om by_Om) (Ia (v := .agg (List.toArray cs0)) (Ic (l := cs0) isAgg27 sizeOf27 rfl hl0 (hF.cells0 hk0)) ?_)
 refine Rb hF (hq _ (List.getElem_mem (l := xs) (n := j) by_Om) _ _ _ hF.same (hF.rep hx0)) (Ux rfl CL rfl rfl) ?_
 clear hF; intro w hF
 refine Fa ?_
 refine Ik rfl rfl (fun hc1 => ?_) (fun hc1 => ?_)
 refine Ma (Ca (Hb rfl) (Ca (Pc rfl) (Fa ?_)))
 refine Ie (v := .int .i64 ((j : Int))) rfl rfl ?_
 exact ⟨_, rfl, by rw [List.any_eq_true.2 ⟨_, List.getElem_mem (l := xs) (n := j) by_Om, hc1⟩]; simp, hF.same⟩
 refine Cb (Kb (Ha (Ea (Ca (To rfl rfl) (Ca (Hb rfl) (Fb ?_))))))
 refine Dc ⟨_, ?_, j + 1, rfl, by_Om, (GA by_Om hn hc1), Dq, hF⟩
 omega
 refine Lc (Jc rfl ?_)
 refine Ha (Ma (Ca (Pc rfl) (Fa ?_)))
 refine Ie (v := .int .i64 ((-1))) rfl rfl ?_
 have eT : xs.take j = xs := List.take_of_length_le by_Om
 rw [eT] at hn
 exact ⟨_, rfl, by rw [hn]; decide, hF.same⟩
theorem Ro (xs : List Tree) (q : Tree → Bool) (bb : Nat) (B : Option Addr) (e : Nat) (S : Nat → Prop) (w0 : World) (hX : Rep S w0 (.slice (He xs)) [.slice B xs.length e]) (hq : EachC w0 bb xs q) : Calls prog 69 #[.slice B xs.length e, .func (.func 70) #[] #[.pointer (some ⟨bb, 0, none⟩)]] w0 (Md fun v w' => v = .bool (xs.any q) ∧ Same [] w0 w') := by
 refine Ka func69 rfl ntmps69 Gb (Sd _ _) ?_
 have hF := FR.start w0 []
 refine Ma (Ca (Hc rfl) (Cc (Ca (Pd rfl) (Ca (F6) ?_))))
 refine Eb (U5 xs q bb B e S _ (hF.rep hX) (hq.ext hF.same)) (Mb JL rfl rfl rfl) ?_
 rintro _ w ⟨n, rfl, hn, hE⟩
 replace hF := hF.ext hE
 clear hE
 refine Ca (X8 rfl rfl) (Ca (Hc rfl) (Fa ?_))
 refine Ie (v := .bool _) rfl rfl ?_
 exact ⟨congrArg Value.bool hn, hF.same⟩
theorem Fz (g : Nat) (q : Tree → Bool) (x : Tree) (h : Wq g q x) (bb : Nat) (S : Nat → Prop) (w0 : World) (cs : List Value) (hR : Rep S w0 (Ed x) cs) (hk : Xx x) (hG : Gl w0) (hb : w0.cell? ⟨bb, 0, none⟩ = some (.func (.func g) #[] #[])) : Calls prog 70 #[.agg cs.toArray, .pointer (some ⟨bb, 0, none⟩)] w0 (Md fun v w' => v = .bool (!Xd q x) ∧ Same [] w0 w') := by
 have hl : cs.length = 4 := hR.length.trans (Yd x)
 have ho := hR.one_
 refine Ka func70 rfl ntmps70 Gb (Sd _ _) ?_
 have hF := FR.start w0 []
 refine Ma ?_
 refine Qq (v := .agg (List.toArray cs)) (cs := (List.toArray cs)) hF rfl rfl ?_
 clear hF; rintro b1 w hb1 hF -
 refine Ca (Hc rfl) (Cc (Ia (v := .agg (List.toArray cs)) (Ic (l := cs) isAgg27 sizeOf27 rfl hl (hF.cellsAll 0 rfl)) (Ia (v := .func (.func g) #[] #[]) (Wa isAgg65 rfl (hF.cell0 hb)) ?_)))
 refine Rb hF (h S _ cs (hF.rep hR) hk (hG.ext hF.same)) (Mb PE rfl rfl rfl) ?_
 clear hF; intro w hF
 refine Ca (On rfl) (Ca (Hc rfl) (Fa ?_))
 refine Ie (v := .bool _) rfl rfl ?_
 exact ⟨rfl, hF.same⟩
theorem R2 (q : Tree → Bool) (hp : Nz 60 q) (k : Int) (t : Str) (ks : List Str) (xs : List Tree) (ih : ∀ x, x ∈ xs → Wq 60 q x) : Wq 60 q (.node k t ks xs) := by
 intro S w0 cs hR hk hG
 have hk' := hk
 rw [Xx] at hk'
 obtain ⟨A, c, B, e, rfl, -, -, hK, hX⟩ := hR.tree_inv
 refine Ka func49 rfl ntmps49 Gb (Sd _ _) ?_
 have hF := FR.start w0 []
 refine Ma ?_
 refine Kk hF rfl ?_
 clear hF; rintro b1 w hb1 hF -
 refine QI (.func (.func 60) #[] #[]) hF rfl ?_
 clear hF; rintro b2 w hb2 hF -
 refine Ca (Hc rfl) (Cc (Vd (YM isAgg65 rfl hF.F 0 rfl rfl) (Vd (El isAgg27 sizeOf27 rfl hF.F 1 rfl rfl) ?_)))
 refine Rb hF (hp (.node k t ks xs) S _ _ (hF.rep hR) hk (hG.ext hF.same)) (Ux rfl UK rfl rfl) ?_
 clear hF; intro w hF
 refine Ca (Kd rfl) ?_
 refine Pf (d := 8) rfl (fun hg0 => ?_) (fun hg0 => ?_)
 refine Ca (Gc Xe rfl) (Vd (Ij isAgg22 rfl hF.F 1 rfl rfl) (Ia (v := .func (.func 70) #[] #[.pointer (some ⟨b2, 0, none⟩)]) (Pr rfl) ?_))
 refine Rb hF (Ro xs (fun x => !Xd q x) b2 B e S _ (hF.rep hX) (fun x hx S' w' cs' hs hr => Fz 60 q x (ih x hx) b2 S' w' cs' hr (Hp hk'.2.2 x hx) ((hG.ext hF.same).ext hs) (hs.cell (hF.cell 0 rfl rfl)))) (Mb PH rfl rfl rfl) ?_
 clear hF; intro w hF
 refine Ca (On rfl) (Ca (Rc rfl rfl) (Ca (Hc rfl) (Fa ?_)))
 refine Ie (v := .bool _) rfl rfl ?_
 refine ⟨?_, hF.same⟩
 rw [Xd, Vm]
 simp_all
 refine Ra (Ra (Ra (Ra (Ra (Ca (Fd rfl rfl) (Ca (Hc rfl) (Fa ?_)))))))
 refine Ie (v := .bool false) rfl rfl ?_
 refine ⟨?_, hF.same⟩
 rw [Xd, Vm]
 simp_all
theorem X_ (q : Tree → Bool) (hp : Nz 60 q) (x : Tree) : Wq 60 q x := Tree.ind (R2 q hp) x
theorem D2 (q : Tree → Bool) (hp : Nz 50 q) (k : Int) (t : Str) (ks : List Str) (xs : List Tree) (ih : ∀ x, x ∈ xs → Wq 50 q x) : Wq 50 q (.node k t ks xs) := by
 intro S w0 cs hR hk hG
 have hk' := hk
 rw [Xx] at hk'
 obtain ⟨A, c, B, e, rfl, -, -, hK, hX⟩ := hR.tree_inv
 refine Ka func49 rfl ntmps49 Gb (Sd _ _) ?_
 have hF := FR.start w0 []
 refine Ma ?_
 refine Kk hF rfl ?_
 clear hF; rintro b1 w hb1 hF -
 refine QI (.func (.func 50) #[] #[]) hF rfl ?_
 clear hF; rintro b2 w hb2 hF -
 refine Ca (Hc rfl) (Cc (Vd (YM isAgg65 rfl hF.F 0 rfl rfl) (Vd (El isAgg27 sizeOf27 rfl hF.F 1 rfl rfl) ?_)))
 refine Rb hF (hp (.node k t ks xs) S _ _ (hF.rep hR) hk (hG.ext hF.same)) (Ux rfl CI rfl rfl) ?_
 clear hF; intro w hF
 refine Ca (Kd rfl) ?_
 refine Pf (d := 8) rfl (fun hg0 => ?_) (fun hg0 => ?_)
 refine Ca (Gc Xe rfl) (Vd (Ij isAgg22 rfl hF.F 1 rfl rfl) (Ia (v := .func (.func 70) #[] #[.pointer (some ⟨b2, 0, none⟩)]) (Pr rfl) ?_))
 refine Rb hF (Ro xs (fun x => !Xd q x) b2 B e S _ (hF.rep hX) (fun x hx S' w' cs' hs hr => Fz 50 q x (ih x hx) b2 S' w' cs' hr (Hp hk'.2.2 x hx) ((hG.ext hF.same).ext hs) (hs.cell (hF.cell 0 rfl rfl)))) (Mb PH rfl rfl rfl) ?_
 clear hF; intro w hF
 refine Ca (On rfl) (Ca (Rc rfl rfl) (Ca (Hc rfl) (Fa ?_)))
 refine Ie (v := .bool _) rfl rfl ?_
 refine ⟨?_, hF.same⟩
 rw [Xd, Vm]
 simp_all
 refine Ra (Ra (Ra (Ra (Ra (Ca (Fd rfl rfl) (Ca (Hc rfl) (Fa ?_)))))))
 refine Ie (v := .bool false) rfl rfl ?_
 refine ⟨?_, hF.same⟩
 rw [Xd, Vm]
 simp_all
theorem V_ (q : Tree → Bool) (hp : Nz 50 q) (x : Tree) : Wq 50 q x := Tree.ind (D2 q hp) x
end Go.Scarf
namespace Go.Scarf
open Go.RowKit Go.Proofs Go.Proofs.Tryz
def rnodeB (x : Tree) : Bool := decide (x.kind ≠ 7) && nodeB x
def Wn (x : Tree) : Bool := decide (Qc x ≤ 4096) && decide (Hd x ≤ 32)
def Bj (x : Tree) : Bool := Wn x && Xd nodeB x
def Wd (x : Tree) : Bool := Wn x && Xd rnodeB x
theorem AF {n : Nat} (h : n ≤ 1000000000) : wr (n : Int) = (n : Int) := Am by_Om by_Om
theorem ZF  : Nz 60 rnodeB := by
 rintro ⟨k, t, ks, xs⟩ S w0 cs hR hk hG
 obtain ⟨A, c, B, e, rfl, -, -, hK, hX⟩ := hR.tree_inv
 refine Ka func60 rfl ntmps60 Gb (Dd _) ?_
 have hF := FR.start w0 []
 refine Ma ?_
 refine Kk hF rfl ?_
 clear hF; rintro b1 w hb1 hF -
 refine Ca (Hc rfl) (Cc (Ca (Gc An rfl) (Vd (At isAgg3 rfl hF.F 0 rfl rfl) (Ca (D6 rfl rfl) (Ca (Kd rfl) ?_)))))
 refine Gd (d := 6) rfl (fun hg0 => ?_) (fun hg0 => ?_)
 refine Vd (El isAgg27 sizeOf27 rfl hF.F 0 rfl rfl) ?_
 refine Rb hF (DF (.node k t ks xs) S _ _ (hF.rep hR) hk (hG.ext hF.same)) (Ob CI rfl rfl) ?_
 clear hF; intro w hF
 refine Ca (Rc rfl rfl) (Ca (Hc rfl) (Fa ?_))
 refine Ie (v := .bool _) rfl rfl ?_
 refine ⟨?_, hF.same⟩
 simp_all [rnodeB, Tree.kind]
 refine Ra (Ra (Ca (Fd rfl rfl) (Ca (Hc rfl) (Fa ?_))))
 refine Ie (v := .bool false) rfl rfl ?_
 refine ⟨?_, hF.same⟩
 simp_all [rnodeB, Tree.kind]
theorem II (x : Tree) (hsz : Qc x ≤ 1000000000) (S : Nat → Prop) (w0 : World) (cs : List Value) (hR : Rep S w0 (Ed x) cs) : Calls prog 67 #[.agg cs.toArray] w0 (Md fun v w' => v = .int .i64 (Qc x : Nat) ∧ Same [] w0 w') := by
  have h := UI x S w0 cs hR
  rwa [AF hsz] at h
theorem G9 (x : Tree) (hsz : Qc x ≤ 1000000000) (S : Nat → Prop) (w0 : World) (cs : List Value) (hR : Rep S w0 (Ed x) cs) : Calls prog 48 #[.agg cs.toArray] w0 (Md fun v w' => v = .bool (Wn x) ∧ Same [] w0 w') := by
 have hl : cs.length = 4 := hR.length.trans (Yd x)
 have ho := hR.one_
 refine Ka func48 rfl ntmps48 Gb (Dd _) ?_
 have hF := FR.start w0 []
 refine Ma ?_
 refine Qq (v := .agg (List.toArray cs)) (cs := (List.toArray cs)) hF rfl rfl ?_
 clear hF; rintro b1 w hb1 hF -
 refine Ca (Hc rfl) (Cc (Ia (v := .agg (List.toArray cs)) (Ic (l := cs) isAgg27 sizeOf27 rfl hl (hF.cellsAll 0 rfl)) ?_))
 refine Rb hF (II x hsz S _ cs (hF.rep hR)) (Ob HH rfl rfl) ?_
 clear hF; intro w hF
 refine Ca (WF rfl rfl) (Ca (Kd rfl) ?_)
 refine Gd (d := 6) rfl (fun hg0 => ?_) (fun hg0 => ?_)
 refine Ia (v := .agg (List.toArray cs)) (Ic (l := cs) isAgg27 sizeOf27 rfl hl (hF.cellsAll 0 rfl)) ?_
 refine Rb hF (LG x hsz S _ cs (hF.rep hR)) (Ob XH rfl rfl) ?_
 clear hF; intro w hF
 refine Ca (WF rfl rfl) (Ca (Rc rfl rfl) (Ca (Hc rfl) (Fa ?_)))
 refine Ie (v := .bool _) rfl rfl ?_
 refine ⟨congrArg Value.bool ?_, hF.same⟩
 unfold Wn
 first | (rw [decide_eq_true (by omega : Qc x ≤ 4096)]; exact decide_eq_decide.2 by_Om) | (rw [decide_eq_false (by omega : ¬ Qc x ≤ 4096)]; rfl)
 refine Ra (Ra (Ra (Ca (Fd rfl rfl) (Ca (Hc rfl) (Fa ?_)))))
 refine Ie (v := .bool false) rfl rfl ?_
 refine ⟨congrArg Value.bool ?_, hF.same⟩
 unfold Wn
 first | (rw [decide_eq_true (by omega : Qc x ≤ 4096)]; exact decide_eq_decide.2 by_Om) | (rw [decide_eq_false (by omega : ¬ Qc x ≤ 4096)]; rfl)
theorem J2 (x : Tree) (hsz : Qc x ≤ 1000000000) (S : Nat → Prop) (w0 : World) (cs : List Value) (hR : Rep S w0 (Ed x) cs) (hk : Xx x) (hG : Gl w0) : Calls prog 41 #[.agg cs.toArray] w0 (Md fun v w' => v = .bool (Wd x) ∧ Same [] w0 w') := by
 have hl : cs.length = 4 := hR.length.trans (Yd x)
 have ho := hR.one_
 refine Ka func41 rfl ntmps41 Gb (Dd _) ?_
 have hF := FR.start w0 []
 refine Ma ?_
 refine Qq (v := .agg (List.toArray cs)) (cs := (List.toArray cs)) hF rfl rfl ?_
 clear hF; rintro b1 w hb1 hF -
 refine Ca (Hc rfl) (Cc (Ia (v := .agg (List.toArray cs)) (Ic (l := cs) isAgg27 sizeOf27 rfl hl (hF.cellsAll 0 rfl)) ?_))
 refine Rb hF (G9 x hsz S _ cs (hF.rep hR)) (Ob CH rfl rfl) ?_
 clear hF; intro w hF
 refine Ca (Kd rfl) ?_
 refine Pf (d := 5) rfl (fun hg0 => ?_) (fun hg0 => ?_)
 refine Ia (v := .agg (List.toArray cs)) (Ic (l := cs) isAgg27 sizeOf27 rfl hl (hF.cellsAll 0 rfl)) ?_
 refine Rb hF (X_ rnodeB ZF x S _ cs (hF.rep hR) hk (hG.ext hF.same)) (Mb PE rfl rfl rfl) ?_
 clear hF; intro w hF
 refine Ca (Rc rfl rfl) (Ca (Hc rfl) (Fa ?_))
 refine Ie (v := .bool _) rfl rfl ?_
 exact ⟨congrArg Value.bool (by unfold Wd; simp_all), hF.same⟩
 refine Ra (Ra (Ca (Fd rfl rfl) (Ca (Hc rfl) (Fa ?_))))
 refine Ie (v := .bool false) rfl rfl ?_
 exact ⟨congrArg Value.bool (by unfold Wd; simp_all), hF.same⟩
theorem EJ (x : Tree) (hsz : Qc x ≤ 1000000000) (S : Nat → Prop) (w0 : World) (cs : List Value) (hR : Rep S w0 (Ed x) cs) (hk : Xx x) (hG : Gl w0) : Calls prog 33 #[.agg cs.toArray] w0 (Md fun v w' => v = .bool (Bj x) ∧ Same [] w0 w') := by
 have hl : cs.length = 4 := hR.length.trans (Yd x)
 have ho := hR.one_
 refine Ka func33 rfl ntmps33 Gb (Dd _) ?_
 have hF := FR.start w0 []
 refine Ma ?_
 refine Qq (v := .agg (List.toArray cs)) (cs := (List.toArray cs)) hF rfl rfl ?_
 clear hF; rintro b1 w hb1 hF -
 refine Ca (Hc rfl) (Cc (Ia (v := .agg (List.toArray cs)) (Ic (l := cs) isAgg27 sizeOf27 rfl hl (hF.cellsAll 0 rfl)) ?_))
 refine Rb hF (G9 x hsz S _ cs (hF.rep hR)) (Ob CH rfl rfl) ?_
 clear hF; intro w hF
 refine Ca (Kd rfl) ?_
 refine Pf (d := 5) rfl (fun hg0 => ?_) (fun hg0 => ?_)
 refine Ia (v := .agg (List.toArray cs)) (Ic (l := cs) isAgg27 sizeOf27 rfl hl (hF.cellsAll 0 rfl)) ?_
 refine Rb hF (V_ nodeB DF x S _ cs (hF.rep hR) hk (hG.ext hF.same)) (Mb PE rfl rfl rfl) ?_
 clear hF; intro w hF
 refine Ca (Rc rfl rfl) (Ca (Hc rfl) (Fa ?_))
 refine Ie (v := .bool _) rfl rfl ?_
 exact ⟨congrArg Value.bool (by unfold Bj; simp_all), hF.same⟩
 refine Ra (Ra (Ca (Fd rfl rfl) (Ca (Hc rfl) (Fa ?_))))
 refine Ie (v := .bool false) rfl rfl ?_
 exact ⟨congrArg Value.bool (by unfold Bj; simp_all), hF.same⟩
end Go.Scarf
