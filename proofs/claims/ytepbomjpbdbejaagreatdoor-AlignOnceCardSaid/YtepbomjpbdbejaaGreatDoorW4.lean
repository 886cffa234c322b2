/- A part of the proof. -/
import Derived.Test.YtepbomjpbdbejaaGreatDoorW2
import Derived.Test.YtepbomjpbdbejaaGreatDoorShelf2
import Derived.Test.YtepbomjpbdbejaaGreatDoorMem
import Derived.Lib.ValidLaws
import Derived.Lib.TrimUEq
import Derived.Lib.MapLaws
import Derived.Test.YtepbomjpbdbejaaGreatDoorMore
set_option linter.all false
set_option maxHeartbeats 8000000
set_option maxRecDepth 10000
namespace Go.Scarf
open Go.RowKit Go.Proofs Go.Proofs.Tryz
def Dm (s : Str) : Bool := decide ((Bf s).2 = 0) && decide (Pn (Bf s).1 = s)
def X2 (s : Str) : Bool := Dm s && (CD (Bf s).1).2 && decide (0 ≤ (CD (Bf s).1).1)
theorem Yz (s : Str) : Ie (Bf s).1 = true := by
  rw [Gj]
  repeat' split
  all_goals first | rfl | simp_all
theorem Kq (s : Str) : (Bf s).1.digits.length ≤ 1000 := (Fd (Yz s)).1
theorem Ol (s : Str) (q : Nat) : Lib.decodeL (s.drop q) = Utf8.decode (bs s) q := Lib.decodeL_drop (bs s) q
theorem Ye (s : Str) (q : Nat) : 1 ≤ (Utf8.decode (bs s) q).2 := by rw [← Ol]; exact Lib.decodeL_width _
theorem Xv (s : Str) (q : Nat) (h : q < s.length) : q + (Utf8.decode (bs s) q).2 ≤ s.length := by
  have := Lib.decodeL_le (s.drop q) (by rw [ne_eq, List.drop_eq_nil_iff]; omega)
  rw [Ol, List.length_drop] at this
  omega
theorem Zv (s : Str) (q : Nat) (h : q < s.length) (hv : Lib.validD (s.drop q) = false) (hn : ¬ ((Utf8.decode (bs s) q).1 = 65533 ∧ (Utf8.decode (bs s) q).2 = 1)) : Lib.validD (s.drop (q + (Utf8.decode (bs s) q).2)) = false := by
  rw [Lib.validD_step _ (by rw [ne_eq, List.drop_eq_nil_iff]; omega), Ol, if_neg hn, List.drop_drop] at hv
  exact hv
theorem Tp (s : Str) (q : Nat) (h : q < s.length) : Lib.decodeGo (bs (s.drop q)) = Utf8.decode (bs s) q := by
  have h1 : (bs (s.drop q)).size ≠ 0 := by rw [Ql, List.length_drop]; omega
  rw [Lib.decodeGo, if_neg h1]; exact Ol s q
theorem Ox (s : Str) (hl : s.length ≤ 140737488355328) {w : World} (hG : Gl w) : Calls prog 122 #[.string (bs s)] w (Kd fun v w' => v = .bool (Lib.validD s) ∧ Same [] w w') :=
  Ip (utf8_ValidString (bs s) w (by rw [Ql]; omega) hG.tabs)
theorem F0 (s : Str) {w : World} (hG : Gl w) : Calls prog 123 #[.string (bs s)] w (Kd fun v w' => v = .tuple #[.int .i32 (Lib.decodeGo (bs s)).1, .int .i64 (Lib.decodeGo (bs s)).2] ∧ Same [] w w') :=
  Ip (utf8_DecodeRuneInString (bs s) w hG.tabs)
theorem I7 (s : Str) (hl : s.length ≤ 140737488355328) (w0 : World) (hG : Gl w0) : Calls prog 97 #[.string (bs s)] w0 (Kd fun v w' => ∃ n, v = .tuple #[.int .i64 n, .bool (Lib.validD s)] ∧ Same [] w0 w') := by
  refine Ka func97 rfl ntmps97 Jb (Vc _) ?_
  have hF := FR.start w0 []
  refine Ia ?_
  refine Da ?_
  refine Ca (Qc rfl) ?_
  refine Ca (Gc rfl) ?_
  refine Wa ?_
  refine Ga ?_
  refine Ia ?_
  refine Ia ?_
  refine Da ?_
  refine Ca (Ve rfl) ?_
  refine Pb hF (Ox s hl (hG.ext hF.same)) (Ib RH rfl rfl) ?_
  clear hF; intro w hF
  refine Wa ?_
  refine Ga ?_
  refine Gk rfl rfl (fun hc0 => ?_) (fun hc0 => ?_)
  ·
    refine Ia ?_
    refine Da ?_
    refine Ca (Ve rfl) ?_
    refine Ca (X5 underlying9 rfl) ?_
    refine Ca (Qc rfl) ?_
    refine Ca (Gc rfl) ?_
    refine Wa ?_
    refine Ga ?_
    refine Wb (Vb (Ua (Wd (v := .int .i64 ((((s) : Str).length : Int))) (x := .bool true) rfl rfl rfl) ?_))
    exact ⟨_, by rw [hc0], hF.same⟩
  ·
    refine Xa ?_
    refine Ga ?_
    refine Ia ?_
    refine Ia ?_
    refine Da ?_
    refine Ca (Ve rfl) ?_
    refine Hr (str := s) hF underlying9 rfl ?_
    clear hF; intro b1 w hb1 hF hE
    clear hE
    refine Wa ?_
    refine Ga ?_
    refine Za ?_
    refine Uc (fun μ σ w => ∃ (q : Nat), μ = s.length - q ∧ (q ≤ s.length) ∧ (Lib.validD (s.drop q) = false) ∧ AllEq σ [(0, .string (bs s)), (13, .pointer (some ⟨b1, 0, none⟩))] ∧ FR w0 [] [(b1, .stringIter (bs s) (q))] w) _ ⟨0, rfl, (Nat.zero_le _), (by simpa using hc0), EB, hF⟩ ?_
    clear hF; rintro μ σ w ⟨q, rfl, hq, hv, hs, hF⟩
    refine Cg.slots hs ?_
    clear hs; intro σ
    refine Ia ?_
    refine Da ?_
    by_cases hn0 : (q) < (s : Str).length
    ·
      refine Lu 0 (p := q) (str := s) hF rfl rfl hn0 ?_
      clear hF; intro w hF hE
      clear hE
      replace hF : FR w0 [] [(b1, .stringIter (bs s) (q + (Utf8.decode (bs s) (q)).2))] w := hF
      refine Ca (Dp rfl rfl) ?_
      refine Wa ?_
      refine Ga ?_
      refine Ia ?_
      refine He rfl ?_
      refine Xa ?_
      refine Ga ?_
      refine Za ?_
      refine Ia ?_
      refine Da ?_
      refine Ca (At rfl rfl) ?_
      refine Ca (At rfl rfl) ?_
      refine Ca (Qc rfl) ?_
      refine Ca (Qc rfl) ?_
      refine Wa ?_
      refine Ga ?_
      refine Ia ?_
      refine Ia ?_
      refine Da ?_
      refine Ca (Hb rfl) ?_
      refine Ca (N4 rfl rfl) ?_
      refine Wa ?_
      refine Ga ?_
      refine Jc rfl rfl (fun hc2 => ?_) (fun hc2 => ?_)
      ·
        refine Oc (Mc rfl ?_)
        have h1 := Ye s q
        have hw : ¬ ((Utf8.decode (bs s) q).1 = 65533 ∧ (Utf8.decode (bs s) q).2 = 1) := by
          first
          | (intro hh; omega)
          | (rw [Tp s q by_Om] at hc3; intro hh; omega)
        refine Fc ⟨_, ?_, q + (Utf8.decode (bs s) q).2, rfl, (Xv s q by_Om), (Zv s q by_Om hv hw), EB, hF⟩
        omega
      ·
        refine Xa ?_
        refine Ga ?_
        refine Ia ?_
        refine Da ?_
        refine Ca (Ve rfl) ?_
        refine Ca (Hb rfl) ?_
        refine Ja (v := .string (bs ((s : Str).drop (q)))) (E3 (q) underlying9 rfl rfl by_Om) ?_
        refine Pb hF (F0 (s.drop q) (hG.ext hF.same)) (Ib YG rfl rfl) ?_
        clear hF; intro w hF
        refine Ca (Hn rfl) ?_
        refine Ca (At rfl rfl) ?_
        refine Ca (At rfl rfl) ?_
        refine Ca (Qc rfl) ?_
        refine Ca (Qc rfl) ?_
        refine Wa ?_
        refine Ga ?_
        refine Ia ?_
        refine Da ?_
        refine Ca (Hb rfl) ?_
        refine Ca (Un rfl rfl) ?_
        refine Wa ?_
        refine Ga ?_
        refine Jc rfl rfl (fun hc3 => ?_) (fun hc3 => ?_)
        ·
          refine Ia ?_
          refine Da ?_
          refine Ca (Hb rfl) ?_
          refine Ca (Qc rfl) ?_
          refine Ca (Gc rfl) ?_
          refine Wa ?_
          refine Ga ?_
          refine Wb (Vb (Ua (Wd (v := .int .i64 (((q : Nat) : Int))) (x := .bool false) rfl rfl rfl) ?_))
          exact ⟨_, by rw [hc0], hF.same⟩
        ·
          refine Xa ?_
          refine Mb ?_
          have h1 := Ye s q
          have hw : ¬ ((Utf8.decode (bs s) q).1 = 65533 ∧ (Utf8.decode (bs s) q).2 = 1) := by
            first
            | (intro hh; omega)
            | (rw [Tp s q by_Om] at hc3; intro hh; omega)
          refine Fc ⟨_, ?_, q + (Utf8.decode (bs s) q).2, rfl, (Xv s q by_Om), (Zv s q by_Om hv hw), EB, hF⟩
          omega
    ·
      refine Mn 0 (p := q) (str := s) hF rfl rfl hn0 ?_
      refine Ca (Dp rfl rfl) ?_
      refine Wa ?_
      refine Ga ?_
      refine Ia ?_
      refine Nf rfl ?_
      refine Oc (Mc rfl ?_)
      refine Ga ?_
      refine Ia ?_
      refine Da ?_
      refine Ca (Ve rfl) ?_
      refine Ca (X5 underlying9 rfl) ?_
      refine Ca (Qc rfl) ?_
      refine Ca (Gc rfl) ?_
      refine Wa ?_
      refine Ga ?_
      refine Wb (Vb (Ua (Wd (v := .int .i64 ((((s) : Str).length : Int))) (x := .bool true) rfl rfl rfl) ?_))
      have e : s.drop q = [] := List.drop_eq_nil_of_le by_Om
      rw [e] at hv; cases hv
theorem Q7 (s : Str) (hl : s.length ≤ 140737488355328) (w0 : World) (hG : Gl w0) : Calls prog 73 #[.string (bs s)] w0 (Kd fun v w' => v = .bool (Lib.validD s) ∧ Same [] w0 w') := by
 refine Ka func73 rfl ntmps73 Jb (Vc _) ?_
 have hF := FR.start w0 []
 refine Ma (Ca (Gc rfl) (Dc (Ca (Ve rfl) ?_)))
 refine Cb (I7 s hl _ (hG.ext hF.same)) (Ib CG rfl rfl) ?_
 rintro _ w ⟨n, rfl, hE⟩
 replace hF := hF.ext hE
 clear hE
 refine Ca (Hn rfl) (Ca (At rfl rfl) (Ca (Dp rfl rfl) (Ca (Qc rfl) (Ca (Gc rfl) (Dc (Ca (Ud rfl) (Ca (Gc rfl) (Ha ?_))))))))
 refine Le (v := .bool _) rfl rfl ?_
 exact ⟨rfl, hF.same⟩
theorem Sy (s : Str) (hl : s.length ≤ 140737488355328) (w0 : World) (hG : Gl w0) : Calls prog 72 #[.string (bs s)] w0 (Kd fun v w' => v = .tuple #[Zm (Bf s).1, .bool (Dm s)] ∧ Same [] w0 w') := by
 refine Ka func72 rfl ntmps72 Jb (Vc _) ?_
 have hF := FR.start w0 []
 refine Ma ?_
 refine Zg (cs := #[.bool false, .string (bs []), .int .i64 0]) hF zeroValue71 rfl ?_
 clear hF; rintro b1 w hb1 hF -
 refine Ca (Gc rfl) (Dc (Ca (Ve rfl) ?_))
 refine Pb hF (O8 s hl _) (Ib RG rfl rfl) ?_
 clear hF; intro w hF
 refine Ca (Hn rfl) (Ca (HJ rfl rfl) (Ca (At rfl rfl) ?_))
 refine Km hF zeroValue71 sizeOf71 rfl ?_
 clear hF; rintro b2 w hb2 hF -
 refine Ca (Qc rfl) (Ha (Ia ?_))
 refine Yc [] (.free 0 (.free 1 (.free 2 (.free 3 (.free 4 (.free 6 (.act 5 (.free 7 (.free 8 (.act 9 (.free 10 .nil))))))))))) hF ?_
 clear hF; rintro w hF -
 refine ⟨fun wq => FR w0 [] [(b2, .cells #[.bool ((Bf s).1.neg), .string (bs ((Bf s).1.digits)), .int .i64 ((Bf s).1.exp)] 71)] wq, hF.sub (.cons_cons _ (.cons _ .slnil)), ?_⟩
 refine Tn rfl (Pk isAgg71 sizeOf71 rfl C0 0 rfl rfl) (Eb rfl (Hb rfl) (Eb rfl (Un rfl rfl) (Eb rfl (Ud rfl) ?_)))
 refine Fl (d := 14) rfl (fun hg0 => ?_) (fun hg0 => ?_)
 refine Tn rfl (Pk isAgg71 sizeOf71 rfl C0 0 rfl rfl) (Eb rfl (Ve rfl) ?_)
 refine Hp hF (DD (Bf s).1 (by have := Kq s; omega) _ (hG.ext hF.same)) rfl (Ib ZF rfl rfl) ?_
 clear hF; intro w hF
 refine ⟨hF.sub (.cons_cons _ (.cons _ .slnil)), ?_⟩
 refine Eb rfl (L4 rfl rfl) (Eb rfl (Xc rfl rfl) ?_)
 refine Zr rfl hF sizeOf71 rfl rfl G1 ?_
 clear hF; rintro w hF -
 refine ⟨hF.sub (.cons_cons _ (.cons _ .slnil)), ?_⟩
 refine Eb rfl (Gc rfl) (Cc (Ga ?_))
 refine Wb (Vb (Ua (Yd rfl (l := [.bool ((Bf s).1.neg), .string (bs ((Bf s).1.digits)), .int .i64 ((Bf s).1.exp)]) rfl isAgg71 sizeOf71 rfl (hF.cellsAll 1 rfl) (v := .bool (decide ((Pn (Bf s).1 : Str) = s))) rfl) ?_))
 exact ⟨by simp_all [Dm, Zm], hF.same⟩
 refine Vh rfl ?_
 refine Vh rfl ?_
 refine WH rfl ?_ (hF.sub (.cons_cons _ (.cons _ .slnil)))
 refine Vh rfl ?_
 refine Eb rfl (Md rfl rfl) ?_
 refine Zr rfl hF sizeOf71 rfl rfl G1 ?_
 clear hF; rintro w hF -
 refine ⟨hF.sub (.cons_cons _ (.cons _ .slnil)), ?_⟩
 refine Eb rfl (Gc rfl) (Cc (Ga ?_))
 refine Wb (Vb (Ua (Yd rfl (l := [.bool ((Bf s).1.neg), .string (bs ((Bf s).1.digits)), .int .i64 ((Bf s).1.exp)]) rfl isAgg71 sizeOf71 rfl (hF.cellsAll 1 rfl) (v := .bool false) rfl) ?_))
 exact ⟨by simp_all [Dm, Zm], hF.same⟩
theorem IH (s : Str) (hl : s.length ≤ 140737488355328) (w0 : World) (hG : Gl w0) : Calls prog 74 #[.string (bs s)] w0 (Kd fun v w' => v = .bool (X2 s) ∧ Same [] w0 w') := by
 refine Ka func74 rfl ntmps74 Jb (Vc _) ?_
 have hF := FR.start w0 []
 refine Ma (Ca (Gc rfl) (Dc (Ca (Ve rfl) ?_)))
 refine Pb hF (Sy s hl _ (hG.ext hF.same)) (Ib BG rfl rfl) ?_
 clear hF; intro w hF
 refine Ca (Hn rfl) (Ca (HJ rfl rfl) (Ca (Dp rfl rfl) ?_))
 refine Km hF zeroValue71 sizeOf71 rfl ?_
 clear hF; rintro b1 w hb1 hF -
 refine Ca (Gc rfl) (Dc (Pd (Pk isAgg71 sizeOf71 rfl hF.F 0 rfl rfl) ?_))
 refine Pb hF (FA (Bf s).1 (by have := Kq s; omega) _ (hG.ext hF.same)) (Ib JJ rfl rfl) ?_
 clear hF; intro w hF
 refine Ca (Hn rfl) (Ca (At rfl rfl) (Ca (Dp rfl rfl) (Ca (Qc rfl) (Ca (Gc rfl) (Dc (Ca (Ud rfl) (Ca (Ud rfl) ?_)))))))
 refine Mf (d := 18) rfl (fun hg0 => ?_) (fun hg0 => ?_)
 refine Ca (Ud rfl) (Ca (Xc rfl rfl) (Ca (Ud rfl) ?_))
 refine Mf (d := 21) rfl (fun hg1 => ?_) (fun hg1 => ?_)
 refine Ca (Hb rfl) (Ca (CC rfl rfl) (Ca (Xc rfl rfl) (Ca (Gc rfl) (Ha ?_))))
 refine Le (v := .bool _) rfl rfl ?_
 exact ⟨by simp_all [X2], hF.same⟩
 refine Pa (Pa (Ca (Md rfl rfl) (Ca (Gc rfl) (Ha ?_))))
 refine Le (v := .bool false) rfl rfl ?_
 exact ⟨by simp_all [X2], hF.same⟩
 refine Pa (Ca (Md rfl rfl) (Ca (Ud rfl) (Pa (Pa (Ca (Md rfl rfl) (Ca (Gc rfl) (Ha ?_)))))))
 refine Le (v := .bool false) rfl rfl ?_
 exact ⟨by simp_all [X2], hF.same⟩
end Go.Scarf
namespace Go.Scarf
open Go.RowKit Go.Proofs Go.Proofs.Tryz
def Tm (ks : List Str) (n : Int) : Bool := decide ks.Nodup && ks.all Lib.validD && decide ((ks.length : Int) = n)
def Rq (ks : List Str) : MapL := ks.map fun k => (k, .bool true)
theorem Ow (ks : List Str) (k : Str) : Eh (Rq ks) k = if k ∈ ks then some (.bool true) else none := by
  induction ks with
  | nil => rfl
  | cons a r ih =>
    have e : Rq (a :: r) = [(a, .bool true)] ++ Rq r := rfl
    rw [e, Lz, ih]
    by_cases h : a = k
    · subst h; simp [Eh]
    · have h' : ¬ k = a := fun e => h e.symm
      simp [Eh, h, h']
theorem T5 (ks : List Str) (j : Nat) (h : j < ks.length) : Rq (ks.take j) ++ [(ks[j], .bool true)] = Rq (ks.take (j + 1)) := by
  unfold Rq; rw [List.take_succ_eq_append_getElem h, List.map_append]; rfl
theorem Ku {ks : List Str} {j : Nat} (h : j < ks.length) (hn : (ks.take j).Nodup) (hi : ¬ ks[j] ∈ ks.take j) : (ks.take (j + 1)).Nodup := by
  rw [List.take_succ_eq_append_getElem h, List.nodup_append]
  refine ⟨hn, by simp, ?_⟩
  intro a ha b hb e
  simp only [List.mem_singleton] at hb
  subst e; subst hb; exact hi ha
theorem Dr {ks : List Str} {j : Nat} (h : j < ks.length) (hi : ks[j] ∈ ks.take j) : ¬ ks.Nodup := by
  intro hn
  obtain ⟨i, hi', he⟩ := List.getElem_of_mem hi
  rw [List.getElem_take] at he
  have hi2 : i < j := by rw [List.length_take] at hi'; omega
  have := (List.pairwise_iff_getElem.1 hn) i j by_Om h hi2
  exact this he
theorem Lx {f : Str → Bool} {ks : List Str} {j : Nat} (h : j < ks.length) (ha : (ks.take j).all f = true) (hv : f ks[j] = true) : (ks.take (j + 1)).all f = true := by
  rw [List.take_succ_eq_append_getElem h, List.all_append, ha]; simp [hv]
theorem XE {f : Str → Bool} {ks : List Str} {j : Nat} (h : j < ks.length) (hv : f ks[j] = false) : ks.all f = false := by
  rw [Bool.eq_false_iff]; intro ha
  have := List.all_eq_true.1 ha ks[j] (List.getElem_mem h)
  rw [hv] at this; cases this
theorem OE (ks : List Str) (n : Int) (S : Nat → Prop) (A : Option Addr) (c : Nat) (hl : ∀ k ∈ ks, k.length ≤ 140737488355328) (w0 : World) (hG : Gl w0) (hX : Rep S w0 (Gf ks) [.slice A ks.length c]) : Calls prog 71 #[.slice A ks.length c, .int .i64 n] w0 (Kd fun v w' => v = .bool (Tm ks n) ∧ Same [] w0 w') := by
 have hXl := hX.slice_len
 refine Ka func71 rfl ntmps71 Jb (Td _ _) ?_
 have hF := FR.start w0 []
 refine Ma (Ca (Gc rfl) (Dc (Ca (Ae rfl) (Ca (Ff underlying25 rfl) ?_))))
 refine Qq (v := fun b => .map (some b)) hF (Jy underlying121 rfl) ?_
 clear hF; rintro b1 w hb1 hF -
 refine Ca (Ex) (Ha (Ia (Ma (Ca (Ae rfl) (Ca (Ff underlying25 rfl) (Ca (Hb rfl) (Ha (Za ?_))))))))
 replace hF : FR w0 [] [(b1, Cj (Rq (ks.take 0)))] w := hF
 refine Uc (fun μ σ w => ∃ (j : Nat), μ = ks.length - j ∧ (j ≤ ks.length) ∧ ((ks.take j).Nodup) ∧ ((ks.take j).all Lib.validD = true) ∧ AllEq σ [(0, .slice A ks.length c), (1, .int .i64 n), (5, .map (some b1)), (11, .slice A ks.length c), (12, .int .i64 ((ks.length : Nat))), (13, .int .i64 ((j : Int)))] ∧ FR w0 [] [(b1, Cj (Rq (ks.take j)))] w) _ ⟨0, rfl, (Nat.zero_le _), Fa, Fa, M_, hF⟩ ?_
 clear hF; rintro μ σ w ⟨j, rfl, hj, hd, hv, hs, hF⟩
 refine Cg.slots hs ?_
 clear hs; intro σ
 refine Ma (Ca (Zl rfl rfl) (Ha (Ia ?_)))
 refine Jc rfl rfl (fun hc0 => ?_) (fun hc0 => ?_)
 refine Xa (Ga (Ia (Za (Ma ?_))))
 obtain ⟨ad0, hA0, hk0, hx0⟩ := hX.str_elem (i := j) by_Om
 refine Ja (v := .pointer (some (ad0.add (j * 1)))) (Ra (i := (j : Int)) Bv rfl hA0 rfl by_Om by_Om) (Ja (v := .string (bs (ks[j]))) (Va isAgg9 rfl (hF.cell0 hk0)) (Ca (Ti rfl) (Ha (Ia (Ma (Ca (K4) (Ca (Ve rfl) ?_)))))))
 refine Ja (v := .bool (decide (ks[j] ∈ ks.take j))) (Wy underlying121 underlying9 zeroValue4 rfl rfl (hF.heap (i := 0) rfl) (by rw [Ow]; split <;> rename_i hh <;> simp only [hh, decide_true, decide_false] <;> rfl)) ?_
 refine Ca (Ud rfl) ?_
 refine Dd (d := 20) rfl (fun hg1 => ?_) (fun hg1 => ?_)
 refine Pa (Pa (Pa (Ca (Xc rfl rfl) (Ha (He rfl (Ma (Ca (Gc rfl) (Ha ?_))))))))
 refine Le (v := .bool false) rfl rfl ?_
 have := Dr (ks := ks) (j := j) by_Om (by assumption)
 exact ⟨congrArg Value.bool (by unfold Tm; rw [decide_eq_false this]; rfl), hF.same⟩
 refine Ca (Ve rfl) ?_
 refine Pb hF (Q7 ks[j] (hl _ (List.getElem_mem _)) _ (hG.ext hF.same)) (Ib SF rfl rfl) ?_
 clear hF; intro w hF
 refine Ca (Zo rfl) (Ca (Md rfl rfl) (Ha ?_))
 refine Gk rfl rfl (fun hc1 => ?_) (fun hc1 => ?_)
 refine Ma (Ca (Gc rfl) (Ha ?_))
 refine Le (v := .bool false) rfl rfl ?_
 have := XE (f := Lib.validD) (ks := ks) (j := j) by_Om (by simpa using hc1)
 exact ⟨congrArg Value.bool (by unfold Tm; rw [this, Bool.and_false]; rfl), hF.same⟩
 refine Xa (Ga (Da (Ca (K4) (Ca (Ve rfl) ?_))))
 refine Du 0 (v := .bool true) hF underlying121 underlying9 rfl rfl rfl rfl (by rw [Ow, if_neg (by assumption)]) ?_
 clear hF; rintro w hF -
 rw [T5 ks j by_Om] at hF
 replace hF : FR w0 [] [(b1, Cj (Rq (ks.take (j + 1))))] w := hF
 refine Wa (Mb (Ga (Da (Ca (Ko rfl rfl) (Ca (Hb rfl) (Wa ?_))))))
 refine Fc ⟨_, ?_, j + 1, rfl, by_Om, (Ku by_Om hd (by assumption)), (Lx by_Om hv (by simpa using hc1)), M_, hF⟩
 omega
 refine Oc (Mc rfl ?_)
 refine Ga (Ma (Ca (Ae rfl) (Ca (Ff underlying25 rfl) (Ca (Hb rfl) (Ca (Un rfl rfl) (Ca (Gc rfl) (Ha ?_)))))))
 refine Le (v := .bool _) rfl rfl ?_
 obtain rfl : j = ks.length := by omega
 rw [List.take_length] at hd hv
 exact ⟨congrArg Value.bool (by unfold Tm; rw [hv, decide_eq_true hd]; rfl), hF.same⟩
end Go.Scarf
namespace Go.Scarf
open Go.RowKit Go.Proofs Go.Proofs.Tryz
mutual
def Bx : Tree → Prop | .node _ t ks xs => t.length ≤ 140737488355328 ∧ (∀ k ∈ ks, k.length ≤ 140737488355328) ∧ Px xs
def Px : List Tree → Prop | [] => True | x :: xs => Bx x ∧ Px xs
end
theorem No : ∀ {xs : List Tree}, Px xs → ∀ x ∈ xs, Bx x
  | [], _, _, h => absurd h Fa
  | y :: ys, h, x, hx => by
    rw [Px] at h
    rcases List.mem_cons.1 hx with rfl | hx
    · exact h.1
    · exact No h.2 x hx
def nodeB : Tree → Bool
  | .node k t ks xs =>
    if k = 5 then decide (ks = []) && decide (t = []) else
    if k = 6 then Tm ks xs.length && decide (t = []) else
    if ks ≠ [] ∨ xs ≠ [] then false else
    if k = 1 then decide (t = []) else
    if k = 2 then decide (t = [116, 114, 117, 101]) || decide (t = [102, 97, 108, 115, 101]) else
    if k = 3 then Dm t else if k = 4 then Lib.validD t else if k = 7 then X2 t else false
def Vy (g : Nat) (q : Tree → Bool) : Prop := ∀ (x : Tree) (S : Nat → Prop) (w0 : World) (cs : List Value), Rep S w0 (Zc x) cs → Bx x → Gl w0 → Calls prog g #[.agg cs.toArray] w0 (Kd fun v w' => v = .bool (q x) ∧ Same [] w0 w')
theorem AD  : Vy 50 nodeB := by
 rintro ⟨k, t, ks, xs⟩ S w0 cs hR hk hG
 obtain ⟨A, c, B, e, rfl, -, -, hK, hX⟩ := hR.tree_inv
 rw [Bx] at hk
 refine Ka func50 rfl ntmps50 Jb (Vc _) ?_
 have hF := FR.start w0 []
 refine Ma ?_
 refine Vj hF rfl ?_
 clear hF; rintro b1 w hb1 hF -
 refine Ca (Gc rfl) (Ha (Ia ?_))
 refine Kg (zs := []) (.free 0 (.free 1 (.free 2 (.free 3 (.free 4 (.free 5 (.free 6 (.free 7 (.free 8 (.free 9 .nil)))))))))) hF ?_
 clear hF; intro w hF
 refine Eb rfl (Ac Tl rfl) (Tn rfl (Xi isAgg25 rfl C0 0 rfl rfl) (Eb rfl (Ff underlying25 rfl) (Eb rfl (Rx rfl rfl) (Eb rfl (Ac Te rfl) (Tn rfl (Xi isAgg22 rfl C0 0 rfl rfl) (Eb rfl (Ff underlying22 rfl) (Eb rfl (Rx rfl rfl) (Eb rfl (Gc rfl) (Eb rfl (Gc rfl) (Cc (Ga (Ia (Ia ?_)))))))))))))
 refine Da (Ca (Ac Ln rfl) (Pd (Ar isAgg3 rfl hF.F 0 rfl rfl) (Ha (Za (Ma (Ca (Un rfl rfl) (Ca (Gc rfl) (Ha ?_))))))))
 refine Jc rfl rfl (fun hc0 => ?_) (fun hc0 => ?_)
 refine Ma (Ca (Ud rfl) (Ca (XL rfl) (Ca (Ud rfl) ?_)))
 refine Dd (d := 21) rfl (fun hg0 => ?_) (fun hg0 => ?_)
 refine Ca (Ac Oi rfl) (Pd (Cx isAgg9 rfl hF.F 0 rfl rfl) (Ca (L4 rfl rfl) (Ca (Xc rfl rfl) (Ca (Gc rfl) (Ha ?_)))))
 refine Le (v := .bool _) rfl rfl ?_
 refine ⟨?_, hF.same⟩
 clear hF hR hK hX hb1
 simp_all [nodeB, List.length_pos_iff]
 refine Pa (Pa (Pa (Ca (Md rfl rfl) (Ca (Gc rfl) (Ha ?_)))))
 refine Le (v := .bool false) rfl rfl ?_
 refine ⟨?_, hF.same⟩
 clear hF hR hK hX hb1
 simp_all [nodeB, List.length_pos_iff]
 refine Ma (Ca (Un rfl rfl) (Ca (Gc rfl) (Ha ?_)))
 refine Jc rfl rfl (fun hc1 => ?_) (fun hc1 => ?_)
 refine Ma (Ca (Ac Tl rfl) (Pd (Xi isAgg25 rfl hF.F 0 rfl rfl) (Ca (Ac Te rfl) (Pd (Xi isAgg22 rfl hF.F 0 rfl rfl) (Ca (Ff underlying22 rfl) ?_)))))
 refine Pb hF (OE ks (xs.length : Nat) S A c (by simpa using hk.2.1) _ (hG.ext hF.same) (hF.rep hK)) (Kb HK rfl rfl rfl) ?_
 clear hF; intro w hF
 refine Ca (Ud rfl) ?_
 refine Mf (d := 34) rfl (fun hg1 => ?_) (fun hg1 => ?_)
 refine Ca (Ac Oi rfl) (Pd (Cx isAgg9 rfl hF.F 0 rfl rfl) (Ca (L4 rfl rfl) (Ca (Xc rfl rfl) (Ca (Gc rfl) (Ha ?_)))))
 refine Le (v := .bool _) rfl rfl ?_
 refine ⟨?_, hF.same⟩
 clear hF hR hK hX hb1
 simp_all [nodeB, List.length_pos_iff]
 refine Pa (Pa (Pa (Ca (Md rfl rfl) (Ca (Gc rfl) (Ha ?_)))))
 refine Le (v := .bool false) rfl rfl ?_
 refine ⟨?_, hF.same⟩
 clear hF hR hK hX hb1
 simp_all [nodeB, List.length_pos_iff]
 refine Xa (Mb (Ga (Ia (Ma (Ca (Ud rfl) (Ca (Ud rfl) ?_))))))
 refine Dd (d := 40) rfl (fun hg2 => ?_) (fun hg2 => ?_)
 refine Pa (Ca (Xc rfl rfl) (Ha (He rfl (Ma (Ca (Gc rfl) (Ha ?_))))))
 refine Le (v := .bool false) rfl rfl ?_
 refine ⟨?_, hF.same⟩
 clear hF hR hK hX hb1
 simp_all [nodeB, List.length_pos_iff]
 refine Ca (Ud rfl) (Ca (Md rfl rfl) (Ha ?_))
 refine Jc rfl rfl (fun hc2 => ?_) (fun hc2 => ?_)
 refine Ma (Ca (Gc rfl) (Ha ?_))
 refine Le (v := .bool false) rfl rfl ?_
 refine ⟨?_, hF.same⟩
 clear hF hR hK hX hb1
 simp_all [nodeB, List.length_pos_iff]
 refine Xa (Ga (Ia (Ma (Ca (Ac Ln rfl) (Pd (Ar isAgg3 rfl hF.F 0 rfl rfl) (Ha (Za (Ma (Ca (Un rfl rfl) (Ca (Gc rfl) ?_))))))))))
 refine Ha ?_
 refine Jc rfl rfl (fun hc3 => ?_) (fun hc3 => ?_)
 refine Ma (Ca (Ac Oi rfl) (Pd (Cx isAgg9 rfl hF.F 0 rfl rfl) (Ca (L4 rfl rfl) (Ca (Gc rfl) (Ha ?_)))))
 refine Le (v := .bool _) rfl rfl ?_
 refine ⟨?_, hF.same⟩
 clear hF hR hK hX hb1
 simp_all [nodeB, List.length_pos_iff]
 refine Ma (Ca (Un rfl rfl) (Ca (Gc rfl) (Ha ?_)))
 refine Jc rfl rfl (fun hc4 => ?_) (fun hc4 => ?_)
 refine Ma (Ca (Ac Oi rfl) (Pd (Cx isAgg9 rfl hF.F 0 rfl rfl) (Ca (L4 rfl rfl) (Ca (Ud rfl) ?_))))
 refine Dd (d := 55) rfl (fun hg3 => ?_) (fun hg3 => ?_)
 refine Pa (Pa (Pa (Ca (Xc rfl rfl) (Ca (Gc rfl) (Ha ?_)))))
 refine Le (v := .bool true) rfl rfl ?_
 refine ⟨?_, hF.same⟩
 clear hF hR hK hX hb1
 simp_all [nodeB, List.length_pos_iff]
 refine Ca (Ac Oi rfl) (Pd (Cx isAgg9 rfl hF.F 0 rfl rfl) (Ca (L4 rfl rfl) (Ca (Md rfl rfl) (Ca (Gc rfl) (Ha ?_)))))
 refine Le (v := .bool _) rfl rfl ?_
 refine ⟨?_, hF.same⟩
 clear hF hR hK hX hb1
 simp_all [nodeB, List.length_pos_iff]
 refine Ma (Ca (Un rfl rfl) (Ca (Gc rfl) (Ha ?_)))
 refine Jc rfl rfl (fun hc5 => ?_) (fun hc5 => ?_)
 refine Ma (Ca (Ac Oi rfl) (Pd (Cx isAgg9 rfl hF.F 0 rfl rfl) ?_))
 refine Pb hF (Sy t hk.1 _ (hG.ext hF.same)) (Ib BG rfl rfl) ?_
 clear hF; intro w hF
 refine Ca (Hn rfl) (Ca (HJ rfl rfl) (Ca (Dp rfl rfl) ?_))
 refine Km hF zeroValue71 sizeOf71 rfl ?_
 clear hF; rintro b2 w hb2 hF -
 refine Ca (Gc rfl) (Dc (Ca (Ud rfl) (Ca (Gc rfl) (Ha ?_))))
 refine Le (v := .bool _) rfl rfl ?_
 refine ⟨?_, hF.same⟩
 clear hF hR hK hX hb1
 simp_all [nodeB, List.length_pos_iff]
 refine Ma (Ca (Un rfl rfl) (Ca (Gc rfl) (Ha ?_)))
 refine Jc rfl rfl (fun hc6 => ?_) (fun hc6 => ?_)
 refine Ma (Ca (Ac Oi rfl) (Pd (Cx isAgg9 rfl hF.F 0 rfl rfl) ?_))
 refine Pb hF (Q7 t hk.1 _ (hG.ext hF.same)) (Ib SF rfl rfl) ?_
 clear hF; intro w hF
 refine Ca (Gc rfl) (Ha ?_)
 refine Le (v := .bool _) rfl rfl ?_
 refine ⟨?_, hF.same⟩
 clear hF hR hK hX hb1
 simp_all [nodeB, List.length_pos_iff]
 refine Ma (Ca (Un rfl rfl) (Ca (Gc rfl) (Ha ?_)))
 refine Jc rfl rfl (fun hc7 => ?_) (fun hc7 => ?_)
 refine Ma (Ca (Ac Oi rfl) (Pd (Cx isAgg9 rfl hF.F 0 rfl rfl) ?_))
 refine Pb hF (IH t hk.1 _ (hG.ext hF.same)) (Ib CL rfl rfl) ?_
 clear hF; intro w hF
 refine Ca (Gc rfl) (Ha ?_)
 refine Le (v := .bool _) rfl rfl ?_
 refine ⟨?_, hF.same⟩
 clear hF hR hK hX hb1
 simp_all [nodeB, List.length_pos_iff]
 refine Xa (Mb (Ga (Ma (Ca (Gc rfl) (Ha ?_)))))
 refine Le (v := .bool false) rfl rfl ?_
 refine ⟨?_, hF.same⟩
 clear hF hR hK hX hb1
 simp_all [nodeB, List.length_pos_iff]
end Go.Scarf
namespace Go.Scarf
open Go.RowKit Go.Proofs Go.Proofs.Tryz
theorem Tree.ind {Q : Tree → Prop} (h : ∀ k t ks xs, (∀ x, x ∈ xs → Q x) → Q (.node k t ks xs)) (x : Tree) : Q x :=
  Tree.rec (motive_1 := Q) (motive_2 := fun xs => ∀ x, x ∈ xs → Q x) (fun k t ks xs ih => h k t ks xs ih) Fa
    (fun y ys h1 h2 => by
      intro z hz
      rcases List.mem_cons.1 hz with rfl | hz
      · exact h1
      · exact h2 z hz) x
mutual
def Nc : Tree → Nat | .node _ _ _ xs => 1 + Rc xs
def Rc : List Tree → Nat | [] => 0 | x :: xs => Nc x + Rc xs
end
mutual
def Hd : Tree → Nat | .node _ _ _ xs => Tc xs + 1
def Tc : List Tree → Nat | [] => 0 | x :: xs => max (Hd x) (Tc xs)
end
theorem Sp : ∀ (xs ys : List Tree), Rc (xs ++ ys) = Rc xs + Rc ys
  | [], ys => by simp [Rc]
  | x :: xs, ys => by simp [Rc, Sp xs ys, Nat.add_assoc]
theorem To : ∀ (xs ys : List Tree), Tc (xs ++ ys) = max (Tc xs) (Tc ys)
  | [], ys => by simp [Tc]
  | x :: xs, ys => by simp only [List.cons_append, Tc, To xs ys]; omega
theorem X3 (xs : List Tree) (j : Nat) (hj : j < xs.length) : Rc (xs.take (j+1)) = Rc (xs.take j) + Nc xs[j] := by
  rw [List.take_succ_eq_append_getElem hj, Sp]; simp [Rc]
theorem Rz (xs : List Tree) (j : Nat) (hj : j < xs.length) : Tc (xs.take (j+1)) = max (Tc (xs.take j)) (Hd xs[j]) := by
  rw [List.take_succ_eq_append_getElem hj, To]; simp [Tc]
theorem Ej : ∀ {xs : List Tree} {x : Tree}, x ∈ xs → Nc x ≤ Rc xs
  | [], _, h => absurd h Fa
  | y :: ys, x, h => by
    rw [Rc]
    rcases List.mem_cons.1 h with rfl | h
    · omega
    · have := Ej h; omega
theorem V_ (x : Tree) : 1 ≤ Nc x := by cases x; rw [Nc]; omega
theorem Gn : ∀ (xs : List Tree), xs.length ≤ Rc xs
  | [] => by simp [Rc]
  | x :: xs => by have := Gn xs; have := V_ x; simp only [Rc, List.length_cons]; omega
theorem FB (x : Tree) : Hd x ≤ Nc x := by
  refine Tree.ind (Q := fun x => Hd x ≤ Nc x) (fun k t ks xs ih => ?_) x
  have : Tc xs ≤ Rc xs := by
    induction xs with
    | nil => simp [Tc, Rc]
    | cons y ys ihy =>
      have h1 := ih y Fa
      have h2 := ihy (fun z hz => ih z (by simp [hz]))
      simp only [Tc, Rc]; omega
  simp only [Hd, Nc]; omega
theorem O6 (xs : List Tree) : Tc xs ≤ Rc xs := by
  have := FB (.node 0 [] [] xs)
  simp only [Hd, Nc] at this; omega
def UC (x : Tree) : Prop := ∀ S w0 cs, Rep S w0 (Zc x) cs → Calls prog 67 #[.agg cs.toArray] w0 (Kd fun v w' => v = .int .i64 (wr (Nc x)) ∧ Same [] w0 w')
theorem L_ (k : Int) (t : Str) (ks : List Str) (xs : List Tree) (ih : ∀ x, x ∈ xs → UC x) : UC (.node k t ks xs) := by
 intro S w0 cs hR
 obtain ⟨A, c, B, e, rfl, -, -, -, hX⟩ := hR.tree_inv
 have hXl := hX.slice_len
 refine Ka func67 rfl ntmps67 Jb (Vc _) ?_
 have hF := FR.start w0 []
 refine Ma ?_
 refine Vj hF rfl ?_
 clear hF; rintro b1 w hb1 hF -
 refine Ca (Qc rfl) (Dc (Ca (Qc rfl) (Ha (Ia (Ma (Ca (Ac Te rfl) (Pd (Xi isAgg22 rfl hF.F 0 rfl rfl) (Ca (Ff underlying22 rfl) ?_))))))))
 refine Ca (Hb rfl) (Ha (Za ?_))
 refine Uc (fun μ σ w => ∃ (j : Nat), μ = xs.length - j ∧ (j ≤ xs.length) ∧ AllEq σ [(3, .int .i64 (wr (1 + Rc (xs.take j)))), (7, .slice B xs.length e), (8, .int .i64 ((xs.length : Nat))), (9, .int .i64 ((j : Int)))] ∧ FR w0 [] [(b1, .cells #[.int .i64 k, .string (bs t), .slice A ks.length c, .slice B xs.length e] 27)] w) _ ⟨0, rfl, (Nat.zero_le _), Mu, hF⟩ ?_
 clear hF; rintro μ σ w ⟨j, rfl, hj, hs, hF⟩
 refine Cg.slots hs ?_
 clear hs; intro σ
 refine Ma (Ca (Zl rfl rfl) (Ha (Ia ?_)))
 refine Jc rfl rfl (fun hc0 => ?_) (fun hc0 => ?_)
 refine Xa (Ga (Ia (Za (Ma ?_))))
 obtain ⟨ad0, cs0, hA0, hl0, hk0, hx0⟩ := hX.tree_elem (i := j) by_Om
 have ho0 := hx0.one_
 refine Ja (v := .pointer (some (ad0.add (j * 4)))) (Ra (i := (j : Int)) Sn rfl hA0 rfl by_Om by_Om) (Ja (v := .agg (List.toArray cs0)) (Ec (l := cs0) isAgg27 sizeOf27 rfl hl0 (hF.cells0 hk0)) ?_)
 refine Ut (l := cs0) hF zeroValue27 (by rw [hl0]; exact sizeOf27) (by rw [hl0]; rfl) (v := .agg (List.toArray cs0)) rfl rfl (ho0) rfl ?_
 clear hF; rintro b2 w hb2 hF -
 refine Ha (Da (Ca (Hb rfl) (Ja (v := .agg (List.toArray cs0)) (Ec (l := cs0) isAgg27 sizeOf27 rfl hl0 (hF.cellsAll 0 rfl)) ?_)))
 refine Pb hF (ih _ (List.getElem_mem _) _ _ _ (hF.rep hx0)) (Ib VG rfl rfl) ?_
 clear hF; intro w hF
 refine Ja (v := .int .i64 (wr (1 + Rc (xs.take (j + 1))))) (Nt rfl rfl (by rw [R_, X3 xs j by_Om, Int.natCast_add, Int.add_assoc])) ?_
 refine Ca (Qc rfl) (Wa (Mb (Ga (Da (Ca (Ko rfl rfl) (Ca (Hb rfl) (Wa ?_)))))))
 refine Fc ⟨_, ?_, j + 1, rfl, by_Om, Mu, hF.drop 1⟩
 omega
 refine Oc (Mc rfl ?_)
 refine Ga (Ma (Ca (Hb rfl) (Ca (Qc rfl) (Ha ?_))))
 refine Le (v := .int .i64 (wr (1 + Rc (xs.take j)))) rfl rfl ?_
 obtain rfl : j = xs.length := by omega
 exact ⟨by simp [Nc], hF.same⟩
theorem VH (x : Tree) : UC x := Tree.ind L_ x
def D5 (x : Tree) : Prop := Nc x ≤ 1000000000 → ∀ S w0 cs, Rep S w0 (Zc x) cs → Calls prog 68 #[.agg cs.toArray] w0 (Kd fun v w' => v = .int .i64 (Hd x : Nat) ∧ Same [] w0 w')
theorem U6 (k : Int) (t : Str) (ks : List Str) (xs : List Tree) (ih : ∀ x, x ∈ xs → D5 x) : D5 (.node k t ks xs) := by
 intro hsz S w0 cs hR
 obtain ⟨A, c, B, e, rfl, -, -, -, hX⟩ := hR.tree_inv
 have hXl := hX.slice_len
 have hdl := O6 xs
 rw [Nc] at hsz
 refine Ka func68 rfl ntmps68 Jb (Vc _) ?_
 have hF := FR.start w0 []
 refine Ma ?_
 refine Vj hF rfl ?_
 clear hF; rintro b1 w hb1 hF -
 refine Ca (Qc rfl) (Dc (Ca (Qc rfl) (Ha (Ia (Ma (Ca (Ac Te rfl) (Pd (Xi isAgg22 rfl hF.F 0 rfl rfl) (Ca (Ff underlying22 rfl) ?_))))))))
 refine Ca (Hb rfl) (Ha (Za ?_))
 refine Uc (fun μ σ w => ∃ (j : Nat), μ = xs.length - j ∧ (j ≤ xs.length) ∧ AllEq σ [(3, .int .i64 ((Tc (xs.take j) : Nat))), (7, .slice B xs.length e), (8, .int .i64 ((xs.length : Nat))), (9, .int .i64 ((j : Int)))] ∧ FR w0 [] [(b1, .cells #[.int .i64 k, .string (bs t), .slice A ks.length c, .slice B xs.length e] 27)] w) _ ⟨0, rfl, (Nat.zero_le _), Mu, hF⟩ ?_
 clear hF; rintro μ σ w ⟨j, rfl, hj, hs, hF⟩
 refine Cg.slots hs ?_
 clear hs; intro σ
 refine Ma (Ca (Zl rfl rfl) (Ha (Ia ?_)))
 refine Jc rfl rfl (fun hc0 => ?_) (fun hc0 => ?_)
 refine Xa (Ga (Ia (Za (Ma ?_))))
 obtain ⟨ad0, cs0, hA0, hl0, hk0, hx0⟩ := hX.tree_elem (i := j) by_Om
 have ho0 := hx0.one_
 refine Ja (v := .pointer (some (ad0.add (j * 4)))) (Ra (i := (j : Int)) Sn rfl hA0 rfl by_Om by_Om) (Ja (v := .agg (List.toArray cs0)) (Ec (l := cs0) isAgg27 sizeOf27 rfl hl0 (hF.cells0 hk0)) ?_)
 refine Ut (l := cs0) hF zeroValue27 (by rw [hl0]; exact sizeOf27) (by rw [hl0]; rfl) (v := .agg (List.toArray cs0)) rfl rfl (ho0) rfl ?_
 clear hF; rintro b2 w hb2 hF -
 refine Ha (Da (Ca (Hb rfl) (Ja (v := .agg (List.toArray cs0)) (Ec (l := cs0) isAgg27 sizeOf27 rfl hl0 (hF.cellsAll 0 rfl)) ?_)))
 refine Pb hF (ih _ (List.getElem_mem _) (by have := Ej (List.getElem_mem (l := xs) (n := j) by_Om); omega) _ _ _ (hF.rep hx0)) (Ib GG rfl rfl) ?_
 clear hF; intro w hF
 refine Ja (v := .int .i64 ((Tc (xs.take (j + 1)) : Nat))) (by rw [← show max ((Tc (xs.take j) : Nat) : Int) ((Hd xs[j] : Nat) : Int) = ((Tc (xs.take (j + 1)) : Nat) : Int) from by rw [Rz xs j by_Om]; omega]; exact RJ rfl rfl) ?_
 refine Ca (Qc rfl) (Wa (Mb (Ga (Da (Ca (Ko rfl rfl) (Ca (Hb rfl) (Wa ?_)))))))
 refine Fc ⟨_, ?_, j + 1, rfl, by_Om, Mu, hF.drop 1⟩
 omega
 refine Oc (Mc rfl ?_)
 refine Ga (Ma (Ca (Hb rfl) ?_))
 have eT : xs.take j = xs := List.take_of_length_le by_Om
 refine Ja (v := .int .i64 ((Hd (.node k t ks xs) : Nat))) (Nt rfl rfl (by rw [eT, Hd]; exact Gh by_Om by_Om by_Om)) ?_
 refine Ca (Qc rfl) (Ha ?_)
 refine Le (v := .int .i64 ((Hd (.node k t ks xs) : Nat))) rfl rfl ?_
 exact ⟨rfl, hF.same⟩
theorem VE (x : Tree) : D5 x := Tree.ind U6 x
end Go.Scarf
namespace Go.Scarf
open Go.RowKit Go.Proofs Go.Proofs.Tryz
theorem Same.cell {w w' : World} {a : Addr} {v : Value} (h : Same [] w w') (hc : w.cell? a = some v) : w'.cell? a = some v := ((FR.start w []).ext h).cell0 hc
mutual
def Rd (q : Tree → Bool) : Tree → Bool | .node k t ks xs => q (.node k t ks xs) && Gm q xs
def Gm (q : Tree → Bool) : List Tree → Bool | [] => true | x :: xs => Rd q x && Gm q xs
end
theorem Fm (q : Tree → Bool) : ∀ xs : List Tree, Gm q xs = !(xs.any fun x => !Rd q x)
  | [] => rfl
  | x :: xs => by rw [Gm, Fm q xs]; simp
def EachC (w0 : World) (bb : Nat) (xs : List Tree) (q : Tree → Bool) : Prop := ∀ x, x ∈ xs → ∀ S w cs, Same [] w0 w → Rep S w (Zc x) cs → Calls prog 70 #[.agg cs.toArray, .pointer (some ⟨bb, 0, none⟩)] w (Kd fun v w' => v = .bool (q x) ∧ Same [] w w')
theorem EachC.ext {w0 w : World} {bb : Nat} {xs : List Tree} {q : Tree → Bool} (h : EachC w0 bb xs q) (hs : Same [] w0 w) : EachC w bb xs q := fun x hx S w' cs hw => h x hx S w' cs (hs.trans hw)
theorem I_ {q : Tree → Bool} {xs : List Tree} {j : Nat} (h : j < xs.length) (hn : (xs.take j).any q = false) (hq : q xs[j] = false) : (xs.take (j + 1)).any q = false := by
  rw [List.take_succ_eq_append_getElem h, List.any_append, hn]; simp [hq]
def Cq (g : Nat) (q : Tree → Bool) (x : Tree) : Prop := ∀ S w0 cs, Rep S w0 (Zc x) cs → Bx x → Gl w0 → Calls prog 49 #[.agg cs.toArray, .func (.func g) #[] #[]] w0 (Kd fun v w' => v = .bool (Rd q x) ∧ Same [] w0 w')
theorem N3 (xs : List Tree) (q : Tree → Bool) (bb : Nat) (B : Option Addr) (e : Nat) (S : Nat → Prop) (w0 : World) (hX : Rep S w0 (.slice (Ee xs)) [.slice B xs.length e]) (hq : EachC w0 bb xs q) : Calls prog 96 #[.slice B xs.length e, .func (.func 70) #[] #[.pointer (some ⟨bb, 0, none⟩)]] w0 (Kd fun v w' => ∃ n : Int, v = .int .i64 n ∧ decide (0 ≤ n) = xs.any q ∧ Same [] w0 w') := by
 have hXl := hX.slice_len
 refine Ka func96 rfl ntmps96 Jb (Td _ _) ?_
 have hF := FR.start w0 []
 refine Ma (Ca (Qc rfl) (Ha (Ia (Ma (Ca (Ae rfl) (Ca (Ff underlying22 rfl) (Ca (Hb rfl) (Ha (Za ?_)))))))))
 refine Uc (fun μ σ w => ∃ (j : Nat), μ = xs.length - j ∧ (j ≤ xs.length) ∧ ((xs.take j).any q = false) ∧ AllEq σ [(0, .slice B xs.length e), (1, .func (.func 70) #[] #[.pointer (some (⟨bb, 0, none⟩))]), (7, .int .i64 ((xs.length : Nat))), (8, .int .i64 ((j : Int)))] ∧ FR w0 [] [] w) _ ⟨0, rfl, (Nat.zero_le _), Fa, Mu, hF⟩ ?_
 clear hF; rintro μ σ w ⟨j, rfl, hj, hn, hs, hF⟩
 refine Cg.slots hs ?_
 clear hs; intro σ
 refine Ma (Ca (Zl rfl rfl) (Ha (Ia ?_)))
 refine Jc rfl rfl (fun hc0 => ?_) (fun hc0 => ?_)
 refine Xa (Ga (Ia (Za (Ma (Ca (Hb rfl) (Ca (Qc rfl) (Dc (Ca (K4) (Ca (Ae rfl) ?_)))))))))
 refine Ca (Hb rfl) ?_
 obtain ⟨ad0, cs0, hA0, hl0, hk0, hx0⟩ := hX.tree_elem (i := j) by_Om
 have ho0 := hx0.one_
 refine Ja (v := .pointer (some (ad0.add (j * 4)))) (Ra (i := (j : Int)) Sn rfl hA0 rfl by_Om by_Om) (Ja (v := .agg (List.toArray cs0)) (Ec (l := cs0) isAgg27 sizeOf27 rfl hl0 (hF.cells0 hk0)) ?_)
 refine Pb hF (hq _ (List.getElem_mem (l := xs) (n := j) by_Om) _ _ _ hF.same (hF.rep hx0)) (Qv rfl GK rfl rfl) ?_
 clear hF; intro w hF
 refine Ha ?_
 refine Gk rfl rfl (fun hc1 => ?_) (fun hc1 => ?_)
 refine Ma (Ca (Hb rfl) (Ca (Qc rfl) (Ha ?_)))
 refine Le (v := .int .i64 ((j : Int))) rfl rfl ?_
 exact ⟨_, rfl, by rw [List.any_eq_true.2 ⟨_, List.getElem_mem (l := xs) (n := j) by_Om, hc1⟩]; simp, hF.same⟩
 refine Xa (Mb (Ga (Da (Ca (Ko rfl rfl) (Ca (Hb rfl) (Wa ?_))))))
 refine Fc ⟨_, ?_, j + 1, rfl, by_Om, (I_ by_Om hn hc1), Mu, hF⟩
 omega
 refine Oc (Mc rfl ?_)
 refine Ga (Ma (Ca (Qc rfl) (Ha ?_)))
 refine Le (v := .int .i64 ((-1))) rfl rfl ?_
 have eT : xs.take j = xs := List.take_of_length_le by_Om
 rw [eT] at hn
 exact ⟨_, rfl, by rw [hn]; decide, hF.same⟩
theorem Uo (xs : List Tree) (q : Tree → Bool) (bb : Nat) (B : Option Addr) (e : Nat) (S : Nat → Prop) (w0 : World) (hX : Rep S w0 (.slice (Ee xs)) [.slice B xs.length e]) (hq : EachC w0 bb xs q) : Calls prog 69 #[.slice B xs.length e, .func (.func 70) #[] #[.pointer (some ⟨bb, 0, none⟩)]] w0 (Kd fun v w' => v = .bool (xs.any q) ∧ Same [] w0 w') := by
 refine Ka func69 rfl ntmps69 Jb (Td _ _) ?_
 have hF := FR.start w0 []
 refine Ma (Ca (Gc rfl) (Dc (Ca (Ae rfl) (Ca (K4) ?_))))
 refine Cb (N3 xs q bb B e S _ (hF.rep hX) (hq.ext hF.same)) (Kb KK rfl rfl rfl) ?_
 rintro _ w ⟨n, rfl, hn, hE⟩
 replace hF := hF.ext hE
 clear hE
 refine Ca (CC rfl rfl) (Ca (Gc rfl) (Ha ?_))
 refine Le (v := .bool _) rfl rfl ?_
 exact ⟨congrArg Value.bool hn, hF.same⟩
theorem Dz (g : Nat) (q : Tree → Bool) (x : Tree) (h : Cq g q x) (bb : Nat) (S : Nat → Prop) (w0 : World) (cs : List Value) (hR : Rep S w0 (Zc x) cs) (hk : Bx x) (hG : Gl w0) (hb : w0.cell? ⟨bb, 0, none⟩ = some (.func (.func g) #[] #[])) : Calls prog 70 #[.agg cs.toArray, .pointer (some ⟨bb, 0, none⟩)] w0 (Kd fun v w' => v = .bool (!Rd q x) ∧ Same [] w0 w') := by
 have hl : cs.length = 4 := hR.length.trans (Sd x)
 have ho := hR.one_
 refine Ka func70 rfl ntmps70 Jb (Td _ _) ?_
 have hF := FR.start w0 []
 refine Ma ?_
 refine Up (v := .agg (List.toArray cs)) (cs := (List.toArray cs)) hF rfl rfl ?_
 clear hF; rintro b1 w hb1 hF -
 refine Ca (Gc rfl) (Dc (Ja (v := .agg (List.toArray cs)) (Ec (l := cs) isAgg27 sizeOf27 rfl hl (hF.cellsAll 0 rfl)) (Ja (v := .func (.func g) #[] #[]) (Va isAgg65 rfl (hF.cell0 hb)) ?_)))
 refine Pb hF (h S _ cs (hF.rep hR) hk (hG.ext hF.same)) (Kb VD rfl rfl rfl) ?_
 clear hF; intro w hF
 refine Ca (Zo rfl) (Ca (Gc rfl) (Ha ?_))
 refine Le (v := .bool _) rfl rfl ?_
 exact ⟨rfl, hF.same⟩
theorem I0 (q : Tree → Bool) (hp : Vy 60 q) (k : Int) (t : Str) (ks : List Str) (xs : List Tree) (ih : ∀ x, x ∈ xs → Cq 60 q x) : Cq 60 q (.node k t ks xs) := by
 intro S w0 cs hR hk hG
 have hk' := hk
 rw [Bx] at hk'
 obtain ⟨A, c, B, e, rfl, -, -, hK, hX⟩ := hR.tree_inv
 refine Ka func49 rfl ntmps49 Jb (Td _ _) ?_
 have hF := FR.start w0 []
 refine Ma ?_
 refine Vj hF rfl ?_
 clear hF; rintro b1 w hb1 hF -
 refine UI (.func (.func 60) #[] #[]) hF rfl ?_
 clear hF; rintro b2 w hb2 hF -
 refine Ca (Gc rfl) (Dc (Pd (NL isAgg65 rfl hF.F 0 rfl rfl) (Pd (Pk isAgg27 sizeOf27 rfl hF.F 1 rfl rfl) ?_)))
 refine Pb hF (hp (.node k t ks xs) S _ _ (hF.rep hR) hk (hG.ext hF.same)) (Qv rfl SJ rfl rfl) ?_
 clear hF; intro w hF
 refine Ca (Ud rfl) ?_
 refine Mf (d := 8) rfl (fun hg0 => ?_) (fun hg0 => ?_)
 refine Ca (Ac Te rfl) (Pd (Xi isAgg22 rfl hF.F 1 rfl rfl) (Ja (v := .func (.func 70) #[] #[.pointer (some ⟨b2, 0, none⟩)]) (Cr rfl) ?_))
 refine Pb hF (Uo xs (fun x => !Rd q x) b2 B e S _ (hF.rep hX) (fun x hx S' w' cs' hs hr => Dz 60 q x (ih x hx) b2 S' w' cs' hr (No hk'.2.2 x hx) ((hG.ext hF.same).ext hs) (hs.cell (hF.cell 0 rfl rfl)))) (Kb EG rfl rfl rfl) ?_
 clear hF; intro w hF
 refine Ca (Zo rfl) (Ca (Xc rfl rfl) (Ca (Gc rfl) (Ha ?_)))
 refine Le (v := .bool _) rfl rfl ?_
 refine ⟨?_, hF.same⟩
 rw [Rd, Fm]
 simp_all
 refine Pa (Pa (Pa (Pa (Pa (Ca (Md rfl rfl) (Ca (Gc rfl) (Ha ?_)))))))
 refine Le (v := .bool false) rfl rfl ?_
 refine ⟨?_, hF.same⟩
 rw [Rd, Fm]
 simp_all
theorem K9 (q : Tree → Bool) (hp : Vy 60 q) (x : Tree) : Cq 60 q x := Tree.ind (I0 q hp) x
theorem Sz (q : Tree → Bool) (hp : Vy 50 q) (k : Int) (t : Str) (ks : List Str) (xs : List Tree) (ih : ∀ x, x ∈ xs → Cq 50 q x) : Cq 50 q (.node k t ks xs) := by
 intro S w0 cs hR hk hG
 have hk' := hk
 rw [Bx] at hk'
 obtain ⟨A, c, B, e, rfl, -, -, hK, hX⟩ := hR.tree_inv
 refine Ka func49 rfl ntmps49 Jb (Td _ _) ?_
 have hF := FR.start w0 []
 refine Ma ?_
 refine Vj hF rfl ?_
 clear hF; rintro b1 w hb1 hF -
 refine UI (.func (.func 50) #[] #[]) hF rfl ?_
 clear hF; rintro b2 w hb2 hF -
 refine Ca (Gc rfl) (Dc (Pd (NL isAgg65 rfl hF.F 0 rfl rfl) (Pd (Pk isAgg27 sizeOf27 rfl hF.F 1 rfl rfl) ?_)))
 refine Pb hF (hp (.node k t ks xs) S _ _ (hF.rep hR) hk (hG.ext hF.same)) (Qv rfl HG rfl rfl) ?_
 clear hF; intro w hF
 refine Ca (Ud rfl) ?_
 refine Mf (d := 8) rfl (fun hg0 => ?_) (fun hg0 => ?_)
 refine Ca (Ac Te rfl) (Pd (Xi isAgg22 rfl hF.F 1 rfl rfl) (Ja (v := .func (.func 70) #[] #[.pointer (some ⟨b2, 0, none⟩)]) (Cr rfl) ?_))
 refine Pb hF (Uo xs (fun x => !Rd q x) b2 B e S _ (hF.rep hX) (fun x hx S' w' cs' hs hr => Dz 50 q x (ih x hx) b2 S' w' cs' hr (No hk'.2.2 x hx) ((hG.ext hF.same).ext hs) (hs.cell (hF.cell 0 rfl rfl)))) (Kb EG rfl rfl rfl) ?_
 clear hF; intro w hF
 refine Ca (Zo rfl) (Ca (Xc rfl rfl) (Ca (Gc rfl) (Ha ?_)))
 refine Le (v := .bool _) rfl rfl ?_
 refine ⟨?_, hF.same⟩
 rw [Rd, Fm]
 simp_all
 refine Pa (Pa (Pa (Pa (Pa (Ca (Md rfl rfl) (Ca (Gc rfl) (Ha ?_)))))))
 refine Le (v := .bool false) rfl rfl ?_
 refine ⟨?_, hF.same⟩
 rw [Rd, Fm]
 simp_all
theorem F_ (q : Tree → Bool) (hp : Vy 50 q) (x : Tree) : Cq 50 q x := Tree.ind (Sz q hp) x
end Go.Scarf
namespace Go.Scarf
open Go.RowKit Go.Proofs Go.Proofs.Tryz
def rnodeB (x : Tree) : Bool := decide (x.kind ≠ 7) && nodeB x
def Wm (x : Tree) : Bool := decide (Nc x ≤ 4096) && decide (Hd x ≤ 32)
def Ui (x : Tree) : Bool := Wm x && Rd nodeB x
def Qd (x : Tree) : Bool := Wm x && Rd rnodeB x
theorem VA {n : Nat} (h : n ≤ 1000000000) : wr (n : Int) = (n : Int) := Pl by_Om by_Om
theorem DF  : Vy 60 rnodeB := by
 rintro ⟨k, t, ks, xs⟩ S w0 cs hR hk hG
 obtain ⟨A, c, B, e, rfl, -, -, hK, hX⟩ := hR.tree_inv
 refine Ka func60 rfl ntmps60 Jb (Vc _) ?_
 have hF := FR.start w0 []
 refine Ma ?_
 refine Vj hF rfl ?_
 clear hF; rintro b1 w hb1 hF -
 refine Ca (Gc rfl) (Dc (Ca (Ac Ln rfl) (Pd (Ar isAgg3 rfl hF.F 0 rfl rfl) (Ca (N4 rfl rfl) (Ca (Ud rfl) ?_)))))
 refine Dd (d := 6) rfl (fun hg0 => ?_) (fun hg0 => ?_)
 refine Pd (Pk isAgg27 sizeOf27 rfl hF.F 0 rfl rfl) ?_
 refine Pb hF (AD (.node k t ks xs) S _ _ (hF.rep hR) hk (hG.ext hF.same)) (Ib HG rfl rfl) ?_
 clear hF; intro w hF
 refine Ca (Xc rfl rfl) (Ca (Gc rfl) (Ha ?_))
 refine Le (v := .bool _) rfl rfl ?_
 refine ⟨?_, hF.same⟩
 simp_all [rnodeB, Tree.kind]
 refine Pa (Pa (Ca (Md rfl rfl) (Ca (Gc rfl) (Ha ?_))))
 refine Le (v := .bool false) rfl rfl ?_
 refine ⟨?_, hF.same⟩
 simp_all [rnodeB, Tree.kind]
theorem DH (x : Tree) (hsz : Nc x ≤ 1000000000) (S : Nat → Prop) (w0 : World) (cs : List Value) (hR : Rep S w0 (Zc x) cs) : Calls prog 67 #[.agg cs.toArray] w0 (Kd fun v w' => v = .int .i64 (Nc x : Nat) ∧ Same [] w0 w') := by
  have h := VH x S w0 cs hR
  rwa [VA hsz] at h
theorem T8 (x : Tree) (hsz : Nc x ≤ 1000000000) (S : Nat → Prop) (w0 : World) (cs : List Value) (hR : Rep S w0 (Zc x) cs) : Calls prog 48 #[.agg cs.toArray] w0 (Kd fun v w' => v = .bool (Wm x) ∧ Same [] w0 w') := by
 have hl : cs.length = 4 := hR.length.trans (Sd x)
 have ho := hR.one_
 refine Ka func48 rfl ntmps48 Jb (Vc _) ?_
 have hF := FR.start w0 []
 refine Ma ?_
 refine Up (v := .agg (List.toArray cs)) (cs := (List.toArray cs)) hF rfl rfl ?_
 clear hF; rintro b1 w hb1 hF -
 refine Ca (Gc rfl) (Dc (Ja (v := .agg (List.toArray cs)) (Ec (l := cs) isAgg27 sizeOf27 rfl hl (hF.cellsAll 0 rfl)) ?_))
 refine Pb hF (DH x hsz S _ cs (hF.rep hR)) (Ib VG rfl rfl) ?_
 clear hF; intro w hF
 refine Ca (OH rfl rfl) (Ca (Ud rfl) ?_)
 refine Dd (d := 6) rfl (fun hg0 => ?_) (fun hg0 => ?_)
 refine Ja (v := .agg (List.toArray cs)) (Ec (l := cs) isAgg27 sizeOf27 rfl hl (hF.cellsAll 0 rfl)) ?_
 refine Pb hF (VE x hsz S _ cs (hF.rep hR)) (Ib GG rfl rfl) ?_
 clear hF; intro w hF
 refine Ca (OH rfl rfl) (Ca (Xc rfl rfl) (Ca (Gc rfl) (Ha ?_)))
 refine Le (v := .bool _) rfl rfl ?_
 refine ⟨congrArg Value.bool ?_, hF.same⟩
 unfold Wm
 first | (rw [decide_eq_true (by omega : Nc x ≤ 4096)]; exact decide_eq_decide.2 by_Om) | (rw [decide_eq_false (by omega : ¬ Nc x ≤ 4096)]; rfl)
 refine Pa (Pa (Pa (Ca (Md rfl rfl) (Ca (Gc rfl) (Ha ?_)))))
 refine Le (v := .bool false) rfl rfl ?_
 refine ⟨congrArg Value.bool ?_, hF.same⟩
 unfold Wm
 first | (rw [decide_eq_true (by omega : Nc x ≤ 4096)]; exact decide_eq_decide.2 by_Om) | (rw [decide_eq_false (by omega : ¬ Nc x ≤ 4096)]; rfl)
theorem Nz (x : Tree) (hsz : Nc x ≤ 1000000000) (S : Nat → Prop) (w0 : World) (cs : List Value) (hR : Rep S w0 (Zc x) cs) (hk : Bx x) (hG : Gl w0) : Calls prog 41 #[.agg cs.toArray] w0 (Kd fun v w' => v = .bool (Qd x) ∧ Same [] w0 w') := by
 have hl : cs.length = 4 := hR.length.trans (Sd x)
 have ho := hR.one_
 refine Ka func41 rfl ntmps41 Jb (Vc _) ?_
 have hF := FR.start w0 []
 refine Ma ?_
 refine Up (v := .agg (List.toArray cs)) (cs := (List.toArray cs)) hF rfl rfl ?_
 clear hF; rintro b1 w hb1 hF -
 refine Ca (Gc rfl) (Dc (Ja (v := .agg (List.toArray cs)) (Ec (l := cs) isAgg27 sizeOf27 rfl hl (hF.cellsAll 0 rfl)) ?_))
 refine Pb hF (T8 x hsz S _ cs (hF.rep hR)) (Ib FG rfl rfl) ?_
 clear hF; intro w hF
 refine Ca (Ud rfl) ?_
 refine Mf (d := 5) rfl (fun hg0 => ?_) (fun hg0 => ?_)
 refine Ja (v := .agg (List.toArray cs)) (Ec (l := cs) isAgg27 sizeOf27 rfl hl (hF.cellsAll 0 rfl)) ?_
 refine Pb hF (K9 rnodeB DF x S _ cs (hF.rep hR) hk (hG.ext hF.same)) (Kb VD rfl rfl rfl) ?_
 clear hF; intro w hF
 refine Ca (Xc rfl rfl) (Ca (Gc rfl) (Ha ?_))
 refine Le (v := .bool _) rfl rfl ?_
 exact ⟨congrArg Value.bool (by unfold Qd; simp_all), hF.same⟩
 refine Pa (Pa (Ca (Md rfl rfl) (Ca (Gc rfl) (Ha ?_))))
 refine Le (v := .bool false) rfl rfl ?_
 exact ⟨congrArg Value.bool (by unfold Qd; simp_all), hF.same⟩
theorem ZI (x : Tree) (hsz : Nc x ≤ 1000000000) (S : Nat → Prop) (w0 : World) (cs : List Value) (hR : Rep S w0 (Zc x) cs) (hk : Bx x) (hG : Gl w0) : Calls prog 33 #[.agg cs.toArray] w0 (Kd fun v w' => v = .bool (Ui x) ∧ Same [] w0 w') := by
 have hl : cs.length = 4 := hR.length.trans (Sd x)
 have ho := hR.one_
 refine Ka func33 rfl ntmps33 Jb (Vc _) ?_
 have hF := FR.start w0 []
 refine Ma ?_
 refine Up (v := .agg (List.toArray cs)) (cs := (List.toArray cs)) hF rfl rfl ?_
 clear hF; rintro b1 w hb1 hF -
 refine Ca (Gc rfl) (Dc (Ja (v := .agg (List.toArray cs)) (Ec (l := cs) isAgg27 sizeOf27 rfl hl (hF.cellsAll 0 rfl)) ?_))
 refine Pb hF (T8 x hsz S _ cs (hF.rep hR)) (Ib FG rfl rfl) ?_
 clear hF; intro w hF
 refine Ca (Ud rfl) ?_
 refine Mf (d := 5) rfl (fun hg0 => ?_) (fun hg0 => ?_)
 refine Ja (v := .agg (List.toArray cs)) (Ec (l := cs) isAgg27 sizeOf27 rfl hl (hF.cellsAll 0 rfl)) ?_
 refine Pb hF (F_ nodeB AD x S _ cs (hF.rep hR) hk (hG.ext hF.same)) (Kb VD rfl rfl rfl) ?_
 clear hF; intro w hF
 refine Ca (Xc rfl rfl) (Ca (Gc rfl) (Ha ?_))
 refine Le (v := .bool _) rfl rfl ?_
 exact ⟨congrArg Value.bool (by unfold Ui; simp_all), hF.same⟩
 refine Pa (Pa (Ca (Md rfl rfl) (Ca (Gc rfl) (Ha ?_))))
 refine Le (v := .bool false) rfl rfl ?_
 exact ⟨congrArg Value.bool (by unfold Ui; simp_all), hF.same⟩
end Go.Scarf
