/- A part of the proof. -/
import Derived.Test.YtepbomjpbdbejaaGreatDoorW2
import Derived.Test.YtepbomjpbdbejaaGreatDoorShelf2
import Derived.Test.YtepbomjpbdbejaaGreatDoorMem
import Derived.Lib.ValidLaws
import Derived.Lib.TrimUEq
import Derived.Lib.MapLaws
import Derived.Test.YtepbomjpbdbejaaGreatDoorMore
set_option linter.all false
set_option maxHeartbeats 8000000
set_option maxRecDepth 10000
namespace Go.Scarf
open Go.RowKit Go.Proofs Go.Proofs.Tryz
def Gm (s : Str) : Bool := decide ((Bf s).2 = 0) && decide (Zn (Bf s).1 = s)
def F3 (s : Str) : Bool := Gm s && (LE (Bf s).1).2 && decide (0 ≤ (LE (Bf s).1).1)
theorem C1 (s : Str) : Ke (Bf s).1 = true := by
  rw [Kj]
  repeat' split
  all_goals first | rfl | simp_all
theorem Oq (s : Str) : (Bf s).1.digits.length ≤ 1000 := (Jd (C1 s)).1
theorem Rl (s : Str) (q : Nat) : Lib.decodeL (s.drop q) = Utf8.decode (bs s) q := Lib.decodeL_drop (bs s) q
theorem Af (s : Str) (q : Nat) : 1 ≤ (Utf8.decode (bs s) q).2 := by rw [← Rl]; exact Lib.decodeL_width _
theorem Ov (s : Str) (q : Nat) (h : q < s.length) : q + (Utf8.decode (bs s) q).2 ≤ s.length := by
  have := Lib.decodeL_le (s.drop q) (by rw [ne_eq, List.drop_eq_nil_iff]; omega)
  rw [Rl, List.length_drop] at this
  omega
theorem Xv (s : Str) (q : Nat) (h : q < s.length) (hv : Lib.validD (s.drop q) = false) (hn : ¬ ((Utf8.decode (bs s) q).1 = 65533 ∧ (Utf8.decode (bs s) q).2 = 1)) : Lib.validD (s.drop (q + (Utf8.decode (bs s) q).2)) = false := by
  rw [Lib.validD_step _ (by rw [ne_eq, List.drop_eq_nil_iff]; omega), Rl, if_neg hn, List.drop_drop] at hv
  exact hv
theorem Fq (s : Str) (q : Nat) (h : q < s.length) : Lib.decodeGo (bs (s.drop q)) = Utf8.decode (bs s) q := by
  have h1 : (bs (s.drop q)).size ≠ 0 := by rw [Ql, List.length_drop]; omega
  rw [Lib.decodeGo, if_neg h1]; exact Rl s q
theorem Tx (s : Str) (hl : s.length ≤ 140737488355328) {w : World} (hG : Gl w) : Calls prog 122 #[.string (bs s)] w (Nd fun v w' => v = .bool (Lib.validD s) ∧ Same [] w w') :=
  Mp (utf8_ValidString (bs s) w (by rw [Ql]; omega) hG.tabs)
theorem S1 (s : Str) {w : World} (hG : Gl w) : Calls prog 123 #[.string (bs s)] w (Nd fun v w' => v = .tuple #[.int .i32 (Lib.decodeGo (bs s)).1, .int .i64 (Lib.decodeGo (bs s)).2] ∧ Same [] w w') :=
  Mp (utf8_DecodeRuneInString (bs s) w hG.tabs)
theorem H9 (s : Str) (hl : s.length ≤ 140737488355328) (w0 : World) (hG : Gl w0) : Calls prog 97 #[.string (bs s)] w0 (Nd fun v w' => ∃ n, v = .tuple #[.int .i64 n, .bool (Lib.validD s)] ∧ Same [] w0 w') := by
  refine Ka func97 rfl ntmps97 Kb (Yc _) ?_
  have hF := FR.start w0 []
  refine Ia ?_
  refine Ea ?_
  refine Ca (Ic rfl) ?_
  refine Ca (Gc rfl) ?_
  refine Za ?_
  refine Ha ?_
  refine Ia ?_
  refine Ia ?_
  refine Ea ?_
  refine Ca (Xe rfl) ?_
  refine Pb hF (Tx s hl (hG.ext hF.same)) (Fb HK rfl rfl) ?_
  clear hF; intro w hF
  refine Za ?_
  refine Ha ?_
  refine Qj rfl rfl (fun hc0 => ?_) (fun hc0 => ?_)
  ·
    refine Ia ?_
    refine Ea ?_
    refine Ca (Xe rfl) ?_
    refine Ca (W3 underlying9 rfl) ?_
    refine Ca (Ic rfl) ?_
    refine Ca (Gc rfl) ?_
    refine Za ?_
    refine Ha ?_
    refine Zb (Xb (Ua (We (v := .int .i64 ((((s) : Str).length : Int))) (x := .bool true) rfl rfl rfl) ?_))
    exact ⟨_, by rw [hc0], hF.same⟩
  ·
    refine Wa ?_
    refine Ha ?_
    refine Ia ?_
    refine Ia ?_
    refine Ea ?_
    refine Ca (Xe rfl) ?_
    refine Cs (str := s) hF underlying9 rfl ?_
    clear hF; intro b1 w hb1 hF hE
    clear hE
    refine Za ?_
    refine Ha ?_
    refine Va ?_
    refine Xc (fun μ σ w => ∃ (q : Nat), μ = s.length - q ∧ (q ≤ s.length) ∧ (Lib.validD (s.drop q) = false) ∧ AllEq σ [(0, .string (bs s)), (13, .pointer (some ⟨b1, 0, none⟩))] ∧ FR w0 [] [(b1, .stringIter (bs s) (q))] w) _ ⟨0, rfl, (Nat.zero_le _), (by simpa using hc0), I3, hF⟩ ?_
    clear hF; rintro μ σ w ⟨q, rfl, hq, hv, hs, hF⟩
    refine Cg.slots hs ?_
    clear hs; intro σ
    refine Ia ?_
    refine Ea ?_
    by_cases hn0 : (q) < (s : Str).length
    ·
      refine Su 0 (p := q) (str := s) hF rfl rfl hn0 ?_
      clear hF; intro w hF hE
      clear hE
      replace hF : FR w0 [] [(b1, .stringIter (bs s) (q + (Utf8.decode (bs s) (q)).2))] w := hF
      refine Ca (Wq rfl rfl) ?_
      refine Za ?_
      refine Ha ?_
      refine Ia ?_
      refine Je rfl ?_
      refine Wa ?_
      refine Ha ?_
      refine Va ?_
      refine Ia ?_
      refine Ea ?_
      refine Ca (Co rfl rfl) ?_
      refine Ca (Co rfl rfl) ?_
      refine Ca (Ic rfl) ?_
      refine Ca (Ic rfl) ?_
      refine Za ?_
      refine Ha ?_
      refine Ia ?_
      refine Ia ?_
      refine Ea ?_
      refine Ca (Ib rfl) ?_
      refine Ca (Xx rfl rfl) ?_
      refine Za ?_
      refine Ha ?_
      refine Jc rfl rfl (fun hc2 => ?_) (fun hc2 => ?_)
      ·
        refine Lc (Hc rfl ?_)
        have h1 := Af s q
        have hw : ¬ ((Utf8.decode (bs s) q).1 = 65533 ∧ (Utf8.decode (bs s) q).2 = 1) := by
          first
          | (intro hh; omega)
          | (rw [Fq s q by_Om] at hc3; intro hh; omega)
        refine Ec ⟨_, ?_, q + (Utf8.decode (bs s) q).2, rfl, (Ov s q by_Om), (Xv s q by_Om hv hw), I3, hF⟩
        omega
      ·
        refine Wa ?_
        refine Ha ?_
        refine Ia ?_
        refine Ea ?_
        refine Ca (Xe rfl) ?_
        refine Ca (Ib rfl) ?_
        refine Ja (v := .string (bs ((s : Str).drop (q)))) (T4 (q) underlying9 rfl rfl by_Om) ?_
        refine Pb hF (S1 (s.drop q) (hG.ext hF.same)) (Fb CJ rfl rfl) ?_
        clear hF; intro w hF
        refine Ca (Wm rfl) ?_
        refine Ca (Co rfl rfl) ?_
        refine Ca (Co rfl rfl) ?_
        refine Ca (Ic rfl) ?_
        refine Ca (Ic rfl) ?_
        refine Za ?_
        refine Ha ?_
        refine Ia ?_
        refine Ea ?_
        refine Ca (Ib rfl) ?_
        refine Ca (Do rfl rfl) ?_
        refine Za ?_
        refine Ha ?_
        refine Jc rfl rfl (fun hc3 => ?_) (fun hc3 => ?_)
        ·
          refine Ia ?_
          refine Ea ?_
          refine Ca (Ib rfl) ?_
          refine Ca (Ic rfl) ?_
          refine Ca (Gc rfl) ?_
          refine Za ?_
          refine Ha ?_
          refine Zb (Xb (Ua (We (v := .int .i64 (((q : Nat) : Int))) (x := .bool false) rfl rfl rfl) ?_))
          exact ⟨_, by rw [hc0], hF.same⟩
        ·
          refine Wa ?_
          refine Ob ?_
          have h1 := Af s q
          have hw : ¬ ((Utf8.decode (bs s) q).1 = 65533 ∧ (Utf8.decode (bs s) q).2 = 1) := by
            first
            | (intro hh; omega)
            | (rw [Fq s q by_Om] at hc3; intro hh; omega)
          refine Ec ⟨_, ?_, q + (Utf8.decode (bs s) q).2, rfl, (Ov s q by_Om), (Xv s q by_Om hv hw), I3, hF⟩
          omega
    ·
      refine Ym 0 (p := q) (str := s) hF rfl rfl hn0 ?_
      refine Ca (Wq rfl rfl) ?_
      refine Za ?_
      refine Ha ?_
      refine Ia ?_
      refine Mg rfl ?_
      refine Lc (Hc rfl ?_)
      refine Ha ?_
      refine Ia ?_
      refine Ea ?_
      refine Ca (Xe rfl) ?_
      refine Ca (W3 underlying9 rfl) ?_
      refine Ca (Ic rfl) ?_
      refine Ca (Gc rfl) ?_
      refine Za ?_
      refine Ha ?_
      refine Zb (Xb (Ua (We (v := .int .i64 ((((s) : Str).length : Int))) (x := .bool true) rfl rfl rfl) ?_))
      have e : s.drop q = [] := List.drop_eq_nil_of_le by_Om
      rw [e] at hv; cases hv
theorem Y8 (s : Str) (hl : s.length ≤ 140737488355328) (w0 : World) (hG : Gl w0) : Calls prog 73 #[.string (bs s)] w0 (Nd fun v w' => v = .bool (Lib.validD s) ∧ Same [] w0 w') := by
 refine Ka func73 rfl ntmps73 Kb (Yc _) ?_
 have hF := FR.start w0 []
 refine Ma (Ca (Gc rfl) (Dc (Ca (Xe rfl) ?_)))
 refine Ya (H9 s hl _ (hG.ext hF.same)) (Fb QH rfl rfl) ?_
 rintro _ w ⟨n, rfl, hE⟩
 replace hF := hF.ext hE
 clear hE
 refine Ca (Wm rfl) (Ca (Co rfl rfl) (Ca (Wq rfl rfl) (Ca (Ic rfl) (Ca (Gc rfl) (Dc (Ca (Ld rfl) (Ca (Gc rfl) (Ga ?_))))))))
 refine Wd (v := .bool _) rfl rfl ?_
 exact ⟨rfl, hF.same⟩
theorem Iz (s : Str) (hl : s.length ≤ 140737488355328) (w0 : World) (hG : Gl w0) : Calls prog 72 #[.string (bs s)] w0 (Nd fun v w' => v = .tuple #[Jn (Bf s).1, .bool (Gm s)] ∧ Same [] w0 w') := by
 refine Ka func72 rfl ntmps72 Kb (Yc _) ?_
 have hF := FR.start w0 []
 refine Ma ?_
 refine Ch (cs := #[.bool false, .string (bs []), .int .i64 0]) hF zeroValue71 rfl ?_
 clear hF; rintro b1 w hb1 hF -
 refine Ca (Gc rfl) (Dc (Ca (Xe rfl) ?_))
 refine Pb hF (O9 s hl _) (Fb GH rfl rfl) ?_
 clear hF; intro w hF
 refine Ca (Wm rfl) (Ca (ZK rfl rfl) (Ca (Co rfl rfl) ?_))
 refine Hm hF zeroValue71 sizeOf71 rfl ?_
 clear hF; rintro b2 w hb2 hF -
 refine Ca (Ic rfl) (Ga (Ia ?_))
 refine Dd [] (.free 0 (.free 1 (.free 2 (.free 3 (.free 4 (.free 6 (.act 5 (.free 7 (.free 8 (.act 9 (.free 10 .nil))))))))))) hF ?_
 clear hF; rintro w hF -
 refine ⟨fun wq => FR w0 [] [(b2, .cells #[.bool ((Bf s).1.neg), .string (bs ((Bf s).1.digits)), .int .i64 ((Bf s).1.exp)] 71)] wq, hF.sub (.cons_cons _ (.cons _ .slnil)), ?_⟩
 refine Eo rfl (Pk isAgg71 sizeOf71 rfl C0 0 rfl rfl) (Cb rfl (Ib rfl) (Cb rfl (Do rfl rfl) (Cb rfl (Ld rfl) ?_)))
 refine Cl (d := 14) rfl (fun hg0 => ?_) (fun hg0 => ?_)
 refine Eo rfl (Pk isAgg71 sizeOf71 rfl C0 0 rfl rfl) (Cb rfl (Xe rfl) ?_)
 refine Kp hF (UD (Bf s).1 (by have := Oq s; omega) _ (hG.ext hF.same)) rfl (Fb EI rfl rfl) ?_
 clear hF; intro w hF
 refine ⟨hF.sub (.cons_cons _ (.cons _ .slnil)), ?_⟩
 refine Cb rfl (O5 rfl rfl) (Cb rfl (Wc rfl rfl) ?_)
 refine Hs rfl hF sizeOf71 rfl rfl I2 ?_
 clear hF; rintro w hF -
 refine ⟨hF.sub (.cons_cons _ (.cons _ .slnil)), ?_⟩
 refine Cb rfl (Gc rfl) (Bc (Ha ?_))
 refine Zb (Xb (Ua (Yd rfl (l := [.bool ((Bf s).1.neg), .string (bs ((Bf s).1.digits)), .int .i64 ((Bf s).1.exp)]) rfl isAgg71 sizeOf71 rfl (hF.cellsAll 1 rfl) (v := .bool (decide ((Zn (Bf s).1 : Str) = s))) rfl) ?_))
 exact ⟨by simp_all [Gm, Jn], hF.same⟩
 refine Xh rfl ?_
 refine Xh rfl ?_
 refine EJ rfl ?_ (hF.sub (.cons_cons _ (.cons _ .slnil)))
 refine Xh rfl ?_
 refine Cb rfl (Pd rfl rfl) ?_
 refine Hs rfl hF sizeOf71 rfl rfl I2 ?_
 clear hF; rintro w hF -
 refine ⟨hF.sub (.cons_cons _ (.cons _ .slnil)), ?_⟩
 refine Cb rfl (Gc rfl) (Bc (Ha ?_))
 refine Zb (Xb (Ua (Yd rfl (l := [.bool ((Bf s).1.neg), .string (bs ((Bf s).1.digits)), .int .i64 ((Bf s).1.exp)]) rfl isAgg71 sizeOf71 rfl (hF.cellsAll 1 rfl) (v := .bool false) rfl) ?_))
 exact ⟨by simp_all [Gm, Jn], hF.same⟩
theorem TI (s : Str) (hl : s.length ≤ 140737488355328) (w0 : World) (hG : Gl w0) : Calls prog 74 #[.string (bs s)] w0 (Nd fun v w' => v = .bool (F3 s) ∧ Same [] w0 w') := by
 refine Ka func74 rfl ntmps74 Kb (Yc _) ?_
 have hF := FR.start w0 []
 refine Ma (Ca (Gc rfl) (Dc (Ca (Xe rfl) ?_)))
 refine Pb hF (Iz s hl _ (hG.ext hF.same)) (Fb LI rfl rfl) ?_
 clear hF; intro w hF
 refine Ca (Wm rfl) (Ca (ZK rfl rfl) (Ca (Wq rfl rfl) ?_))
 refine Hm hF zeroValue71 sizeOf71 rfl ?_
 clear hF; rintro b1 w hb1 hF -
 refine Ca (Gc rfl) (Dc (Md (Pk isAgg71 sizeOf71 rfl hF.F 0 rfl rfl) ?_))
 refine Pb hF (GC (Bf s).1 (by have := Oq s; omega) _ (hG.ext hF.same)) (Fb EM rfl rfl) ?_
 clear hF; intro w hF
 refine Ca (Wm rfl) (Ca (Co rfl rfl) (Ca (Wq rfl rfl) (Ca (Ic rfl) (Ca (Gc rfl) (Dc (Ca (Ld rfl) (Ca (Ld rfl) ?_)))))))
 refine If (d := 18) rfl (fun hg0 => ?_) (fun hg0 => ?_)
 refine Ca (Ld rfl) (Ca (Wc rfl rfl) (Ca (Ld rfl) ?_))
 refine If (d := 21) rfl (fun hg1 => ?_) (fun hg1 => ?_)
 refine Ca (Ib rfl) (Ca (SE rfl rfl) (Ca (Wc rfl rfl) (Ca (Gc rfl) (Ga ?_))))
 refine Wd (v := .bool _) rfl rfl ?_
 exact ⟨by simp_all [F3], hF.same⟩
 refine Ta (Ta (Ca (Pd rfl rfl) (Ca (Gc rfl) (Ga ?_))))
 refine Wd (v := .bool false) rfl rfl ?_
 exact ⟨by simp_all [F3], hF.same⟩
 refine Ta (Ca (Pd rfl rfl) (Ca (Ld rfl) (Ta (Ta (Ca (Pd rfl rfl) (Ca (Gc rfl) (Ga ?_)))))))
 refine Wd (v := .bool false) rfl rfl ?_
 exact ⟨by simp_all [F3], hF.same⟩
end Go.Scarf
namespace Go.Scarf
open Go.RowKit Go.Proofs Go.Proofs.Tryz
def Zm (ks : List Str) (n : Int) : Bool := decide ks.Nodup && ks.all Lib.validD && decide ((ks.length : Int) = n)
def Hr (ks : List Str) : MapL := ks.map fun k => (k, .bool true)
theorem Mw (ks : List Str) (k : Str) : Gh (Hr ks) k = if k ∈ ks then some (.bool true) else none := by
  induction ks with
  | nil => rfl
  | cons a r ih =>
    have e : Hr (a :: r) = [(a, .bool true)] ++ Hr r := rfl
    rw [e, Xz, ih]
    by_cases h : a = k
    · subst h; simp [Gh]
    · have h' : ¬ k = a := fun e => h e.symm
      simp [Gh, h, h']
theorem V6 (ks : List Str) (j : Nat) (h : j < ks.length) : Hr (ks.take j) ++ [(ks[j], .bool true)] = Hr (ks.take (j + 1)) := by
  unfold Hr; rw [List.take_succ_eq_append_getElem h, List.map_append]; rfl
theorem Ou {ks : List Str} {j : Nat} (h : j < ks.length) (hn : (ks.take j).Nodup) (hi : ¬ ks[j] ∈ ks.take j) : (ks.take (j + 1)).Nodup := by
  rw [List.take_succ_eq_append_getElem h, List.nodup_append]
  refine ⟨hn, by simp, ?_⟩
  intro a ha b hb e
  simp only [List.mem_singleton] at hb
  subst e; subst hb; exact hi ha
theorem Gr {ks : List Str} {j : Nat} (h : j < ks.length) (hi : ks[j] ∈ ks.take j) : ¬ ks.Nodup := by
  intro hn
  obtain ⟨i, hi', he⟩ := List.getElem_of_mem hi
  rw [List.getElem_take] at he
  have hi2 : i < j := by rw [List.length_take] at hi'; omega
  have := (List.pairwise_iff_getElem.1 hn) i j by_Om h hi2
  exact this he
theorem Ey {f : Str → Bool} {ks : List Str} {j : Nat} (h : j < ks.length) (ha : (ks.take j).all f = true) (hv : f ks[j] = true) : (ks.take (j + 1)).all f = true := by
  rw [List.take_succ_eq_append_getElem h, List.all_append, ha]; simp [hv]
theorem BG {f : Str → Bool} {ks : List Str} {j : Nat} (h : j < ks.length) (hv : f ks[j] = false) : ks.all f = false := by
  rw [Bool.eq_false_iff]; intro ha
  have := List.all_eq_true.1 ha ks[j] (List.getElem_mem h)
  rw [hv] at this; cases this
theorem QG (ks : List Str) (n : Int) (S : Nat → Prop) (A : Option Addr) (c : Nat) (hl : ∀ k ∈ ks, k.length ≤ 140737488355328) (w0 : World) (hG : Gl w0) (hX : Rep S w0 (Lf ks) [.slice A ks.length c]) : Calls prog 71 #[.slice A ks.length c, .int .i64 n] w0 (Nd fun v w' => v = .bool (Zm ks n) ∧ Same [] w0 w') := by
 have hXl := hX.slice_len
 refine Ka func71 rfl ntmps71 Kb (Td _ _) ?_
 have hF := FR.start w0 []
 refine Ma (Ca (Gc rfl) (Dc (Ca (Ge rfl) (Ca (Mf underlying25 rfl) ?_))))
 refine Yq (v := fun b => .map (some b)) hF (Lz underlying121 rfl) ?_
 clear hF; rintro b1 w hb1 hF -
 refine Ca (Mx) (Ga (Ia (Ma (Ca (Ge rfl) (Ca (Mf underlying25 rfl) (Ca (Ib rfl) (Ga (Va ?_))))))))
 replace hF : FR w0 [] [(b1, Jj (Hr (ks.take 0)))] w := hF
 refine Xc (fun μ σ w => ∃ (j : Nat), μ = ks.length - j ∧ (j ≤ ks.length) ∧ ((ks.take j).Nodup) ∧ ((ks.take j).all Lib.validD = true) ∧ AllEq σ [(0, .slice A ks.length c), (1, .int .i64 n), (5, .map (some b1)), (11, .slice A ks.length c), (12, .int .i64 ((ks.length : Nat))), (13, .int .i64 ((j : Int)))] ∧ FR w0 [] [(b1, Jj (Hr (ks.take j)))] w) _ ⟨0, rfl, (Nat.zero_le _), Fa, Fa, PA, hF⟩ ?_
 clear hF; rintro μ σ w ⟨j, rfl, hj, hd, hv, hs, hF⟩
 refine Cg.slots hs ?_
 clear hs; intro σ
 refine Ma (Ca (Yl rfl rfl) (Ga (Ia ?_)))
 refine Jc rfl rfl (fun hc0 => ?_) (fun hc0 => ?_)
 refine Wa (Ha (Ia (Va (Ma ?_))))
 obtain ⟨ad0, hA0, hk0, hx0⟩ := hX.str_elem (i := j) by_Om
 refine Ja (v := .pointer (some (ad0.add (j * 1)))) (Ra (i := (j : Int)) Du rfl hA0 rfl by_Om by_Om) (Ja (v := .string (bs (ks[j]))) (Db isAgg9 rfl (hF.cell0 hk0)) (Ca (Li rfl) (Ga (Ia (Ma (Ca (M5) (Ca (Xe rfl) ?_)))))))
 refine Ja (v := .bool (decide (ks[j] ∈ ks.take j))) (Qz underlying121 underlying9 zeroValue4 rfl rfl (hF.heap (i := 0) rfl) (by rw [Mw]; split <;> rename_i hh <;> simp only [hh, decide_true, decide_false] <;> rfl)) ?_
 refine Ca (Ld rfl) ?_
 refine Ad (d := 20) rfl (fun hg1 => ?_) (fun hg1 => ?_)
 refine Ta (Ta (Ta (Ca (Wc rfl rfl) (Ga (Je rfl (Ma (Ca (Gc rfl) (Ga ?_))))))))
 refine Wd (v := .bool false) rfl rfl ?_
 have := Gr (ks := ks) (j := j) by_Om (by assumption)
 exact ⟨congrArg Value.bool (by unfold Zm; rw [decide_eq_false this]; rfl), hF.same⟩
 refine Ca (Xe rfl) ?_
 refine Pb hF (Y8 ks[j] (hl _ (List.getElem_mem _)) _ (hG.ext hF.same)) (Fb KH rfl rfl) ?_
 clear hF; intro w hF
 refine Ca (Lp rfl) (Ca (Pd rfl rfl) (Ga ?_))
 refine Qj rfl rfl (fun hc1 => ?_) (fun hc1 => ?_)
 refine Ma (Ca (Gc rfl) (Ga ?_))
 refine Wd (v := .bool false) rfl rfl ?_
 have := BG (f := Lib.validD) (ks := ks) (j := j) by_Om (by simpa using hc1)
 exact ⟨congrArg Value.bool (by unfold Zm; rw [this, Bool.and_false]; rfl), hF.same⟩
 refine Wa (Ha (Ea (Ca (M5) (Ca (Xe rfl) ?_))))
 refine Pt 0 (v := .bool true) hF underlying121 underlying9 rfl rfl rfl rfl (by rw [Mw, if_neg (by assumption)]) ?_
 clear hF; rintro w hF -
 rw [V6 ks j by_Om] at hF
 replace hF : FR w0 [] [(b1, Jj (Hr (ks.take (j + 1))))] w := hF
 refine Za (Ob (Ha (Ea (Ca (Dm rfl rfl) (Ca (Ib rfl) (Za ?_))))))
 refine Ec ⟨_, ?_, j + 1, rfl, by_Om, (Ou by_Om hd (by assumption)), (Ey by_Om hv (by simpa using hc1)), PA, hF⟩
 omega
 refine Lc (Hc rfl ?_)
 refine Ha (Ma (Ca (Ge rfl) (Ca (Mf underlying25 rfl) (Ca (Ib rfl) (Ca (Do rfl rfl) (Ca (Gc rfl) (Ga ?_)))))))
 refine Wd (v := .bool _) rfl rfl ?_
 obtain rfl : j = ks.length := by omega
 rw [List.take_length] at hd hv
 exact ⟨congrArg Value.bool (by unfold Zm; rw [hv, decide_eq_true hd]; rfl), hF.same⟩
end Go.Scarf
namespace Go.Scarf
open Go.RowKit Go.Proofs Go.Proofs.Tryz
mutual
def Lx : Tree → Prop | .node _ t ks xs => t.length ≤ 140737488355328 ∧ (∀ k ∈ ks, k.length ≤ 140737488355328) ∧ Sx xs
def Sx : List Tree → Prop | [] => True | x :: xs => Lx x ∧ Sx xs
end
theorem Zo : ∀ {xs : List Tree}, Sx xs → ∀ x ∈ xs, Lx x
  | [], _, _, h => absurd h Fa
  | y :: ys, h, x, hx => by
    rw [Sx] at h
    rcases List.mem_cons.1 hx with rfl | hx
    · exact h.1
    · exact Zo h.2 x hx
def nodeB : Tree → Bool
  | .node k t ks xs =>
    if k = 5 then decide (ks = []) && decide (t = []) else
    if k = 6 then Zm ks xs.length && decide (t = []) else
    if ks ≠ [] ∨ xs ≠ [] then false else
    if k = 1 then decide (t = []) else
    if k = 2 then decide (t = [116, 114, 117, 101]) || decide (t = [102, 97, 108, 115, 101]) else
    if k = 3 then Gm t else if k = 4 then Lib.validD t else if k = 7 then F3 t else false
def Rz (g : Nat) (q : Tree → Bool) : Prop := ∀ (x : Tree) (S : Nat → Prop) (w0 : World) (cs : List Value), Rep S w0 (Qc x) cs → Lx x → Gl w0 → Calls prog g #[.agg cs.toArray] w0 (Nd fun v w' => v = .bool (q x) ∧ Same [] w0 w')
theorem MB  : Rz 50 nodeB := by
 rintro ⟨k, t, ks, xs⟩ S w0 cs hR hk hG
 obtain ⟨A, c, B, e, rfl, -, -, hK, hX⟩ := hR.tree_inv
 rw [Lx] at hk
 refine Ka func50 rfl ntmps50 Kb (Yc _) ?_
 have hF := FR.start w0 []
 refine Ma ?_
 refine Ij hF rfl ?_
 clear hF; rintro b1 w hb1 hF -
 refine Ca (Gc rfl) (Ga (Ia ?_))
 refine Bg (zs := []) (.free 0 (.free 1 (.free 2 (.free 3 (.free 4 (.free 5 (.free 6 (.free 7 (.free 8 (.free 9 .nil)))))))))) hF ?_
 clear hF; intro w hF
 refine Cb rfl (Ac Ni rfl) (Eo rfl (Di isAgg25 rfl C0 0 rfl rfl) (Cb rfl (Mf underlying25 rfl) (Cb rfl (Iy rfl rfl) (Cb rfl (Ac Ae rfl) (Eo rfl (Di isAgg22 rfl C0 0 rfl rfl) (Cb rfl (Mf underlying22 rfl) (Cb rfl (Iy rfl rfl) (Cb rfl (Gc rfl) (Cb rfl (Gc rfl) (Bc (Ha (Ia (Ia ?_)))))))))))))
 refine Ea (Ca (Ac Tn rfl) (Md (Rr isAgg3 rfl hF.F 0 rfl rfl) (Ga (Va (Ma (Ca (Do rfl rfl) (Ca (Gc rfl) (Ga ?_))))))))
 refine Jc rfl rfl (fun hc0 => ?_) (fun hc0 => ?_)
 refine Ma (Ca (Ld rfl) (Ca (RN rfl) (Ca (Ld rfl) ?_)))
 refine Ad (d := 21) rfl (fun hg0 => ?_) (fun hg0 => ?_)
 refine Ca (Ac Bi rfl) (Md (Nv isAgg9 rfl hF.F 0 rfl rfl) (Ca (O5 rfl rfl) (Ca (Wc rfl rfl) (Ca (Gc rfl) (Ga ?_)))))
 refine Wd (v := .bool _) rfl rfl ?_
 refine ⟨?_, hF.same⟩
 clear hF hR hK hX hb1
 simp_all [nodeB, List.length_pos_iff]
 refine Ta (Ta (Ta (Ca (Pd rfl rfl) (Ca (Gc rfl) (Ga ?_)))))
 refine Wd (v := .bool false) rfl rfl ?_
 refine ⟨?_, hF.same⟩
 clear hF hR hK hX hb1
 simp_all [nodeB, List.length_pos_iff]
 refine Ma (Ca (Do rfl rfl) (Ca (Gc rfl) (Ga ?_)))
 refine Jc rfl rfl (fun hc1 => ?_) (fun hc1 => ?_)
 refine Ma (Ca (Ac Ni rfl) (Md (Di isAgg25 rfl hF.F 0 rfl rfl) (Ca (Ac Ae rfl) (Md (Di isAgg22 rfl hF.F 0 rfl rfl) (Ca (Mf underlying22 rfl) ?_)))))
 refine Pb hF (QG ks (xs.length : Nat) S A c (by simpa using hk.2.1) _ (hG.ext hF.same) (hF.rep hK)) (Mb QM rfl rfl rfl) ?_
 clear hF; intro w hF
 refine Ca (Ld rfl) ?_
 refine If (d := 34) rfl (fun hg1 => ?_) (fun hg1 => ?_)
 refine Ca (Ac Bi rfl) (Md (Nv isAgg9 rfl hF.F 0 rfl rfl) (Ca (O5 rfl rfl) (Ca (Wc rfl rfl) (Ca (Gc rfl) (Ga ?_)))))
 refine Wd (v := .bool _) rfl rfl ?_
 refine ⟨?_, hF.same⟩
 clear hF hR hK hX hb1
 simp_all [nodeB, List.length_pos_iff]
 refine Ta (Ta (Ta (Ca (Pd rfl rfl) (Ca (Gc rfl) (Ga ?_)))))
 refine Wd (v := .bool false) rfl rfl ?_
 refine ⟨?_, hF.same⟩
 clear hF hR hK hX hb1
 simp_all [nodeB, List.length_pos_iff]
 refine Wa (Ob (Ha (Ia (Ma (Ca (Ld rfl) (Ca (Ld rfl) ?_))))))
 refine Ad (d := 40) rfl (fun hg2 => ?_) (fun hg2 => ?_)
 refine Ta (Ca (Wc rfl rfl) (Ga (Je rfl (Ma (Ca (Gc rfl) (Ga ?_))))))
 refine Wd (v := .bool false) rfl rfl ?_
 refine ⟨?_, hF.same⟩
 clear hF hR hK hX hb1
 simp_all [nodeB, List.length_pos_iff]
 refine Ca (Ld rfl) (Ca (Pd rfl rfl) (Ga ?_))
 refine Jc rfl rfl (fun hc2 => ?_) (fun hc2 => ?_)
 refine Ma (Ca (Gc rfl) (Ga ?_))
 refine Wd (v := .bool false) rfl rfl ?_
 refine ⟨?_, hF.same⟩
 clear hF hR hK hX hb1
 simp_all [nodeB, List.length_pos_iff]
 refine Wa (Ha (Ia (Ma (Ca (Ac Tn rfl) (Md (Rr isAgg3 rfl hF.F 0 rfl rfl) (Ga (Va (Ma (Ca (Do rfl rfl) (Ca (Gc rfl) ?_))))))))))
 refine Ga ?_
 refine Jc rfl rfl (fun hc3 => ?_) (fun hc3 => ?_)
 refine Ma (Ca (Ac Bi rfl) (Md (Nv isAgg9 rfl hF.F 0 rfl rfl) (Ca (O5 rfl rfl) (Ca (Gc rfl) (Ga ?_)))))
 refine Wd (v := .bool _) rfl rfl ?_
 refine ⟨?_, hF.same⟩
 clear hF hR hK hX hb1
 simp_all [nodeB, List.length_pos_iff]
 refine Ma (Ca (Do rfl rfl) (Ca (Gc rfl) (Ga ?_)))
 refine Jc rfl rfl (fun hc4 => ?_) (fun hc4 => ?_)
 refine Ma (Ca (Ac Bi rfl) (Md (Nv isAgg9 rfl hF.F 0 rfl rfl) (Ca (O5 rfl rfl) (Ca (Ld rfl) ?_))))
 refine Ad (d := 55) rfl (fun hg3 => ?_) (fun hg3 => ?_)
 refine Ta (Ta (Ta (Ca (Wc rfl rfl) (Ca (Gc rfl) (Ga ?_)))))
 refine Wd (v := .bool true) rfl rfl ?_
 refine ⟨?_, hF.same⟩
 clear hF hR hK hX hb1
 simp_all [nodeB, List.length_pos_iff]
 refine Ca (Ac Bi rfl) (Md (Nv isAgg9 rfl hF.F 0 rfl rfl) (Ca (O5 rfl rfl) (Ca (Pd rfl rfl) (Ca (Gc rfl) (Ga ?_)))))
 refine Wd (v := .bool _) rfl rfl ?_
 refine ⟨?_, hF.same⟩
 clear hF hR hK hX hb1
 simp_all [nodeB, List.length_pos_iff]
 refine Ma (Ca (Do rfl rfl) (Ca (Gc rfl) (Ga ?_)))
 refine Jc rfl rfl (fun hc5 => ?_) (fun hc5 => ?_)
 refine Ma (Ca (Ac Bi rfl) (Md (Nv isAgg9 rfl hF.F 0 rfl rfl) ?_))
 refine Pb hF (Iz t hk.1 _ (hG.ext hF.same)) (Fb LI rfl rfl) ?_
 clear hF; intro w hF
 refine Ca (Wm rfl) (Ca (ZK rfl rfl) (Ca (Wq rfl rfl) ?_))
 refine Hm hF zeroValue71 sizeOf71 rfl ?_
 clear hF; rintro b2 w hb2 hF -
 refine Ca (Gc rfl) (Dc (Ca (Ld rfl) (Ca (Gc rfl) (Ga ?_))))
 refine Wd (v := .bool _) rfl rfl ?_
 refine ⟨?_, hF.same⟩
 clear hF hR hK hX hb1
 simp_all [nodeB, List.length_pos_iff]
 refine Ma (Ca (Do rfl rfl) (Ca (Gc rfl) (Ga ?_)))
 refine Jc rfl rfl (fun hc6 => ?_) (fun hc6 => ?_)
 refine Ma (Ca (Ac Bi rfl) (Md (Nv isAgg9 rfl hF.F 0 rfl rfl) ?_))
 refine Pb hF (Y8 t hk.1 _ (hG.ext hF.same)) (Fb KH rfl rfl) ?_
 clear hF; intro w hF
 refine Ca (Gc rfl) (Ga ?_)
 refine Wd (v := .bool _) rfl rfl ?_
 refine ⟨?_, hF.same⟩
 clear hF hR hK hX hb1
 simp_all [nodeB, List.length_pos_iff]
 refine Ma (Ca (Do rfl rfl) (Ca (Gc rfl) (Ga ?_)))
 refine Jc rfl rfl (fun hc7 => ?_) (fun hc7 => ?_)
 refine Ma (Ca (Ac Bi rfl) (Md (Nv isAgg9 rfl hF.F 0 rfl rfl) ?_))
 refine Pb hF (TI t hk.1 _ (hG.ext hF.same)) (Fb MM rfl rfl) ?_
 clear hF; intro w hF
 refine Ca (Gc rfl) (Ga ?_)
 refine Wd (v := .bool _) rfl rfl ?_
 refine ⟨?_, hF.same⟩
 clear hF hR hK hX hb1
 simp_all [nodeB, List.length_pos_iff]
 refine Wa (Ob (Ha (Ma (Ca (Gc rfl) (Ga ?_)))))
 refine Wd (v := .bool false) rfl rfl ?_
 refine ⟨?_, hF.same⟩
 clear hF hR hK hX hb1
 simp_all [nodeB, List.length_pos_iff]
end Go.Scarf
namespace Go.Scarf
open Go.RowKit Go.Proofs Go.Proofs.Tryz
theorem Tree.ind {Q : Tree → Prop} (h : ∀ k t ks xs, (∀ x, x ∈ xs → Q x) → Q (.node k t ks xs)) (x : Tree) : Q x :=
  Tree.rec (motive_1 := Q) (motive_2 := fun xs => ∀ x, x ∈ xs → Q x) (fun k t ks xs ih => h k t ks xs ih) Fa
    (fun y ys h1 h2 => by
      intro z hz
      rcases List.mem_cons.1 hz with rfl | hz
      · exact h1
      · exact h2 z hz) x
mutual
def Kc : Tree → Nat | .node _ _ _ xs => 1 + Rc xs
def Rc : List Tree → Nat | [] => 0 | x :: xs => Kc x + Rc xs
end
mutual
def Fd : Tree → Nat | .node _ _ _ xs => Uc xs + 1
def Uc : List Tree → Nat | [] => 0 | x :: xs => max (Fd x) (Uc xs)
end
theorem Yp : ∀ (xs ys : List Tree), Rc (xs ++ ys) = Rc xs + Rc ys
  | [], ys => by simp [Rc]
  | x :: xs, ys => by simp [Rc, Yp xs ys, Nat.add_assoc]
theorem Bp : ∀ (xs ys : List Tree), Uc (xs ++ ys) = max (Uc xs) (Uc ys)
  | [], ys => by simp [Uc]
  | x :: xs, ys => by simp only [List.cons_append, Uc, Bp xs ys]; omega
theorem N3 (xs : List Tree) (j : Nat) (hj : j < xs.length) : Rc (xs.take (j+1)) = Rc (xs.take j) + Kc xs[j] := by
  rw [List.take_succ_eq_append_getElem hj, Yp]; simp [Rc]
theorem L1 (xs : List Tree) (j : Nat) (hj : j < xs.length) : Uc (xs.take (j+1)) = max (Uc (xs.take j)) (Fd xs[j]) := by
  rw [List.take_succ_eq_append_getElem hj, Bp]; simp [Uc]
theorem Ej : ∀ {xs : List Tree} {x : Tree}, x ∈ xs → Kc x ≤ Rc xs
  | [], _, h => absurd h Fa
  | y :: ys, x, h => by
    rw [Rc]
    rcases List.mem_cons.1 h with rfl | h
    · omega
    · have := Ej h; omega
theorem T_ (x : Tree) : 1 ≤ Kc x := by cases x; rw [Kc]; omega
theorem Gn : ∀ (xs : List Tree), xs.length ≤ Rc xs
  | [] => by simp [Rc]
  | x :: xs => by have := Gn xs; have := T_ x; simp only [Rc, List.length_cons]; omega
theorem ZC (x : Tree) : Fd x ≤ Kc x := by
  refine Tree.ind (Q := fun x => Fd x ≤ Kc x) (fun k t ks xs ih => ?_) x
  have : Uc xs ≤ Rc xs := by
    induction xs with
    | nil => simp [Uc, Rc]
    | cons y ys ihy =>
      have h1 := ih y Fa
      have h2 := ihy (fun z hz => ih z (by simp [hz]))
      simp only [Uc, Rc]; omega
  simp only [Fd, Kc]; omega
theorem X5 (xs : List Tree) : Uc xs ≤ Rc xs := by
  have := ZC (.node 0 [] [] xs)
  simp only [Fd, Kc] at this; omega
def ZE (x : Tree) : Prop := ∀ S w0 cs, Rep S w0 (Qc x) cs → Calls prog 67 #[.agg cs.toArray] w0 (Nd fun v w' => v = .int .i64 (wr (Kc x)) ∧ Same [] w0 w')
theorem TA (k : Int) (t : Str) (ks : List Str) (xs : List Tree) (ih : ∀ x, x ∈ xs → ZE x) : ZE (.node k t ks xs) := by
 intro S w0 cs hR
 obtain ⟨A, c, B, e, rfl, -, -, -, hX⟩ := hR.tree_inv
 have hXl := hX.slice_len
 refine Ka func67 rfl ntmps67 Kb (Yc _) ?_
 have hF := FR.start w0 []
 refine Ma ?_
 refine Ij hF rfl ?_
 clear hF; rintro b1 w hb1 hF -
 refine Ca (Ic rfl) (Dc (Ca (Ic rfl) (Ga (Ia (Ma (Ca (Ac Ae rfl) (Md (Di isAgg22 rfl hF.F 0 rfl rfl) (Ca (Mf underlying22 rfl) ?_))))))))
 refine Ca (Ib rfl) (Ga (Va ?_))
 refine Xc (fun μ σ w => ∃ (j : Nat), μ = xs.length - j ∧ (j ≤ xs.length) ∧ AllEq σ [(3, .int .i64 (wr (1 + Rc (xs.take j)))), (7, .slice B xs.length e), (8, .int .i64 ((xs.length : Nat))), (9, .int .i64 ((j : Int)))] ∧ FR w0 [] [(b1, .cells #[.int .i64 k, .string (bs t), .slice A ks.length c, .slice B xs.length e] 27)] w) _ ⟨0, rfl, (Nat.zero_le _), Xt, hF⟩ ?_
 clear hF; rintro μ σ w ⟨j, rfl, hj, hs, hF⟩
 refine Cg.slots hs ?_
 clear hs; intro σ
 refine Ma (Ca (Yl rfl rfl) (Ga (Ia ?_)))
 refine Jc rfl rfl (fun hc0 => ?_) (fun hc0 => ?_)
 refine Wa (Ha (Ia (Va (Ma ?_))))
 obtain ⟨ad0, cs0, hA0, hl0, hk0, hx0⟩ := hX.tree_elem (i := j) by_Om
 have ho0 := hx0.one_
 refine Ja (v := .pointer (some (ad0.add (j * 4)))) (Ra (i := (j : Int)) Il rfl hA0 rfl by_Om by_Om) (Ja (v := .agg (List.toArray cs0)) (Wb (l := cs0) isAgg27 sizeOf27 rfl hl0 (hF.cells0 hk0)) ?_)
 refine Ku (l := cs0) hF zeroValue27 (by rw [hl0]; exact sizeOf27) (by rw [hl0]; rfl) (v := .agg (List.toArray cs0)) rfl rfl (ho0) rfl ?_
 clear hF; rintro b2 w hb2 hF -
 refine Ga (Ea (Ca (Ib rfl) (Ja (v := .agg (List.toArray cs0)) (Wb (l := cs0) isAgg27 sizeOf27 rfl hl0 (hF.cellsAll 0 rfl)) ?_)))
 refine Pb hF (ih _ (List.getElem_mem _) _ _ _ (hF.rep hx0)) (Fb RH rfl rfl) ?_
 clear hF; intro w hF
 refine Ja (v := .int .i64 (wr (1 + Rc (xs.take (j + 1))))) (Dr rfl rfl (by rw [KA, N3 xs j by_Om, Int.natCast_add, Int.add_assoc])) ?_
 refine Ca (Ic rfl) (Za (Ob (Ha (Ea (Ca (Dm rfl rfl) (Ca (Ib rfl) (Za ?_)))))))
 refine Ec ⟨_, ?_, j + 1, rfl, by_Om, Xt, hF.drop 1⟩
 omega
 refine Lc (Hc rfl ?_)
 refine Ha (Ma (Ca (Ib rfl) (Ca (Ic rfl) (Ga ?_))))
 refine Wd (v := .int .i64 (wr (1 + Rc (xs.take j)))) rfl rfl ?_
 obtain rfl : j = xs.length := by omega
 exact ⟨by simp [Kc], hF.same⟩
theorem PI (x : Tree) : ZE x := Tree.ind TA x
def Z6 (x : Tree) : Prop := Kc x ≤ 1000000000 → ∀ S w0 cs, Rep S w0 (Qc x) cs → Calls prog 68 #[.agg cs.toArray] w0 (Nd fun v w' => v = .int .i64 (Fd x : Nat) ∧ Same [] w0 w')
theorem X6 (k : Int) (t : Str) (ks : List Str) (xs : List Tree) (ih : ∀ x, x ∈ xs → Z6 x) : Z6 (.node k t ks xs) := by
 intro hsz S w0 cs hR
 obtain ⟨A, c, B, e, rfl, -, -, -, hX⟩ := hR.tree_inv
 have hXl := hX.slice_len
 have hdl := X5 xs
 rw [Kc] at hsz
 refine Ka func68 rfl ntmps68 Kb (Yc _) ?_
 have hF := FR.start w0 []
 refine Ma ?_
 refine Ij hF rfl ?_
 clear hF; rintro b1 w hb1 hF -
 refine Ca (Ic rfl) (Dc (Ca (Ic rfl) (Ga (Ia (Ma (Ca (Ac Ae rfl) (Md (Di isAgg22 rfl hF.F 0 rfl rfl) (Ca (Mf underlying22 rfl) ?_))))))))
 refine Ca (Ib rfl) (Ga (Va ?_))
 refine Xc (fun μ σ w => ∃ (j : Nat), μ = xs.length - j ∧ (j ≤ xs.length) ∧ AllEq σ [(3, .int .i64 ((Uc (xs.take j) : Nat))), (7, .slice B xs.length e), (8, .int .i64 ((xs.length : Nat))), (9, .int .i64 ((j : Int)))] ∧ FR w0 [] [(b1, .cells #[.int .i64 k, .string (bs t), .slice A ks.length c, .slice B xs.length e] 27)] w) _ ⟨0, rfl, (Nat.zero_le _), Xt, hF⟩ ?_
 clear hF; rintro μ σ w ⟨j, rfl, hj, hs, hF⟩
 refine Cg.slots hs ?_
 clear hs; intro σ
 refine Ma (Ca (Yl rfl rfl) (Ga (Ia ?_)))
 refine Jc rfl rfl (fun hc0 => ?_) (fun hc0 => ?_)
 refine Wa (Ha (Ia (Va (Ma ?_))))
 obtain ⟨ad0, cs0, hA0, hl0, hk0, hx0⟩ := hX.tree_elem (i := j) by_Om
 have ho0 := hx0.one_
 refine Ja (v := .pointer (some (ad0.add (j * 4)))) (Ra (i := (j : Int)) Il rfl hA0 rfl by_Om by_Om) (Ja (v := .agg (List.toArray cs0)) (Wb (l := cs0) isAgg27 sizeOf27 rfl hl0 (hF.cells0 hk0)) ?_)
 refine Ku (l := cs0) hF zeroValue27 (by rw [hl0]; exact sizeOf27) (by rw [hl0]; rfl) (v := .agg (List.toArray cs0)) rfl rfl (ho0) rfl ?_
 clear hF; rintro b2 w hb2 hF -
 refine Ga (Ea (Ca (Ib rfl) (Ja (v := .agg (List.toArray cs0)) (Wb (l := cs0) isAgg27 sizeOf27 rfl hl0 (hF.cellsAll 0 rfl)) ?_)))
 refine Pb hF (ih _ (List.getElem_mem _) (by have := Ej (List.getElem_mem (l := xs) (n := j) by_Om); omega) _ _ _ (hF.rep hx0)) (Fb II rfl rfl) ?_
 clear hF; intro w hF
 refine Ja (v := .int .i64 ((Uc (xs.take (j + 1)) : Nat))) (by rw [← show max ((Uc (xs.take j) : Nat) : Int) ((Fd xs[j] : Nat) : Int) = ((Uc (xs.take (j + 1)) : Nat) : Int) from by rw [L1 xs j by_Om]; omega]; exact XM rfl rfl) ?_
 refine Ca (Ic rfl) (Za (Ob (Ha (Ea (Ca (Dm rfl rfl) (Ca (Ib rfl) (Za ?_)))))))
 refine Ec ⟨_, ?_, j + 1, rfl, by_Om, Xt, hF.drop 1⟩
 omega
 refine Lc (Hc rfl ?_)
 refine Ha (Ma (Ca (Ib rfl) ?_))
 have eT : xs.take j = xs := List.take_of_length_le by_Om
 refine Ja (v := .int .i64 ((Fd (.node k t ks xs) : Nat))) (Dr rfl rfl (by rw [eT, Fd]; exact Ng by_Om by_Om by_Om)) ?_
 refine Ca (Ic rfl) (Ga ?_)
 refine Wd (v := .int .i64 ((Fd (.node k t ks xs) : Nat))) rfl rfl ?_
 exact ⟨rfl, hF.same⟩
theorem OG (x : Tree) : Z6 x := Tree.ind X6 x
end Go.Scarf
namespace Go.Scarf
open Go.RowKit Go.Proofs Go.Proofs.Tryz
theorem Same.cell {w w' : World} {a : Addr} {v : Value} (h : Same [] w w') (hc : w.cell? a = some v) : w'.cell? a = some v := ((FR.start w []).ext h).cell0 hc
mutual
def Ud (q : Tree → Bool) : Tree → Bool | .node k t ks xs => q (.node k t ks xs) && Um q xs
def Um (q : Tree → Bool) : List Tree → Bool | [] => true | x :: xs => Ud q x && Um q xs
end
theorem Rm (q : Tree → Bool) : ∀ xs : List Tree, Um q xs = !(xs.any fun x => !Ud q x)
  | [] => rfl
  | x :: xs => by rw [Um, Rm q xs]; simp
def EachC (w0 : World) (bb : Nat) (xs : List Tree) (q : Tree → Bool) : Prop := ∀ x, x ∈ xs → ∀ S w cs, Same [] w0 w → Rep S w (Qc x) cs → Calls prog 70 #[.agg cs.toArray, .pointer (some ⟨bb, 0, none⟩)] w (Nd fun v w' => v = .bool (q x) ∧ Same [] w w')
theorem EachC.ext {w0 w : World} {bb : Nat} {xs : List Tree} {q : Tree → Bool} (h : EachC w0 bb xs q) (hs : Same [] w0 w) : EachC w bb xs q := fun x hx S w' cs hw => h x hx S w' cs (hs.trans hw)
theorem XA {q : Tree → Bool} {xs : List Tree} {j : Nat} (h : j < xs.length) (hn : (xs.take j).any q = false) (hq : q xs[j] = false) : (xs.take (j + 1)).any q = false := by
  rw [List.take_succ_eq_append_getElem h, List.any_append, hn]; simp [hq]
def Jq (g : Nat) (q : Tree → Bool) (x : Tree) : Prop := ∀ S w0 cs, Rep S w0 (Qc x) cs → Lx x → Gl w0 → Calls prog 49 #[.agg cs.toArray, .func (.func g) #[] #[]] w0 (Nd fun v w' => v = .bool (Ud q x) ∧ Same [] w0 w')
theorem N2 (xs : List Tree) (q : Tree → Bool) (bb : Nat) (B : Option Addr) (e : Nat) (S : Nat → Prop) (w0 : World) (hX : Rep S w0 (.slice (Vc xs)) [.slice B xs.length e]) (hq : EachC w0 bb xs q) : Calls prog 96 #[.slice B xs.length e, .func (.func 70) #[] #[.pointer (some ⟨bb, 0, none⟩)]] w0 (Nd fun v w' => ∃ n : Int, v = .int .i64 n ∧ decide (0 ≤ n) = xs.any q ∧ Same [] w0 w') := by
 have hXl := hX.slice_len
 refine Ka func96 rfl ntmps96 Kb (Td _ _) ?_
 have hF := FR.start w0 []
 refine Ma (Ca (Ic rfl) (Ga (Ia (Ma (Ca (Ge rfl) (Ca (Mf underlying22 rfl) (Ca (Ib rfl) (Ga (Va ?_)))))))))
 refine Xc (fun μ σ w => ∃ (j : Nat), μ = xs.length - j ∧ (j ≤ xs.length) ∧ ((xs.take j).any q = false) ∧ AllEq σ [(0, .slice B xs.length e), (1, .func (.func 70) #[] #[.pointer (some (⟨bb, 0, none⟩))]), (7, .int .i64 ((xs.length : Nat))), (8, .int .i64 ((j : Int)))] ∧ FR w0 [] [] w) _ ⟨0, rfl, (Nat.zero_le _), Fa, Xt, hF⟩ ?_
 clear hF; rintro μ σ w ⟨j, rfl, hj, hn, hs, hF⟩
 refine Cg.slots hs ?_
 clear hs; intro σ
 refine Ma (Ca (Yl rfl rfl) (Ga (Ia ?_)))
 refine Jc rfl rfl (fun hc0 => ?_) (fun hc0 => ?_)
 refine Wa (Ha (Ia (Va (Ma (Ca (Ib rfl) (Ca (Ic rfl) (Dc (Ca (M5) (Ca (Ge rfl) ?_)))))))))
 refine Ca (Ib rfl) ?_
 obtain ⟨ad0, cs0, hA0, hl0, hk0, hx0⟩ := hX.tree_elem (i := j) by_Om
 have ho0 := hx0.one_
 refine Ja (v := .pointer (some (ad0.add (j * 4)))) (Ra (i := (j : Int)) Il rfl hA0 rfl by_Om by_Om) (Ja (v := .agg (List.toArray cs0)) (Wb (l := cs0) isAgg27 sizeOf27 rfl hl0 (hF.cells0 hk0)) ?_)
 refine Pb hF (hq _ (List.getElem_mem (l := xs) (n := j) by_Om) _ _ _ hF.same (hF.rep hx0)) (Tw rfl GM rfl rfl) ?_
 clear hF; intro w hF
 refine Ga ?_
 refine Qj rfl rfl (fun hc1 => ?_) (fun hc1 => ?_)
 refine Ma (Ca (Ib rfl) (Ca (Ic rfl) (Ga ?_)))
 refine Wd (v := .int .i64 ((j : Int))) rfl rfl ?_
 exact ⟨_, rfl, by rw [List.any_eq_true.2 ⟨_, List.getElem_mem (l := xs) (n := j) by_Om, hc1⟩]; simp, hF.same⟩
 refine Wa (Ob (Ha (Ea (Ca (Dm rfl rfl) (Ca (Ib rfl) (Za ?_))))))
 refine Ec ⟨_, ?_, j + 1, rfl, by_Om, (XA by_Om hn hc1), Xt, hF⟩
 omega
 refine Lc (Hc rfl ?_)
 refine Ha (Ma (Ca (Ic rfl) (Ga ?_)))
 refine Wd (v := .int .i64 ((-1))) rfl rfl ?_
 have eT : xs.take j = xs := List.take_of_length_le by_Om
 rw [eT] at hn
 exact ⟨_, rfl, by rw [hn]; decide, hF.same⟩
theorem Vo (xs : List Tree) (q : Tree → Bool) (bb : Nat) (B : Option Addr) (e : Nat) (S : Nat → Prop) (w0 : World) (hX : Rep S w0 (.slice (Vc xs)) [.slice B xs.length e]) (hq : EachC w0 bb xs q) : Calls prog 69 #[.slice B xs.length e, .func (.func 70) #[] #[.pointer (some ⟨bb, 0, none⟩)]] w0 (Nd fun v w' => v = .bool (xs.any q) ∧ Same [] w0 w') := by
 refine Ka func69 rfl ntmps69 Kb (Td _ _) ?_
 have hF := FR.start w0 []
 refine Ma (Ca (Gc rfl) (Dc (Ca (Ge rfl) (Ca (M5) ?_))))
 refine Ya (N2 xs q bb B e S _ (hF.rep hX) (hq.ext hF.same)) (Mb HM rfl rfl rfl) ?_
 rintro _ w ⟨n, rfl, hn, hE⟩
 replace hF := hF.ext hE
 clear hE
 refine Ca (SE rfl rfl) (Ca (Gc rfl) (Ga ?_))
 refine Wd (v := .bool _) rfl rfl ?_
 exact ⟨congrArg Value.bool hn, hF.same⟩
theorem Dz (g : Nat) (q : Tree → Bool) (x : Tree) (h : Jq g q x) (bb : Nat) (S : Nat → Prop) (w0 : World) (cs : List Value) (hR : Rep S w0 (Qc x) cs) (hk : Lx x) (hG : Gl w0) (hb : w0.cell? ⟨bb, 0, none⟩ = some (.func (.func g) #[] #[])) : Calls prog 70 #[.agg cs.toArray, .pointer (some ⟨bb, 0, none⟩)] w0 (Nd fun v w' => v = .bool (!Ud q x) ∧ Same [] w0 w') := by
 have hl : cs.length = 4 := hR.length.trans (Id x)
 have ho := hR.one_
 refine Ka func70 rfl ntmps70 Kb (Td _ _) ?_
 have hF := FR.start w0 []
 refine Ma ?_
 refine Yn (v := .agg (List.toArray cs)) (cs := (List.toArray cs)) hF rfl rfl ?_
 clear hF; rintro b1 w hb1 hF -
 refine Ca (Gc rfl) (Dc (Ja (v := .agg (List.toArray cs)) (Wb (l := cs) isAgg27 sizeOf27 rfl hl (hF.cellsAll 0 rfl)) (Ja (v := .func (.func g) #[] #[]) (Db isAgg65 rfl (hF.cell0 hb)) ?_)))
 refine Pb hF (h S _ cs (hF.rep hR) hk (hG.ext hF.same)) (Mb VE rfl rfl rfl) ?_
 clear hF; intro w hF
 refine Ca (Lp rfl) (Ca (Gc rfl) (Ga ?_))
 refine Wd (v := .bool _) rfl rfl ?_
 exact ⟨rfl, hF.same⟩
theorem M1 (q : Tree → Bool) (hp : Rz 60 q) (k : Int) (t : Str) (ks : List Str) (xs : List Tree) (ih : ∀ x, x ∈ xs → Jq 60 q x) : Jq 60 q (.node k t ks xs) := by
 intro S w0 cs hR hk hG
 have hk' := hk
 rw [Lx] at hk'
 obtain ⟨A, c, B, e, rfl, -, -, hK, hX⟩ := hR.tree_inv
 refine Ka func49 rfl ntmps49 Kb (Td _ _) ?_
 have hF := FR.start w0 []
 refine Ma ?_
 refine Ij hF rfl ?_
 clear hF; rintro b1 w hb1 hF -
 refine SK (.func (.func 60) #[] #[]) hF rfl ?_
 clear hF; rintro b2 w hb2 hF -
 refine Ca (Gc rfl) (Dc (Md (PN isAgg65 rfl hF.F 0 rfl rfl) (Md (Pk isAgg27 sizeOf27 rfl hF.F 1 rfl rfl) ?_)))
 refine Pb hF (hp (.node k t ks xs) S _ _ (hF.rep hR) hk (hG.ext hF.same)) (Tw rfl WM rfl rfl) ?_
 clear hF; intro w hF
 refine Ca (Ld rfl) ?_
 refine If (d := 8) rfl (fun hg0 => ?_) (fun hg0 => ?_)
 refine Ca (Ac Ae rfl) (Md (Di isAgg22 rfl hF.F 1 rfl rfl) (Ja (v := .func (.func 70) #[] #[.pointer (some ⟨b2, 0, none⟩)]) (Kr rfl) ?_))
 refine Pb hF (Vo xs (fun x => !Ud q x) b2 B e S _ (hF.rep hX) (fun x hx S' w' cs' hs hr => Dz 60 q x (ih x hx) b2 S' w' cs' hr (Zo hk'.2.2 x hx) ((hG.ext hF.same).ext hs) (hs.cell (hF.cell 0 rfl rfl)))) (Mb UH rfl rfl rfl) ?_
 clear hF; intro w hF
 refine Ca (Lp rfl) (Ca (Wc rfl rfl) (Ca (Gc rfl) (Ga ?_)))
 refine Wd (v := .bool _) rfl rfl ?_
 refine ⟨?_, hF.same⟩
 rw [Ud, Rm]
 simp_all
 refine Ta (Ta (Ta (Ta (Ta (Ca (Pd rfl rfl) (Ca (Gc rfl) (Ga ?_)))))))
 refine Wd (v := .bool false) rfl rfl ?_
 refine ⟨?_, hF.same⟩
 rw [Ud, Rm]
 simp_all
theorem EB (q : Tree → Bool) (hp : Rz 60 q) (x : Tree) : Jq 60 q x := Tree.ind (M1 q hp) x
theorem L0 (q : Tree → Bool) (hp : Rz 50 q) (k : Int) (t : Str) (ks : List Str) (xs : List Tree) (ih : ∀ x, x ∈ xs → Jq 50 q x) : Jq 50 q (.node k t ks xs) := by
 intro S w0 cs hR hk hG
 have hk' := hk
 rw [Lx] at hk'
 obtain ⟨A, c, B, e, rfl, -, -, hK, hX⟩ := hR.tree_inv
 refine Ka func49 rfl ntmps49 Kb (Td _ _) ?_
 have hF := FR.start w0 []
 refine Ma ?_
 refine Ij hF rfl ?_
 clear hF; rintro b1 w hb1 hF -
 refine SK (.func (.func 50) #[] #[]) hF rfl ?_
 clear hF; rintro b2 w hb2 hF -
 refine Ca (Gc rfl) (Dc (Md (PN isAgg65 rfl hF.F 0 rfl rfl) (Md (Pk isAgg27 sizeOf27 rfl hF.F 1 rfl rfl) ?_)))
 refine Pb hF (hp (.node k t ks xs) S _ _ (hF.rep hR) hk (hG.ext hF.same)) (Tw rfl NH rfl rfl) ?_
 clear hF; intro w hF
 refine Ca (Ld rfl) ?_
 refine If (d := 8) rfl (fun hg0 => ?_) (fun hg0 => ?_)
 refine Ca (Ac Ae rfl) (Md (Di isAgg22 rfl hF.F 1 rfl rfl) (Ja (v := .func (.func 70) #[] #[.pointer (some ⟨b2, 0, none⟩)]) (Kr rfl) ?_))
 refine Pb hF (Vo xs (fun x => !Ud q x) b2 B e S _ (hF.rep hX) (fun x hx S' w' cs' hs hr => Dz 50 q x (ih x hx) b2 S' w' cs' hr (Zo hk'.2.2 x hx) ((hG.ext hF.same).ext hs) (hs.cell (hF.cell 0 rfl rfl)))) (Mb UH rfl rfl rfl) ?_
 clear hF; intro w hF
 refine Ca (Lp rfl) (Ca (Wc rfl rfl) (Ca (Gc rfl) (Ga ?_)))
 refine Wd (v := .bool _) rfl rfl ?_
 refine ⟨?_, hF.same⟩
 rw [Ud, Rm]
 simp_all
 refine Ta (Ta (Ta (Ta (Ta (Ca (Pd rfl rfl) (Ca (Gc rfl) (Ga ?_)))))))
 refine Wd (v := .bool false) rfl rfl ?_
 refine ⟨?_, hF.same⟩
 rw [Ud, Rm]
 simp_all
theorem I_ (q : Tree → Bool) (hp : Rz 50 q) (x : Tree) : Jq 50 q x := Tree.ind (L0 q hp) x
end Go.Scarf
namespace Go.Scarf
open Go.RowKit Go.Proofs Go.Proofs.Tryz
def rnodeB (x : Tree) : Bool := decide (x.kind ≠ 7) && nodeB x
def On (x : Tree) : Bool := decide (Kc x ≤ 4096) && decide (Fd x ≤ 32)
def Mi (x : Tree) : Bool := On x && Ud nodeB x
def Od (x : Tree) : Bool := On x && Ud rnodeB x
theorem ED {n : Nat} (h : n ≤ 1000000000) : wr (n : Int) = (n : Int) := Bm by_Om by_Om
theorem ZF  : Rz 60 rnodeB := by
 rintro ⟨k, t, ks, xs⟩ S w0 cs hR hk hG
 obtain ⟨A, c, B, e, rfl, -, -, hK, hX⟩ := hR.tree_inv
 refine Ka func60 rfl ntmps60 Kb (Yc _) ?_
 have hF := FR.start w0 []
 refine Ma ?_
 refine Ij hF rfl ?_
 clear hF; rintro b1 w hb1 hF -
 refine Ca (Gc rfl) (Dc (Ca (Ac Tn rfl) (Md (Rr isAgg3 rfl hF.F 0 rfl rfl) (Ca (Xx rfl rfl) (Ca (Ld rfl) ?_)))))
 refine Ad (d := 6) rfl (fun hg0 => ?_) (fun hg0 => ?_)
 refine Md (Pk isAgg27 sizeOf27 rfl hF.F 0 rfl rfl) ?_
 refine Pb hF (MB (.node k t ks xs) S _ _ (hF.rep hR) hk (hG.ext hF.same)) (Fb NH rfl rfl) ?_
 clear hF; intro w hF
 refine Ca (Wc rfl rfl) (Ca (Gc rfl) (Ga ?_))
 refine Wd (v := .bool _) rfl rfl ?_
 refine ⟨?_, hF.same⟩
 simp_all [rnodeB, Tree.kind]
 refine Ta (Ta (Ca (Pd rfl rfl) (Ca (Gc rfl) (Ga ?_))))
 refine Wd (v := .bool false) rfl rfl ?_
 refine ⟨?_, hF.same⟩
 simp_all [rnodeB, Tree.kind]
theorem WJ (x : Tree) (hsz : Kc x ≤ 1000000000) (S : Nat → Prop) (w0 : World) (cs : List Value) (hR : Rep S w0 (Qc x) cs) : Calls prog 67 #[.agg cs.toArray] w0 (Nd fun v w' => v = .int .i64 (Kc x : Nat) ∧ Same [] w0 w') := by
  have h := PI x S w0 cs hR
  rwa [ED hsz] at h
theorem R8 (x : Tree) (hsz : Kc x ≤ 1000000000) (S : Nat → Prop) (w0 : World) (cs : List Value) (hR : Rep S w0 (Qc x) cs) : Calls prog 48 #[.agg cs.toArray] w0 (Nd fun v w' => v = .bool (On x) ∧ Same [] w0 w') := by
 have hl : cs.length = 4 := hR.length.trans (Id x)
 have ho := hR.one_
 refine Ka func48 rfl ntmps48 Kb (Yc _) ?_
 have hF := FR.start w0 []
 refine Ma ?_
 refine Yn (v := .agg (List.toArray cs)) (cs := (List.toArray cs)) hF rfl rfl ?_
 clear hF; rintro b1 w hb1 hF -
 refine Ca (Gc rfl) (Dc (Ja (v := .agg (List.toArray cs)) (Wb (l := cs) isAgg27 sizeOf27 rfl hl (hF.cellsAll 0 rfl)) ?_))
 refine Pb hF (WJ x hsz S _ cs (hF.rep hR)) (Fb RH rfl rfl) ?_
 clear hF; intro w hF
 refine Ca (KI rfl rfl) (Ca (Ld rfl) ?_)
 refine Ad (d := 6) rfl (fun hg0 => ?_) (fun hg0 => ?_)
 refine Ja (v := .agg (List.toArray cs)) (Wb (l := cs) isAgg27 sizeOf27 rfl hl (hF.cellsAll 0 rfl)) ?_
 refine Pb hF (OG x hsz S _ cs (hF.rep hR)) (Fb II rfl rfl) ?_
 clear hF; intro w hF
 refine Ca (KI rfl rfl) (Ca (Wc rfl rfl) (Ca (Gc rfl) (Ga ?_)))
 refine Wd (v := .bool _) rfl rfl ?_
 refine ⟨congrArg Value.bool ?_, hF.same⟩
 unfold On
 first | (rw [decide_eq_true (by omega : Kc x ≤ 4096)]; exact decide_eq_decide.2 by_Om) | (rw [decide_eq_false (by omega : ¬ Kc x ≤ 4096)]; rfl)
 refine Ta (Ta (Ta (Ca (Pd rfl rfl) (Ca (Gc rfl) (Ga ?_)))))
 refine Wd (v := .bool false) rfl rfl ?_
 refine ⟨congrArg Value.bool ?_, hF.same⟩
 unfold On
 first | (rw [decide_eq_true (by omega : Kc x ≤ 4096)]; exact decide_eq_decide.2 by_Om) | (rw [decide_eq_false (by omega : ¬ Kc x ≤ 4096)]; rfl)
theorem G1 (x : Tree) (hsz : Kc x ≤ 1000000000) (S : Nat → Prop) (w0 : World) (cs : List Value) (hR : Rep S w0 (Qc x) cs) (hk : Lx x) (hG : Gl w0) : Calls prog 41 #[.agg cs.toArray] w0 (Nd fun v w' => v = .bool (Od x) ∧ Same [] w0 w') := by
 have hl : cs.length = 4 := hR.length.trans (Id x)
 have ho := hR.one_
 refine Ka func41 rfl ntmps41 Kb (Yc _) ?_
 have hF := FR.start w0 []
 refine Ma ?_
 refine Yn (v := .agg (List.toArray cs)) (cs := (List.toArray cs)) hF rfl rfl ?_
 clear hF; rintro b1 w hb1 hF -
 refine Ca (Gc rfl) (Dc (Ja (v := .agg (List.toArray cs)) (Wb (l := cs) isAgg27 sizeOf27 rfl hl (hF.cellsAll 0 rfl)) ?_))
 refine Pb hF (R8 x hsz S _ cs (hF.rep hR)) (Fb JH rfl rfl) ?_
 clear hF; intro w hF
 refine Ca (Ld rfl) ?_
 refine If (d := 5) rfl (fun hg0 => ?_) (fun hg0 => ?_)
 refine Ja (v := .agg (List.toArray cs)) (Wb (l := cs) isAgg27 sizeOf27 rfl hl (hF.cellsAll 0 rfl)) ?_
 refine Pb hF (EB rnodeB ZF x S _ cs (hF.rep hR) hk (hG.ext hF.same)) (Mb VE rfl rfl rfl) ?_
 clear hF; intro w hF
 refine Ca (Wc rfl rfl) (Ca (Gc rfl) (Ga ?_))
 refine Wd (v := .bool _) rfl rfl ?_
 exact ⟨congrArg Value.bool (by unfold Od; simp_all), hF.same⟩
 refine Ta (Ta (Ca (Pd rfl rfl) (Ca (Gc rfl) (Ga ?_))))
 refine Wd (v := .bool false) rfl rfl ?_
 exact ⟨congrArg Value.bool (by unfold Od; simp_all), hF.same⟩
theorem UJ (x : Tree) (hsz : Kc x ≤ 1000000000) (S : Nat → Prop) (w0 : World) (cs : List Value) (hR : Rep S w0 (Qc x) cs) (hk : Lx x) (hG : Gl w0) : Calls prog 33 #[.agg cs.toArray] w0 (Nd fun v w' => v = .bool (Mi x) ∧ Same [] w0 w') := by
 have hl : cs.length = 4 := hR.length.trans (Id x)
 have ho := hR.one_
 refine Ka func33 rfl ntmps33 Kb (Yc _) ?_
 have hF := FR.start w0 []
 refine Ma ?_
 refine Yn (v := .agg (List.toArray cs)) (cs := (List.toArray cs)) hF rfl rfl ?_
 clear hF; rintro b1 w hb1 hF -
 refine Ca (Gc rfl) (Dc (Ja (v := .agg (List.toArray cs)) (Wb (l := cs) isAgg27 sizeOf27 rfl hl (hF.cellsAll 0 rfl)) ?_))
 refine Pb hF (R8 x hsz S _ cs (hF.rep hR)) (Fb JH rfl rfl) ?_
 clear hF; intro w hF
 refine Ca (Ld rfl) ?_
 refine If (d := 5) rfl (fun hg0 => ?_) (fun hg0 => ?_)
 refine Ja (v := .agg (List.toArray cs)) (Wb (l := cs) isAgg27 sizeOf27 rfl hl (hF.cellsAll 0 rfl)) ?_
 refine Pb hF (I_ nodeB MB x S _ cs (hF.rep hR) hk (hG.ext hF.same)) (Mb VE rfl rfl rfl) ?_
 clear hF; intro w hF
 refine Ca (Wc rfl rfl) (Ca (Gc rfl) (Ga ?_))
 refine Wd (v := .bool _) rfl rfl ?_
 exact ⟨congrArg Value.bool (by unfold Mi; simp_all), hF.same⟩
 refine Ta (Ta (Ca (Pd rfl rfl) (Ca (Gc rfl) (Ga ?_))))
 refine Wd (v := .bool false) rfl rfl ?_
 exact ⟨congrArg Value.bool (by unfold Mi; simp_all), hF.same⟩
end Go.Scarf
