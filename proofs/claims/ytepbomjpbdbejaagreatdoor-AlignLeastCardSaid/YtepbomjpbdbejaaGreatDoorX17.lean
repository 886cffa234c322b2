/- A part of the proof. -/
import Derived.Test.YtepbomjpbdbejaaGreatDoorA19
import Derived.Test.YtepbomjpbdbejaaGreatDoorA9
set_option linter.all false
set_option maxHeartbeats 8000000
set_option maxRecDepth 10000
namespace Go.Scarf
open Go.RowKit Go.Proofs Go.Proofs.Tryz
theorem F2 {P : Program} {ρ : Operand → Value} {o : Oper} {w w' : World} {b c : Bool} (h : (execOp ρ o).run P w = .ok (.value (.bool b)) w') (hb : b = c) : (execOp ρ o).run P w = .ok (.value (.bool c)) w' := by rw [h, hb]
theorem V5 (w0 : World) (hG : Gl w0) (a : List Tree) (A : Option Addr) (c : Nat) (hA_ : Rep (fun _ => True) w0 (.slice (Dd a)) [.slice A a.length c]) (b : List Tree) (B : Option Addr) (e : Nat) (hB_ : Rep (fun _ => True) w0 (.slice (Dd b)) [.slice B b.length e]) (m : List (Int × Int)) (C : Option Addr) (f : Nat) (hM_ : Rep (fun _ => True) w0 (Kh m) [.slice C m.length f]) : Calls prog 7 #[.slice A a.length c, .slice B b.length e, .slice C m.length f] w0 (Rd fun v w' => v = .bool true ∧ Same [] w0 w') := by
 have hXl := hA_.slice_len
 have hYl := hB_.slice_len
 have hMl := hM_.pairs_len
 rw [Mf] at hXl hYl
 refine Ma func7 rfl ntmps7 Jb (Yi _ _ _) ?_
 have hF := FR.start w0 []
 refine Ka (Ca (Ec rfl) (Cc ?_))
 refine Pb hF (JF _ (hG.ext hF.same)) (AN QU rfl) ?_
 clear hF; intro w hF
 refine Ca (Ec rfl) (Cc (Ca (Md rfl) ?_))
 refine Pb hF (BD a _ _ _ _ (hF.rep hA_)) (Eb DT rfl rfl) ?_
 clear hF; intro w hF
 refine Ca (Fd rfl) ?_
 refine We (d := 21) rfl (fun hg0 => ?_) (fun hg0 => ?_)
 ·
  refine Ca (Md rfl) ?_
  refine Pb hF (BD b _ _ _ _ (hF.rep hB_)) (Eb DT rfl rfl) ?_
  clear hF; intro w hF
  refine Ca (Oc rfl rfl) (Ca (Ec rfl) (Ea (Ia (Ka (Ca (Fd rfl) (Ca (Oo rfl) (Ca (Fd rfl) ?_)))))))
  refine We (d := 27) rfl (fun hg1 => ?_) (fun hg1 => ?_)
  ·
   refine Sa (Sa (Sa (Ca (Oc rfl rfl) (Ca (Fd rfl) (Sa (Sa (Sa (Ca (Oc rfl rfl) (Ca (Fd rfl) (Sa (Sa (Sa (Ca (Oc rfl rfl) ?_)))))))))))))
   refine Ea (Ae rfl (Ka (Ca (Fd rfl) (Ca (Ec rfl) (Ea ?_)))))
   refine Xd (v := .bool true) rfl rfl ?_
   exact ⟨rfl, hF.same⟩
  ·
   refine Ca (Md rfl) (Ca (Qe underlying22 rfl) (Ca (X0 rfl rfl) (Ca (Jd rfl rfl) (Ca (Fd rfl) ?_))))
   refine Cd (d := 32) rfl (fun hg2 => ?_) (fun hg2 => ?_)
   ·
    refine Sa (Sa (Sa (Ca (Oc rfl rfl) (Ca (Fd rfl) (Sa (Sa (Sa (Ca (Oc rfl rfl) (Ea (Ae rfl (Ka ?_)))))))))))
    refine Ca (Fd rfl) (Ca (Ec rfl) (Ea ?_))
    refine Xd (v := .bool true) rfl rfl ?_
    exact ⟨rfl, hF.same⟩
   ·
    refine Ca (Md rfl) (Ca (Qe underlying22 rfl) (Ca (X0 rfl rfl) (Ca (Jd rfl rfl) (Ca (Fd rfl) ?_))))
    refine Cd (d := 37) rfl (fun hg3 => ?_) (fun hg3 => ?_)
    ·
     refine Sa (Sa (Sa (Ca (Oc rfl rfl) (Ea (Ae rfl (Ka (Ca (Fd rfl) (Ca (Ec rfl) (Ea ?_)))))))))
     refine Xd (v := .bool true) rfl rfl ?_
     exact ⟨rfl, hF.same⟩
    ·
     refine Ca (Md rfl) (Ca (Qe underlying29 rfl) (Ca (X0 rfl rfl) (Ca (Jd rfl rfl) (Ea ?_))))
     refine Pc rfl rfl (fun hc0 => ?_) (fun hc0 => ?_)
     ·
      refine Ka (Ca (Fd rfl) (Ca (Ec rfl) (Ea ?_)))
      refine Xd (v := .bool true) rfl rfl ?_
      exact ⟨rfl, hF.same⟩
     ·
      refine Wa (Ha (Ka (Ca (Md rfl) (Ca (Md rfl) ?_))))
      have hfa : Nq a = true := by simp_all
      have hfb : Nq b = true := by simp_all
      have hoa := Cr hfa
      have hob := Cr hfb
      refine Db (Z8 _ _ _ (hG.ext hF.same) a b _ _ _ _ (hF.rep hA_) (hF.rep hB_) hoa hob) (Qb I9 rfl rfl rfl) ?_
      rintro _ w ⟨Z1, z1, y1, n1, rfl, hr1, hz1, hE⟩
      replace hr1 := hr1
      replace hF := hF.ext hE
      clear hE
      refine Ca (Xm rfl) (Ca (TA rfl rfl) (Ca (Zn rfl rfl) (Ca (Zn rfl rfl) (Ca (Il rfl) (Ca (Gc rfl) (Ca (Gc rfl) (Cc (Ca (Md rfl) (Ca (Md rfl) ?_)))))))))
      refine Db (Z8 _ _ _ (hG.ext hF.same) b a _ _ _ _ (hF.rep hB_) (hF.rep hA_) hob hoa) (Qb I9 rfl rfl rfl) ?_
      rintro _ w ⟨Z2, z2, y2, n2, rfl, hr2, hz2, hE⟩
      replace hr2 := hr2
      replace hF := hF.ext hE
      replace hr1 := fun h => (hr1 h).imp id (And.imp (fun h => h.ext hE) id)
      clear hE
      refine Ca (Xm rfl) (Ca (TA rfl rfl) (Ca (Zn rfl rfl) (Ca (Zn rfl rfl) (Ca (Il rfl) (Ca (Gc rfl) (Ca (Gc rfl) (Ea (Ia (Ka (Ca (Hb rfl) (Ca (Ux rfl rfl) ?_)))))))))))
      refine Ea ?_
      refine Pc rfl rfl (fun hc1 => ?_) (fun hc1 => ?_)
      ·
       refine Ka (Ca (Fd rfl) (Ca (Fd rfl) (Ca (Hb rfl) (Ca (Hb rfl) (Ja (v := .bool true) (Ld (Rg rfl rfl) (I3 ..)) (Ca (Oc rfl rfl) (Ca (Fd rfl) (Ca (Md rfl) (Ca (Qe underlying29 rfl) ?_)))))))))
       refine Ja (v := .bool true) (Ld (Rg rfl rfl) (by have := (hz1 (by first | assumption | omega | simp_all)).1; omega)) ?_
       refine Ca (Oc rfl rfl) (Ca (Ec rfl) (Ea ?_))
       refine Xd (v := .bool true) rfl rfl ?_
       exact ⟨rfl, hF.same⟩
      ·
       refine Wa (Ha (Ia ?_))
       have he : Lr a b = 0 := by first | omega | simp_all
       have he2 : Lr b a = 0 := by rw [I3]; exact he
       have q := Ev.1 he
       have hokx := D9 q.1 hfa
       have hoky := D9 q.2 hfb
       obtain ⟨e1, hm1, e2⟩ := hr1 he
       obtain ⟨-, -, e3⟩ := hr2 he2
       clear hr1 hr2 hz1 hz2
       have e4 : AL b a = AL a b := BO TN _ _
       have hls := U_ hokx hoky
       refine Da (Ca (Md rfl) (Ca (Qe underlying22 rfl) (Ca (Md rfl) (Ca (Qe underlying22 rfl) (Ca (Fo rfl rfl) (Ca (Ec rfl) (Ea (Ia (Ka (Ca (Gc rfl) (Ya ?_)))))))))))
       refine Ha (Va ?_)
       refine Uc (fun μ σ w => ∃ (i : Nat), ∃ (sm : Bool), μ = a.length - i ∧ (i ≤ a.length) ∧ (sm = true → a.length = b.length ∧ ∀ k, k < i → ∀ (h1 : k < a.length) (h2 : k < b.length), Gm a[k] b[k] = true) ∧ (sm = false → ¬ (a.length = b.length ∧ ∀ k (h1 : k < a.length) (h2 : k < b.length), Gm a[k] b[k] = true)) ∧ (Rep (fun _ => True) w (Kh (PT a b)) [.slice Z1 z1 y1]) ∧ AllEq σ [(0, .slice A a.length c), (1, .slice B b.length e), (2, .slice C m.length f), (7, .bool true), (9, .slice Z1 z1 y1), (10, .int .i64 n1), (13, .int .i64 n2), (14, .int .i64 (Lr b a)), (15, .bool (sm)), (16, .int .i64 ((i : Int)))] ∧ FR w0 [] [] w) _ ⟨0, decide (((a.length : Nat) : Int) = ((b.length : Nat) : Int)), rfl, (Nat.zero_le _), (fun h => ⟨by have := of_decide_eq_true h; omega, fun k hk => by omega⟩), (fun h hh => by have := of_decide_eq_false h; omega), (hm1), ⟨rfl, rfl, rfl, rfl, rfl, rfl, rfl, rfl, rfl, rfl, trivial⟩, hF⟩ ?_
       clear hF; rintro μ σ w ⟨i, sm, rfl, hi, hs1, hs0, hm1, hs, hF⟩
       refine Cg.slots hs ?_
       clear hs; intro σ
       refine Ia (Ka (Ca (Hb rfl) (Ca (Md rfl) (Ca (Qe underlying22 rfl) (Ca (Nk rfl rfl) (Ca (Fd rfl) ?_))))))
       refine Cd (d := 79) rfl (fun hg4 => ?_) (fun hg4 => ?_)
       ·
        refine Ca (Fd rfl) (Ca (Oc rfl rfl) (Ea ?_))
        refine Pj rfl rfl (fun hc2 => ?_) (fun hc2 => ?_)
        ·
         refine Wa (Ha (Ia (Va ?_)))
         have hl_ := (hs1 (by assumption)).1
         have hxa := hokx _ (List.getElem_mem (l := a) (n := i) by_Om)
         have hyb := hoky _ (List.getElem_mem (l := b) (n := i) by_Om)
         refine Id [] (.free 0 (.free 1 (.free 2 (.free 3 (.free 4 (.free 5 (.free 6 (.free 7 (.act 8 (.free 9 .nil)))))))))) hF ?_
         clear hF; intro w hF hE
         replace hm1 := hm1.ext hE
         clear hE
         refine ⟨fun wq => FR w0 [] _ wq, hF, ?_⟩
         refine Xa rfl (Md rfl) (Xa rfl (Hb rfl) ?_)
         obtain ⟨ad5, cs5, hA5, hl5, hk5, hx5⟩ := hA_.tree_elem (i := i) by_Om
         have ho5 := hx5.one_
         refine Qa rfl (v := .pointer (some (ad5.add (i * 4)))) (fun w hC => Oa (i := (i : Int)) Hi rfl hA5 rfl by_Om by_Om) (Qa rfl (v := .agg (List.toArray cs5)) (fun w hC => Sb (l := cs5) isAgg27 sizeOf27 rfl hl5 (hC.cells0 hk5)) (Xa rfl (Md rfl) (Xa rfl (Hb rfl) ?_)))
         obtain ⟨ad6, cs6, hA6, hl6, hk6, hx6⟩ := hB_.tree_elem (i := i) by_Om
         have ho6 := hx6.one_
         refine Qa rfl (v := .pointer (some (ad6.add (i * 4)))) (fun w hC => Oa (i := (i : Int)) Hi rfl hA6 rfl by_Om by_Om) (Qa rfl (v := .agg (List.toArray cs6)) (fun w hC => Sb (l := cs6) isAgg27 sizeOf27 rfl hl6 (hC.cells0 hk6)) ?_)
         refine Ke rfl (DM a[i] b[i] (Nat.le_trans hxa.2.2.1 Ra) (Nat.le_trans hyb.2.2.1 Ra) _ _ _ cs5 cs6 (hF.rep hx5) (hF.rep hx6) (hoa _ (List.getElem_mem by_Om)).1 (hob _ (List.getElem_mem by_Om)).1 (hG.ext hF.same)) (Qb VT rfl rfl rfl) ?_
         rintro _ w ⟨rfl, hE⟩
         replace hF := hF.ext hE
         replace hm1 := hm1.ext hE
         clear hE
         refine ⟨hF, ?_⟩
         refine Xa rfl (Ec rfl) (Jc (Mb (Ha (Da (Ca (Hb rfl) (Ca (Qi (((i + 1 : Nat) : Int)) rfl rfl) (Ca (Gc rfl) (Ya ?_))))))))
         refine Ic ⟨_, ?_, i + 1, Gm a[i] b[i], rfl, by_Om, (fun h => ⟨hl_, fun k hk h1 h2 => by by_cases e : k = i; (subst e; exact h); (exact (hs1 (by assumption)).2 k by_Om h1 h2)⟩), (fun h hh => by have := hh.2 i by_Om by_Om; rw [h] at this; cases this), (hm1), ⟨rfl, rfl, rfl, rfl, rfl, rfl, rfl, rfl, rfl, rfl, trivial⟩, hF⟩
         omega
        ·
         refine Nc (Lc rfl ?_)
         refine Ha (Ia ?_)
         have hzz := M3 hls e2 hs1 hs0 (by first | (exact .inl (by assumption)) | (exact .inr by_Om))
         refine Da (Ca (Md rfl) (Ca (Md rfl) (Ca (Md rfl) ?_)))
         refine Db (N4 _ (hG.ext hF.same) (hF.rep hA_) (hF.rep hB_) _ m (hF.rep hM_) rfl by_Om by_Om hokx hoky) (Dc LD rfl rfl rfl rfl) ?_
         rintro _ w ⟨x1, rfl, hx1, hE⟩
         replace hm1 := hm1.ext hE
         replace hF := hF.ext hE
         clear hE
         refine Ca (Gc rfl) (Cc (Ca (Fd rfl) (Ca (Fd rfl) (Ca (Hb rfl) (Ja (v := .bool true) (Ld (Rg rfl rfl) (he2)) (Ca (Oc rfl rfl) (Ca (Fd rfl) (Ca (Md rfl) (Ca (Md rfl) (Ca (Md rfl) ?_))))))))))
         refine Db (Zz _ (hG.ext hF.same) (hF.rep hA_) (hF.rep hB_) _ hm1 e1 by_Om by_Om hokx hoky) (Dc LD rfl rfl rfl rfl) ?_
         rintro _ w ⟨rfl, hE⟩
         replace hm1 := hm1.ext hE
         replace hF := hF.ext hE
         clear hE
         refine Ca (Hb rfl) (Ja (v := .bool true) (Ld (Rg rfl rfl) (e2.symm)) (Ca (Oc rfl rfl) (Ca (Fd rfl) (Ca (Hb rfl) (Ca (Hb rfl) ?_)))))
         refine Ja (v := .bool true) (Ld (Rg rfl rfl) (by rw [e2, e3, show al Jg pN (b.map Fb) (a.map Fb) = al Jg pN (a.map Fb) (b.map Fb) from e4])) ?_
         refine Ca (Oc rfl rfl) (Ca (Fd rfl) (Ca (Hb rfl) (Ca (Fo rfl rfl) (Ca (Fd rfl) (Ja (v := .bool true) (F2 (AJ underlying4 rfl rfl) hzz) (Ca (Oc rfl rfl) (Ca (Fd rfl) (Ca (Hb rfl) (Ca (Nk rfl rfl) (Ca (Fd rfl) ?_))))))))))
         refine Cd (d := 124) rfl (fun hg7 => ?_) (fun hg7 => ?_)
         ·
          refine Sa (Sa (Sa (Ca (Oc rfl rfl) (Ca (Oc rfl rfl) (Ca (Ec rfl) (Ea ?_))))))
          refine Xd (v := .bool true) rfl rfl ?_
          exact ⟨rfl, hF.same⟩
         ·
          refine Ca (Hb rfl) (Ca (Hb rfl) ?_)
          refine Ja (v := .bool true) (Ld (XD rfl rfl) (by first | omega | (rw [e2]; simp_all; done) | (rw [e2]; simp_all; omega))) ?_
          refine Ca (Jd rfl rfl) (Ca (Oc rfl rfl) (Ca (Ec rfl) (Ea ?_)))
          refine Xd (v := .bool true) rfl rfl ?_
          exact ⟨rfl, hF.same⟩
       ·
        refine Sa (Ca (Jd rfl rfl) (Ea (Bg rfl ?_)))
        refine Nc (Lc rfl ?_)
        refine Ha (Ia ?_)
        have hzz := M3 hls e2 hs1 hs0 (by first | (exact .inl (by assumption)) | (exact .inr by_Om))
        refine Da (Ca (Md rfl) (Ca (Md rfl) (Ca (Md rfl) ?_)))
        refine Db (N4 _ (hG.ext hF.same) (hF.rep hA_) (hF.rep hB_) _ m (hF.rep hM_) rfl by_Om by_Om hokx hoky) (Dc LD rfl rfl rfl rfl) ?_
        rintro _ w ⟨x1, rfl, hx1, hE⟩
        replace hm1 := hm1.ext hE
        replace hF := hF.ext hE
        clear hE
        refine Ca (Gc rfl) (Cc (Ca (Fd rfl) (Ca (Fd rfl) (Ca (Hb rfl) (Ja (v := .bool true) (Ld (Rg rfl rfl) (he2)) (Ca (Oc rfl rfl) (Ca (Fd rfl) (Ca (Md rfl) (Ca (Md rfl) (Ca (Md rfl) ?_))))))))))
        refine Db (Zz _ (hG.ext hF.same) (hF.rep hA_) (hF.rep hB_) _ hm1 e1 by_Om by_Om hokx hoky) (Dc LD rfl rfl rfl rfl) ?_
        rintro _ w ⟨rfl, hE⟩
        replace hm1 := hm1.ext hE
        replace hF := hF.ext hE
        clear hE
        refine Ca (Hb rfl) (Ja (v := .bool true) (Ld (Rg rfl rfl) (e2.symm)) (Ca (Oc rfl rfl) (Ca (Fd rfl) (Ca (Hb rfl) (Ca (Hb rfl) ?_)))))
        refine Ja (v := .bool true) (Ld (Rg rfl rfl) (by rw [e2, e3, show al Jg pN (b.map Fb) (a.map Fb) = al Jg pN (a.map Fb) (b.map Fb) from e4])) ?_
        refine Ca (Oc rfl rfl) (Ca (Fd rfl) (Ca (Hb rfl) (Ca (Fo rfl rfl) (Ca (Fd rfl) (Ja (v := .bool true) (F2 (AJ underlying4 rfl rfl) hzz) (Ca (Oc rfl rfl) (Ca (Fd rfl) (Ca (Hb rfl) (Ca (Nk rfl rfl) (Ca (Fd rfl) ?_))))))))))
        refine Cd (d := 124) rfl (fun hg8 => ?_) (fun hg8 => ?_)
        ·
         refine Sa (Sa (Sa (Ca (Oc rfl rfl) (Ca (Oc rfl rfl) (Ca (Ec rfl) (Ea ?_))))))
         refine Xd (v := .bool true) rfl rfl ?_
         exact ⟨rfl, hF.same⟩
        ·
         refine Ca (Hb rfl) (Ca (Hb rfl) ?_)
         refine Ja (v := .bool true) (Ld (XD rfl rfl) (by first | omega | (rw [e2]; simp_all; done) | (rw [e2]; simp_all; omega))) ?_
         refine Ca (Jd rfl rfl) (Ca (Oc rfl rfl) (Ca (Ec rfl) (Ea ?_)))
         refine Xd (v := .bool true) rfl rfl ?_
         exact ⟨rfl, hF.same⟩
 ·
  refine Sa (Sa (Ca (Jd rfl rfl) (Ca (Ec rfl) (Ea (Ia (Ka (Ca (Fd rfl) (Ca (Oo (b := false) rfl) (Ca (Fd rfl) (Sa (Sa ?_)))))))))))
  refine Sa (Ca (Oc rfl rfl) (Ca (Fd rfl) (Sa (Sa (Sa (Ca (Oc rfl rfl) (Ca (Fd rfl) (Sa (Sa (Sa (Ca (Oc rfl rfl) (Ea ?_))))))))))))
  refine Ae rfl (Ka (Ca (Fd rfl) (Ca (Ec rfl) (Ea ?_))))
  refine Xd (v := .bool true) rfl rfl ?_
  exact ⟨rfl, hF.same⟩
end Go.Scarf
