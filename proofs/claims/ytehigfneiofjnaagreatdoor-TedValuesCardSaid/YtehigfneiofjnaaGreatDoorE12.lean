/- A part of the proof. -/
import Derived.Test.YtehigfneiofjnaaGreatDoorE11
import Derived.Test.YtehigfneiofjnaaGreatDoorW16
import Derived.Test.YtehigfneiofjnaaGreatDoorX2
set_option linter.all false
set_option maxHeartbeats 8000000
set_option maxRecDepth 10000
namespace Go.Scarf
open Go.RowKit Go.Proofs Go.Proofs.Tryz
section
variable {α : Type} {f : α → α → Int} {xs ys : List α} {j : Nat} {Q q r : Int}
end
theorem G_ (x : Tree) (hsz : Ec x ≤ 1000000000) (hm : Ae x ≤ 1073741824) (S : Nat → Prop) (w0 : World) (cs : List Value) (hR : Rep S w0 (Gc x) cs) : VL 40 #[.agg cs.toArray] (Gc (Cf x)) w0 := by
 have hl : cs.length = 4 := hR.length.trans (Ac x)
 have ho := hR.one_
 refine Ma func40 rfl ntmps40 Qb (Rc _) ?_
 have hF := FR.start w0 []
 refine Ha ?_
 refine Vf (v := .agg (List.toArray cs)) (cs := (List.toArray cs)) hF rfl rfl ?_
 clear hF; rintro b1 w hb1 hF -
 refine Af (cs := #[.int .i64 0, .string (bs []), .slice none 0 0, .slice none 0 0]) hF zeroValue25 rfl ?_
 clear hF; rintro b2 w hb2 hF -
 refine Yb (Fa (v := .agg (List.toArray cs)) (Rb (l := cs) isAgg25 sizeOf25 rfl hl (hF.cellsAll 1 rfl)) ?_)
 refine Va hF (YK x hsz hm S _ cs (hF.rep hR)) (Ua HR rfl rfl) ?_
 clear hF; intro w hF
 refine Ca (Cc rfl) (Da (Ia (Ha (Ca (Jc rfl) (Ca (Dm rfl) (Da ?_))))))
 refine Vh rfl rfl (fun hc0 => ?_) (fun hc0 => ?_)
 refine Ha ?_
 refine Fa (w' := w) (v := .agg #[.int .i64 0, .string (bs []), .slice none 0 0, .slice none 0 0]) Fb ?_
 refine Ij hF sizeOf25 rfl rfl Dl ?_
 clear hF; rintro w hF -
 refine Da ?_
 refine Pb (Ob (Qa (Qk rfl (l := [.int .i64 0, .string (bs []), .slice none 0 0, .slice none 0 0]) rfl isAgg25 sizeOf25 rfl (hF.cellsAll 0 rfl)) ?_))
 have ho_ : Ti x = false := Gi (by assumption)
 refine ⟨_, rfl, ?_, hF.same⟩
 rw [Cf, ho_]
 exact S5 _ _
 refine Ra (Ja (Ha (Fa (v := .agg (List.toArray cs)) (Rb (l := cs) isAgg25 sizeOf25 rfl hl (hF.cellsAll 1 rfl)) ?_)))
 refine Zb (WH x S _ cs (hF.rep hR) (Tn (Te (by assumption))) hsz) (Ua EG rfl rfl) ?_
 rintro _ w ⟨ct, rfl, hRt, hE⟩
 have hlct : ct.length = 4 := hRt.length.trans (Ac _)
 have hoct := hRt.one_
 have hXX := RX.made (ids := [b2, b1]) hF.same.size (fun x hx => hF.lt_ids (by grind)) hRt
 replace hF := hF.ext hE
 clear hE hRt
 refine Pe 0 (l := ct) (cs' := (List.toArray ct)) hF (by rw [hlct]; exact sizeOf25) rfl (v := .agg (List.toArray ct)) rfl rfl (hoct) rfl (by rw [hlct]; exact Nat.le_of_ble_eq_true rfl) (Mr (by rw [hlct]; rfl)) ?_
 clear hF; intro w hF hE
 replace hXX := hXX.store hE (by grind)
 clear hE
 replace hF : FR w0 [] [(b2, .cells (List.toArray ct) 25), _] w := hF
 refine Da ?_
 refine Pb (Ob (Qa (Qk rfl (l := ct) rfl isAgg25 sizeOf25 hlct (hF.cellsAll 0 rfl)) ?_))
 have ho_ : Ti x = true := Te (by assumption)
 refine ⟨_, rfl, ?_, hF.same⟩
 rw [Cf, ho_]
 · exact hXX.done
end Go.Scarf
namespace Go.Scarf
open Go.RowKit Go.Proofs Go.Proofs.Tryz
theorem AQ {n : Nat} (h : n < 256) : IntKind.u8.wrap (((n : Nat) : Int).tdiv 16) = ((n / 16 : Nat) : Int) := by
  have : ((n : Nat) : Int).tdiv 16 = ((n / 16 : Nat) : Int) := rfl
  rw [this, IntKind.wrap_u8]; omega
theorem H3 {k : Nat} (h : k < ([48, 49, 50, 51, 52, 53, 54, 55, 56, 57, 97, 98, 99, 100, 101, 102] : Str).length) : ([48, 49, 50, 51, 52, 53, 54, 55, 56, 57, 97, 98, 99, 100, 101, 102] : Str)[k] = dg k := by
  have : ∀ k < 16, ([48, 49, 50, 51, 52, 53, 54, 55, 56, 57, 97, 98, 99, 100, 101, 102] : Str)[k]? = some (dg k) := by decide
  have h2 := this k h
  rw [List.getElem?_eq_getElem h] at h2
  exact Option.some.inj h2
theorem AP {n : Nat} : ((n : Nat) : Int).tmod 16 = ((n % 16 : Nat) : Int) := rfl
theorem E8 (s : Str) (hl : s.length ≤ 1099511627776) (w0 : World) : Calls prog 115 #[.string (bs s)] w0 (Ce fun v w' => v = .tuple #[.string (bs (qS s)), .int .i64 (if Lib.validD s = true then 0 else 2)] ∧ Same [] w0 w') := by
 refine Ma func115 rfl ntmps115 Qb (Rc _) ?_
 have hF := FR.start w0 []
 refine Ha (Ca (Ld rfl) (Ca (Kb rfl) (Yb (Ca (Pc rfl) ?_))))
 refine Zb (G8 s by_Om _) (Ua KI rfl rfl) ?_
 rintro _ w ⟨nn, rfl, hE⟩
 replace hF := hF.ext hE
 clear hE
 refine Ca (Qg rfl) (Ca (Re rfl rfl) (Ca (Xs rfl rfl) (Ca (Kb rfl) (Ca (Cc rfl) (Da (Ia (Ha (Ca (Jc rfl) (Ca (Dm rfl) (Da ?_))))))))))
 refine Vh rfl rfl (fun hc0 => ?_) (fun hc0 => ?_)
 refine Ha (Ca (Ld rfl) (Ca (Kb rfl) (Da ?_)))
 refine Pb (Ob (Qa (Nd (v := .string (bs [])) (x := .int .i64 2) rfl rfl rfl) ?_))
 have hv : Lib.validD s = false := Gi (by assumption)
 exact ⟨by rw [qS, hv]; rfl, hF.same⟩
 refine Ra (Ja (Ha (Ca (Ld rfl) (Yb ?_))))
 refine Yh 1 hF (Ka (cs := #[.int .u8 34]) underlying109 sizeOf5 zeroValue5 Oa Oa Fb) ?_
 clear hF; rintro b1 w hb1 hF -
 refine Ca (Nt rfl) (Da (Ia (Ha (Ca (Kb rfl) (Da (Db ?_))))))
 have hS0 : SlB 5 1 (some ⟨b1, 0, none⟩) 1 1 (Lib.byteCells [34]) [(b1, .cells #[.int .u8 34] 5)] := ⟨by simp [Lib.byteCells], .inr ⟨b1, _, rfl, rfl, Nat.le_refl _, by decide, by simp, by simp [Lib.byteCells]⟩⟩
 replace hF := hF.toseg 0 rfl
 refine Xc (fun μ σ w => ∃ (j : Nat), ∃ (acc : Str), ∃ (A : Option Addr), ∃ (c : Nat), ∃ (sb : List (Nat × Obj)), μ = s.length - j ∧ (j ≤ s.length) ∧ (1 ≤ acc.length ∧ acc.length ≤ 6 * j + 1) ∧ (acc = 34 :: Xp (s.take j)) ∧ (SlB 5 1 A acc.length c (Lib.byteCells acc) sb) ∧ AllEq σ [(0, .string (bs s)), (6, .string (bs [48, 49, 50, 51, 52, 53, 54, 55, 56, 57, 97, 98, 99, 100, 101, 102])), (7, .slice A acc.length c), (8, .int .i64 ((j : Int)))] ∧ FR w0 [] ([] ++ (sb ++ [])) w) _ ⟨0, [34], _, _, _, rfl, (Nat.zero_le _), Sa, (rfl), (hS0), An, hF⟩ ?_
 clear hF; rintro μ σ w ⟨j, acc, A, c, sb, rfl, hj, ha, hq, hS, hs, hF⟩
 refine Cg.slots hs ?_
 clear hs; intro σ
 refine Ia (Ha (Ca (Za rfl) (Ca (Pc rfl) (Ca (Hk underlying9 rfl) (Ca (Fj rfl rfl) (Da ?_))))))
 refine Bc rfl rfl (fun hc1 => ?_) (fun hc1 => ?_)
 refine Ra (Ja (Ia (Db (Ha (Ca (Pc rfl) (Ca (Za rfl) (Fa (v := .int .u8 ((((s : Str)[j]'by_Om).toNat : Int))) (Fd (j) underlying9 rfl rfl by_Om) (Ca (Kb rfl) (Yb ?_)))))))))
 refine Ca (Za rfl) (Ca (Li rfl rfl) (Ca (Jc rfl) ?_))
 refine Mb (d := 29) rfl (fun hg0 => ?_) (fun hg0 => ?_)
 refine Ea (Ea (Ca (Lc rfl rfl) (Da (Qd rfl (Ga (Ca (No rfl) (Ca (Za rfl) ?_)))))))
 refine Yh 2 hF (Ka (cs := #[.int .u8 92, .int .u8 ((((s : Str)[j]'by_Om).toNat : Int))]) underlying109 sizeOf5 zeroValue5 Oa Oa Fb) ?_
 clear hF; rintro b2 w hb2 hF -
 refine Rg [(b2, .cells #[.int .u8 92, .int .u8 ((((s : Str)[j]'by_Om).toNat : Int))] 5)] [] (news := [.int .u8 92, .int .u8 ((((s : Str)[j]'by_Om).toNat : Int))]) (len' := (acc ++ Jh (s[j]'by_Om)).length) (ys := Lib.byteCells (acc ++ Jh (s[j]'by_Om))) Mk hF hS rfl rfl (rfl) (fun _ => ⟨_, rfl, Qc (hF.cellsAll 0 rfl)⟩) (by simp [Value.oneCell']) (by simp only [maxLen]; omega) (by rw [FB by_Om]; simp) (by rw [FB by_Om]; simp [Lib.byteCells, H3]) by_Om ?_
 clear hF; intro A1 c1 o_1 w hS1_o hF hE hnew
 clear hE hnew
 refine Ca (Nt rfl) (Cb (Wb (Ja (Ga (Ca (Za rfl) (Ca (Di (((j + 1 : Nat) : Int)) rfl rfl) (Ca (Kb rfl) (Cb ?_))))))))
 refine Gb ⟨_, ?_, j + 1, acc ++ Jh (s[j]'by_Om), A1, c1, o_1, rfl, by_Om, (by have := Vk (s[j]'by_Om); rw [List.length_append]; omega), (by rw [Mj by_Om, hq]; rfl), (hS1_o), An, hF.drop 1⟩
 omega
 refine Ca (Za rfl) (Ca (Li rfl rfl) (Ca (Dc rfl rfl) (Da ?_)))
 refine Bc rfl rfl (fun hc2 => ?_) (fun hc2 => ?_)
 refine Ga (Ca (No rfl) (Ca (Za rfl) ?_))
 refine Yh 2 hF (Ka (cs := #[.int .u8 92, .int .u8 ((((s : Str)[j]'by_Om).toNat : Int))]) underlying109 sizeOf5 zeroValue5 Oa Oa Fb) ?_
 clear hF; rintro b3 w hb3 hF -
 refine Rg [(b3, .cells #[.int .u8 92, .int .u8 ((((s : Str)[j]'by_Om).toNat : Int))] 5)] [] (news := [.int .u8 92, .int .u8 ((((s : Str)[j]'by_Om).toNat : Int))]) (len' := (acc ++ Jh (s[j]'by_Om)).length) (ys := Lib.byteCells (acc ++ Jh (s[j]'by_Om))) Mk hF hS rfl rfl (rfl) (fun _ => ⟨_, rfl, Qc (hF.cellsAll 0 rfl)⟩) (by simp [Value.oneCell']) (by simp only [maxLen]; omega) (by rw [FB by_Om]; simp) (by rw [FB by_Om]; simp [Lib.byteCells, H3]) by_Om ?_
 clear hF; intro A2 c2 o_2 w hS2_o hF hE hnew
 clear hE hnew
 refine Ca (Nt rfl) (Cb (Wb (Ja (Ga (Ca (Za rfl) (Ca (Di (((j + 1 : Nat) : Int)) rfl rfl) (Ca (Kb rfl) (Cb ?_))))))))
 refine Gb ⟨_, ?_, j + 1, acc ++ Jh (s[j]'by_Om), A2, c2, o_2, rfl, by_Om, (by have := Vk (s[j]'by_Om); rw [List.length_append]; omega), (by rw [Mj by_Om, hq]; rfl), (hS2_o), An, hF.drop 1⟩
 omega
 refine Ha (Ca (Za rfl) (Ca (Li rfl rfl) (Da ?_)))
 refine Bc rfl rfl (fun hc3 => ?_) (fun hc3 => ?_)
 refine Ga (Ca (No rfl) ?_)
 refine Uo [] [] (txt := [92, 98]) (len' := (acc ++ Jh (s[j]'by_Om)).length) (ys := Lib.byteCells (acc ++ Jh (s[j]'by_Om))) Mk underlying9 rfl hF hS rfl rfl Oa (by simp; omega) (by rw [Wl 8 (t := [92, 98]) Oa (by decide +kernel) (by assumption)]; simp) (by rw [Wl 8 (t := [92, 98]) Oa (by decide +kernel) (by assumption)]; simp [Lib.byteCells, H3]) ?_
 clear hF; intro A3 c3 o_3 w hS3_o hF hE hnew
 clear hE hnew
 refine Ca (Nt rfl) (Cb (Wb (Ja (Ga (Ca (Za rfl) (Ca (Di (((j + 1 : Nat) : Int)) rfl rfl) (Ca (Kb rfl) (Cb ?_))))))))
 refine Gb ⟨_, ?_, j + 1, acc ++ Jh (s[j]'by_Om), A3, c3, o_3, rfl, by_Om, (by have := Vk (s[j]'by_Om); rw [List.length_append]; omega), (by rw [Mj by_Om, hq]; rfl), (hS3_o), An, hF⟩
 omega
 refine Ha (Ca (Za rfl) (Ca (Li rfl rfl) (Da ?_)))
 refine Bc rfl rfl (fun hc4 => ?_) (fun hc4 => ?_)
 refine Ga (Ca (No rfl) ?_)
 refine Uo [] [] (txt := [92, 102]) (len' := (acc ++ Jh (s[j]'by_Om)).length) (ys := Lib.byteCells (acc ++ Jh (s[j]'by_Om))) Mk underlying9 rfl hF hS rfl rfl Oa (by simp; omega) (by rw [Wl 12 (t := [92, 102]) Oa (by decide +kernel) (by assumption)]; simp) (by rw [Wl 12 (t := [92, 102]) Oa (by decide +kernel) (by assumption)]; simp [Lib.byteCells, H3]) ?_
 clear hF; intro A4 c4 o_4 w hS4_o hF hE hnew
 clear hE hnew
 refine Ca (Nt rfl) (Cb (Wb (Ja (Ga (Ca (Za rfl) (Ca (Di (((j + 1 : Nat) : Int)) rfl rfl) (Ca (Kb rfl) (Cb ?_))))))))
 refine Gb ⟨_, ?_, j + 1, acc ++ Jh (s[j]'by_Om), A4, c4, o_4, rfl, by_Om, (by have := Vk (s[j]'by_Om); rw [List.length_append]; omega), (by rw [Mj by_Om, hq]; rfl), (hS4_o), An, hF⟩
 omega
 refine Ha (Ca (Za rfl) (Ca (Li rfl rfl) (Da ?_)))
 refine Bc rfl rfl (fun hc5 => ?_) (fun hc5 => ?_)
 refine Ga (Ca (No rfl) ?_)
 refine Uo [] [] (txt := [92, 110]) (len' := (acc ++ Jh (s[j]'by_Om)).length) (ys := Lib.byteCells (acc ++ Jh (s[j]'by_Om))) Mk underlying9 rfl hF hS rfl rfl Oa (by simp; omega) (by rw [Wl 10 (t := [92, 110]) Oa (by decide +kernel) (by assumption)]; simp) (by rw [Wl 10 (t := [92, 110]) Oa (by decide +kernel) (by assumption)]; simp [Lib.byteCells, H3]) ?_
 clear hF; intro A5 c5 o_5 w hS5_o hF hE hnew
 clear hE hnew
 refine Ca (Nt rfl) (Cb (Wb (Ja (Ga (Ca (Za rfl) (Ca (Di (((j + 1 : Nat) : Int)) rfl rfl) (Ca (Kb rfl) (Cb ?_))))))))
 refine Gb ⟨_, ?_, j + 1, acc ++ Jh (s[j]'by_Om), A5, c5, o_5, rfl, by_Om, (by have := Vk (s[j]'by_Om); rw [List.length_append]; omega), (by rw [Mj by_Om, hq]; rfl), (hS5_o), An, hF⟩
 omega
 refine Ha (Ca (Za rfl) (Ca (Li rfl rfl) (Da ?_)))
 refine Bc rfl rfl (fun hc6 => ?_) (fun hc6 => ?_)
 refine Ga (Ca (No rfl) ?_)
 refine Uo [] [] (txt := [92, 114]) (len' := (acc ++ Jh (s[j]'by_Om)).length) (ys := Lib.byteCells (acc ++ Jh (s[j]'by_Om))) Mk underlying9 rfl hF hS rfl rfl Oa (by simp; omega) (by rw [Wl 13 (t := [92, 114]) Oa (by decide +kernel) (by assumption)]; simp) (by rw [Wl 13 (t := [92, 114]) Oa (by decide +kernel) (by assumption)]; simp [Lib.byteCells, H3]) ?_
 clear hF; intro A6 c6 o_6 w hS6_o hF hE hnew
 clear hE hnew
 refine Ca (Nt rfl) (Cb (Wb (Ja (Ga (Ca (Za rfl) (Ca (Di (((j + 1 : Nat) : Int)) rfl rfl) (Ca (Kb rfl) (Cb ?_))))))))
 refine Gb ⟨_, ?_, j + 1, acc ++ Jh (s[j]'by_Om), A6, c6, o_6, rfl, by_Om, (by have := Vk (s[j]'by_Om); rw [List.length_append]; omega), (by rw [Mj by_Om, hq]; rfl), (hS6_o), An, hF⟩
 omega
 refine Ha (Ca (Za rfl) (Ca (Li rfl rfl) (Da ?_)))
 refine Bc rfl rfl (fun hc7 => ?_) (fun hc7 => ?_)
 refine Ga (Ca (No rfl) ?_)
 refine Uo [] [] (txt := [92, 116]) (len' := (acc ++ Jh (s[j]'by_Om)).length) (ys := Lib.byteCells (acc ++ Jh (s[j]'by_Om))) Mk underlying9 rfl hF hS rfl rfl Oa (by simp; omega) (by rw [Wl 9 (t := [92, 116]) Oa (by decide +kernel) (by assumption)]; simp) (by rw [Wl 9 (t := [92, 116]) Oa (by decide +kernel) (by assumption)]; simp [Lib.byteCells, H3]) ?_
 clear hF; intro A7 c7 o_7 w hS7_o hF hE hnew
 clear hE hnew
 refine Ca (Nt rfl) (Cb (Wb (Ja (Ga (Ca (Za rfl) (Ca (Di (((j + 1 : Nat) : Int)) rfl rfl) (Ca (Kb rfl) (Cb ?_))))))))
 refine Gb ⟨_, ?_, j + 1, acc ++ Jh (s[j]'by_Om), A7, c7, o_7, rfl, by_Om, (by have := Vk (s[j]'by_Om); rw [List.length_append]; omega), (by rw [Mj by_Om, hq]; rfl), (hS7_o), An, hF⟩
 omega
 refine Ha (Ca (Za rfl) (Ca (Fj rfl rfl) (Da ?_)))
 refine Bc rfl rfl (fun hc8 => ?_) (fun hc8 => ?_)
 refine De [] (.free 0 (.free 1 (.free 2 (.free 3 (.free 4 (.free 5 (.free 6 (.free 7 (.free 8 (.act 9 (.act 10 (.free 11 .nil)))))))))))) hF ?_
 clear hF; rintro w hF -
 refine ⟨fun wq => FR w0 [] [] wq, hF.sub (List.nil_sublist _), ?_⟩
 refine Eb rfl (No rfl) (Eb rfl (Pc rfl) (Eb rfl (Za rfl) (Ib rfl (v := .int .u8 ((((s[j]'by_Om).toNat / 16 : Nat) : Int))) (fun w hC => OC rfl rfl Oa (AQ (UInt8.toNat_lt _))) ?_)))
 refine Ib rfl (v := .int .u8 (((([48, 49, 50, 51, 52, 53, 54, 55, 56, 57, 97, 98, 99, 100, 101, 102] : Str)[(s[j]'by_Om).toNat / 16]'(by simp; omega)).toNat : Int))) (fun w hC => Fd ((s[j]'by_Om).toNat / 16) underlying9 rfl rfl (by simp; omega)) ?_
 refine Eb rfl (Pc rfl) (Eb rfl (Za rfl) (Ib rfl (v := .int .u8 ((((s[j]'by_Om).toNat % 16 : Nat) : Int))) (fun w hC => M7 rfl rfl Oa (AP)) ?_))
 refine Ib rfl (v := .int .u8 (((([48, 49, 50, 51, 52, 53, 54, 55, 56, 57, 97, 98, 99, 100, 101, 102] : Str)[(s[j]'by_Om).toNat % 16]'(by simp; omega)).toNat : Int))) (fun w hC => Fd ((s[j]'by_Om).toNat % 16) underlying9 rfl rfl (by simp; omega)) ?_
 refine Xb 6 rfl hF (Ka (cs := #[.int .u8 92, .int .u8 117, .int .u8 48, .int .u8 48, .int .u8 (((([48, 49, 50, 51, 52, 53, 54, 55, 56, 57, 97, 98, 99, 100, 101, 102] : Str)[(s[j]'by_Om).toNat / 16]'(by simp; omega)).toNat : Int)), .int .u8 (((([48, 49, 50, 51, 52, 53, 54, 55, 56, 57, 97, 98, 99, 100, 101, 102] : Str)[(s[j]'by_Om).toNat % 16]'(by simp; omega)).toNat : Int))]) underlying109 sizeOf5 zeroValue5 Oa Oa Fb) ?_
 clear hF; rintro b4 w hb4 hF -
 refine ⟨hF.sub (.cons _ (List.nil_sublist _)), ?_⟩
 refine Bf [(b4, .cells #[.int .u8 92, .int .u8 117, .int .u8 48, .int .u8 48, .int .u8 (((([48, 49, 50, 51, 52, 53, 54, 55, 56, 57, 97, 98, 99, 100, 101, 102] : Str)[(s[j]'by_Om).toNat / 16]'(by simp; omega)).toNat : Int)), .int .u8 (((([48, 49, 50, 51, 52, 53, 54, 55, 56, 57, 97, 98, 99, 100, 101, 102] : Str)[(s[j]'by_Om).toNat % 16]'(by simp; omega)).toNat : Int))] 5)] [] (news := [.int .u8 92, .int .u8 117, .int .u8 48, .int .u8 48, .int .u8 (((([48, 49, 50, 51, 52, 53, 54, 55, 56, 57, 97, 98, 99, 100, 101, 102] : Str)[(s[j]'by_Om).toNat / 16]'(by simp; omega)).toNat : Int)), .int .u8 (((([48, 49, 50, 51, 52, 53, 54, 55, 56, 57, 97, 98, 99, 100, 101, 102] : Str)[(s[j]'by_Om).toNat % 16]'(by simp; omega)).toNat : Int))]) (len' := (acc ++ Jh (s[j]'by_Om)).length) (ys := Lib.byteCells (acc ++ Jh (s[j]'by_Om))) rfl Mk hF hS rfl rfl (rfl) (fun _ => ⟨_, rfl, Qc (hF.cellsAll 0 rfl)⟩) (by simp [Value.oneCell']) (by simp only [maxLen]; omega) (by rw [HB by_Om by_Om by_Om by_Om by_Om by_Om]; simp) (by rw [HB by_Om by_Om by_Om by_Om by_Om by_Om]; simp [Lib.byteCells, H3]) by_Om ?_
 clear hF; intro A8 c8 o_8 w hS8_o hF hE hnew
 clear hE hnew
 refine ⟨hF.sub (.cons _ (List.nil_sublist _)), ?_⟩
 refine Eb rfl (Nt rfl) (Ic (Wb (Ja (Ga (Ca (Za rfl) (Ca (Di (((j + 1 : Nat) : Int)) rfl rfl) (Ca (Kb rfl) (Cb ?_))))))))
 refine Gb ⟨_, ?_, j + 1, acc ++ Jh (s[j]'by_Om), A8, c8, o_8, rfl, by_Om, (by have := Vk (s[j]'by_Om); rw [List.length_append]; omega), (by rw [Mj by_Om, hq]; rfl), (hS8_o), An, hF.drop 1⟩
 omega
 refine Ga (Ca (No rfl) (Ca (Za rfl) ?_))
 refine Yh 1 hF (Ka (cs := #[.int .u8 ((((s : Str)[j]'by_Om).toNat : Int))]) underlying109 sizeOf5 zeroValue5 Oa Oa Fb) ?_
 clear hF; rintro b5 w hb5 hF -
 refine Rg [(b5, .cells #[.int .u8 ((((s : Str)[j]'by_Om).toNat : Int))] 5)] [] (news := [.int .u8 ((((s : Str)[j]'by_Om).toNat : Int))]) (len' := (acc ++ Jh (s[j]'by_Om)).length) (ys := Lib.byteCells (acc ++ Jh (s[j]'by_Om))) Mk hF hS rfl rfl (rfl) (fun _ => ⟨_, rfl, Qc (hF.cellsAll 0 rfl)⟩) (by simp [Value.oneCell']) (by simp only [maxLen]; omega) (by rw [W1 by_Om by_Om by_Om]; simp) (by rw [W1 by_Om by_Om by_Om]; simp [Lib.byteCells, H3]) by_Om ?_
 clear hF; intro A9 c9 o_9 w hS9_o hF hE hnew
 clear hE hnew
 refine Ca (Nt rfl) (Cb (Wb (Ja (Ga (Ca (Za rfl) (Ca (Di (((j + 1 : Nat) : Int)) rfl rfl) (Ca (Kb rfl) (Cb ?_))))))))
 refine Gb ⟨_, ?_, j + 1, acc ++ Jh (s[j]'by_Om), A9, c9, o_9, rfl, by_Om, (by have := Vk (s[j]'by_Om); rw [List.length_append]; omega), (by rw [Mj by_Om, hq]; rfl), (hS9_o), An, hF.drop 1⟩
 omega
 refine Oc (Nc rfl ?_)
 refine Ja (Ha (Ca (No rfl) ?_))
 refine Yh 1 hF (Ka (cs := #[.int .u8 34]) underlying109 sizeOf5 zeroValue5 Oa Oa Fb) ?_
 clear hF; rintro b6 w hb6 hF -
 refine Rg [(b6, .cells #[.int .u8 34] 5)] [] (news := [.int .u8 34]) (len' := (acc ++ [34]).length) (ys := Lib.byteCells (acc ++ [34])) Mk hF hS rfl rfl (rfl) (fun _ => ⟨_, rfl, Qc (hF.cellsAll 0 rfl)⟩) (by simp [Value.oneCell']) (by simp only [maxLen]; omega) Sa (by simp [Lib.byteCells]) by_Om ?_
 clear hF; intro A10 c10 o_10 w hS10_o hF hE hnew
 clear hE hnew
 refine Fa (v := .string (bs (acc ++ [34]))) (OF (s := acc ++ [34]) hS10_o hF underlying109 underlying5 underlying9 rfl) (Ca (Ld rfl) (Ca (Kb rfl) (Da ?_)))
 refine Pb (Ob (Qa (Nd (v := .string (bs (acc ++ [34]))) (x := .int .i64 0) rfl rfl rfl) ?_))
 have hv : Lib.validD s = true := Te (by assumption)
 exact ⟨by rw [NG hv hq by_Om, hv]; rfl, hF.same⟩
theorem RP (n : Nat) : (Lib.repeatL [32] n).length = n := by
  induction n with
  | zero => rfl
  | succ n ih => simp [Lib.repeatL, ih]; try omega
theorem PI (n : Nat) : Lib.repeatL [32] n ++ [32] = Lib.repeatL [32] (n + 1) := by
  induction n with
  | zero => rfl
  | succ n ih => rw [Lib.repeatL, List.append_assoc, ih]; rfl
theorem F7 (n : Nat) (hn : n ≤ 1099511627776) (w0 : World) : Calls prog 116 #[.int .i64 (n : Nat)] w0 (Ce fun v w' => v = .string (bs (Lib.repeatL [32] n)) ∧ Same [] w0 w') := by
 refine Ma func116 rfl ntmps116 Qb (Rc _) ?_
 have hF := FR.start w0 []
 refine Ha (Ca (Ld rfl) (Yb (Ca (Ld rfl) (Da (Ia (Ha (Ca (Kb rfl) ?_)))))))
 refine Da (Db ?_)
 refine Xc (fun μ σ w => ∃ (j : Nat), ∃ (s : Str), μ = n - j ∧ (j ≤ n) ∧ (s = Lib.repeatL [32] j) ∧ AllEq σ [(0, .int .i64 ((n : Nat))), (3, .string (bs s)), (4, .int .i64 ((j : Int)))] ∧ FR w0 [] [] w) _ ⟨0, [], rfl, (Nat.zero_le _), (rfl), St, hF⟩ ?_
 clear hF; rintro μ σ w ⟨j, s, rfl, hj, hs, hs, hF⟩
 refine Cg.slots hs ?_
 clear hs; intro σ
 refine Ia (Ha (Ca (Za rfl) (Ca (Za rfl) (Ca (Fj rfl rfl) (Da ?_)))))
 refine Bc rfl rfl (fun hc0 => ?_) (fun hc0 => ?_)
 refine Ra (Ja (Ia (Db (Ga (Ca (Pc rfl) ?_)))))
 refine Fa (v := .string (bs ((s) ++ ([32])))) (Tg rfl rfl (by rw [hs, RP]; simp; omega)) ?_
 refine Ca (Ld rfl) (Cb (Wb (Ja (Ga (Ca (Za rfl) (Ca (Di (((j + 1 : Nat) : Int)) rfl rfl) (Ca (Kb rfl) (Cb ?_))))))))
 refine Gb ⟨_, ?_, j + 1, s ++ [32], rfl, by_Om, (by rw [hs]; exact PI j), St, hF⟩
 omega
 refine Oc (Nc rfl ?_)
 refine Ja (Ha (Ca (Pc rfl) (Ca (Ld rfl) (Da ?_))))
 refine Ud (v := .string (bs s)) rfl rfl ?_
 have ej : j = n := by omega
 subst ej
 exact ⟨by rw [hs], hF.same⟩
end Go.Scarf
