/- A part of the proof. -/
import Derived.Test.YthhhbkkelnaekaaGreatDoorE11
import Derived.Test.YthhhbkkelnaekaaGreatDoorW16
import Derived.Test.YthhhbkkelnaekaaGreatDoorX2
set_option linter.all false
set_option maxHeartbeats 8000000
set_option maxRecDepth 10000
namespace Go.Scarf
open Go.RowKit Go.Proofs Go.Proofs.Tryz
section
variable {α:Type} {f:α→α→Int} {xs ys:List α} {j:Nat} {Q q r:Int}
end
theorem BD (x:Tree) (hsz:Oc x≤1000000000) (hm:Lf x≤1073741824) (S:Nat→Prop) (w0:World) (cs:List Value) (hR:Rep S w0 (Vc x) cs):WM 51 #[.agg cs.toArray] (Vc (Qg x)) w0:=by
 have hl:cs.length=4:=hR.length.trans (Dd x)
 have ho:=hR.one_
 refine Ka func51 O ntmps51 Kb (Sc _) ?_
 have hF:=FR.start w0 []
 refine Ia ?_
 refine Io (v:=.agg (List.toArray cs)) (cs:=(List.toArray cs)) hF O O ?_
 clear hF; rintro b1 w hb1 hF -
 refine Fg (cs:=#[.int .i64 0,.string (bs []),.slice none 0 0,.slice none 0 0]) hF zeroValue27 O ?_
 clear hF; rintro b2 w hb2 hF -
 refine Bc (Ja (v:=.agg (List.toArray cs)) (Fc (l:=cs) isAgg27 sizeOf27 O hl (hF.cellsAll 1 O)) ?_)
 refine Jb hF (MS x hsz hm S _ cs (hF.rep hR)) (Cb UZ O O) ?_
 clear hF; intro w hF
 refine Ca (Hc O) (Ea (Ha (Ia (Ca (Jc O) (Ca (Pn O) (Ea ?_))))))
 refine Mi O O (fun hc0=>?_) (fun hc0=>?_)
 refine Ia ?_
 refine Ja (w':=w) (v:=.agg #[.int .i64 0,.string (bs []),.slice none 0 0,.slice none 0 0]) Qb ?_
 refine Ll hF sizeOf27 O O Vm ?_
 clear hF; rintro w hF -
 refine Ea ?_
 refine Ub (Rb (Sa (Bn O (l:=[.int .i64 0,.string (bs []),.slice none 0 0,.slice none 0 0]) O isAgg27 sizeOf27 O (hF.cellsAll 0 O)) ?_))
 have ho_:Tj x=false:=Vi (by assumption)
 refine ⟨_,O,?_,hF.same⟩
 rw [Qg,ho_]
 exact MC _ _
 refine Qa (Ga (Ia (Ja (v:=.agg (List.toArray cs)) (Fc (l:=cs) isAgg27 sizeOf27 O hl (hF.cellsAll 1 O)) ?_)))
 refine Pb (QQ x S _ cs (hF.rep hR) (Np (Ef (by assumption))) hsz) (Cb JP O O) ?_
 rintro _ w ⟨ct,rfl,hRt,hE⟩
 have hlct:ct.length=4:=hRt.length.trans (Dd _)
 have hoct:=hRt.one_
 have hXX:=RX.made (ids:=[b2,b1]) hF.same.size (fun x hx=>hF.lt_ids (by grind)) hRt
 replace hF:=hF.ext hE
 clear hE hRt
 refine Me 0 (l:=ct) (cs':=(List.toArray ct)) hF (by rw [hlct]; exact sizeOf27) O (v:=.agg (List.toArray ct)) O O (hoct) O (by rw [hlct]; exact Nat.le_of_ble_eq_true O) (Wq (by rw [hlct]; rfl)) ?_
 clear hF; intro w hF hE
 replace hXX:=hXX.store hE (by grind)
 clear hE
 replace hF:FR w0 [] [(b2,.cells (List.toArray ct) 27),_] w:=hF
 refine Ea ?_
 refine Ub (Rb (Sa (Bn O (l:=ct) O isAgg27 sizeOf27 hlct (hF.cellsAll 0 O)) ?_))
 have ho_:Tj x=true:=Ef (by assumption)
 refine ⟨_,O,?_,hF.same⟩
 rw [Qg,ho_]
 · exact hXX.done
end Go.Scarf
namespace Go.Scarf
open Go.RowKit Go.Proofs Go.Proofs.Tryz
theorem YV {n:Nat} (h:n < 256):IntKind.u8.wrap (((n:Nat):Int).tdiv 16)=((n / 16:Nat):Int):=by
  have:((n:Nat):Int).tdiv 16=((n / 16:Nat):Int):=rfl
  rw [this,IntKind.wrap_u8]; omega
theorem X7 {k:Nat} (h:k < ([48,49,50,51,52,53,54,55,56,57,97,98,99,100,101,102]:Str).length):([48,49,50,51,52,53,54,55,56,57,97,98,99,100,101,102]:Str)[k]=dg k:=by
  have:∀ k < 16,([48,49,50,51,52,53,54,55,56,57,97,98,99,100,101,102]:Str)[k]? = some (dg k):=by decide
  have h2:=this k h
  rw [List.getElem?_eq_getElem h] at h2
  exact Option.some.inj h2
theorem LX {n:Nat}:((n:Nat):Int).tmod 16=((n % 16:Nat):Int):=rfl
theorem OC (s:Str) (hl:s.length≤1099511627776) (w0:World):Calls prog 134 #[.string (bs s)] w0 (De fun v w'=>v=.tuple #[.string (bs (qS s)),.int .i64 (if Lib.validD s=true then 0 else 2)]∧Same [] w0 w'):=by
 refine Ka func134 O ntmps134 Kb (Sc _) ?_
 have hF:=FR.start w0 []
 refine Ia (Ca (Rd O) (Ca (Wb O) (Bc (Ca (Qc O) ?_))))
 refine Pb (DA s U _) (Cb KQ O O) ?_
 rintro _ w ⟨nn,rfl,hE⟩
 replace hF:=hF.ext hE
 clear hE
 refine Ca (Ul O) (Ca (Fm O O) (Ca (Ss O O) (Ca (Wb O) (Ca (Hc O) (Ea (Ha (Ia (Ca (Jc O) (Ca (Pn O) (Ea ?_))))))))))
 refine Mi O O (fun hc0=>?_) (fun hc0=>?_)
 refine Ia (Ca (Rd O) (Ca (Wb O) (Ea ?_)))
 refine Ub (Rb (Sa (Ld (v:=.string (bs [])) (x:=.int .i64 2) O O O) ?_))
 have hv:Lib.validD s=false:=Vi (by assumption)
 exact ⟨by rw [qS,hv]; rfl,hF.same⟩
 refine Qa (Ga (Ia (Ca (Rd O) (Bc ?_))))
 refine Pe 1 hF (Za (cs:=#[.int .u8 34]) underlying145 sizeOf5 zeroValue5 Ua Ua Qb) ?_
 clear hF; rintro b1 w hb1 hF -
 refine Ca (Sh O) (Ea (Ha (Ia (Ca (Wb O) (Ea (Ta ?_))))))
 have hS0:SlB 5 1 (some ⟨b1,0,none⟩) 1 1 (Lib.byteCells [34]) [(b1,.cells #[.int .u8 34] 5)]:=⟨by simp [Lib.byteCells],.inr ⟨b1,_,rfl,rfl,Nat.le_refl _,by decide,by simp,by simp [Lib.byteCells]⟩⟩
 replace hF:=hF.toseg 0 rfl
 refine Lc (fun μ σ w=>∃ (j:Nat),∃ (acc:Str),∃ (A:Option Addr),∃ (c:Nat),∃ (sb:List (Nat × Obj)),μ=s.length - j∧(j≤s.length)∧(1≤acc.length∧acc.length≤6 * j+1)∧(acc=34::Ls (s.take j))∧(SlB 5 1 A acc.length c (Lib.byteCells acc) sb)∧AllEq σ [(0,.string (bs s)),(6,.string (bs [48,49,50,51,52,53,54,55,56,57,97,98,99,100,101,102])),(7,.slice A acc.length c),(8,.int .i64 ((j:Int)))]∧FR w0 [] ([]++(sb++[])) w) _ ⟨0,[34],_,_,_,O,(Nat.zero_le _),Ma,(O),(hS0),Gm,hF⟩ ?_
 clear hF; rintro μ σ w ⟨j,acc,A,c,sb,rfl,hj,ha,hq,hS,hs,hF⟩
 refine Cg.slots hs ?_
 clear hs; intro σ
 refine Ha (Ia (Ca (Va O) (Ca (Qc O) (Ca (Xl underlying9 O) (Ca (Yg O O) (Ea ?_))))))
 refine Yb O O (fun hc1=>?_) (fun hc1=>?_)
 refine Qa (Ga (Ha (Ta (Ia (Ca (Qc O) (Ca (Va O) (Ja (v:=.int .u8 ((((s:Str)[j]'U).toNat:Int))) (Kd (j) underlying9 O O U) (Ca (Wb O) (Bc ?_)))))))))
 refine Ca (Va O) (Ca (Th O O) (Ca (Jc O) ?_))
 refine Hb (d:=29) O (fun hg0=>?_) (fun hg0=>?_)
 refine Da (Da (Ca (Ic O O) (Ea (Ae O (Fa (Ca (Yd O) (Ca (Va O) ?_)))))))
 refine Pe 2 hF (Za (cs:=#[.int .u8 92,.int .u8 ((((s:Str)[j]'U).toNat:Int))]) underlying145 sizeOf5 zeroValue5 Ua Ua Qb) ?_
 clear hF; rintro b2 w hb2 hF -
 refine Kf [(b2,.cells #[.int .u8 92,.int .u8 ((((s:Str)[j]'U).toNat:Int))] 5)] [] (news:=[.int .u8 92,.int .u8 ((((s:Str)[j]'U).toNat:Int))]) (len':=(acc++Ei (s[j]'U)).length) (ys:=Lib.byteCells (acc++Ei (s[j]'U))) Hm hF hS O O (O) (fun _=>⟨_,O,Xb (hF.cellsAll 0 O)⟩) (by simp [Value.oneCell']) (by simp only [maxLen]; omega) (by rw [HI U]; simp) (by rw [HI U]; simp [Lib.byteCells,X7]) U ?_
 clear hF; intro A1 c1 o_1 w hS1_o hF hE hnew
 clear hE hnew
 refine Ca (Sh O) (Xa (Eb (Ga (Fa (Ca (Va O) (Ca (If (((j+1:Nat):Int)) O O) (Ca (Wb O) (Xa ?_))))))))
 refine Ib ⟨_,?_,j+1,acc++Ei (s[j]'U),A1,c1,o_1,O,U,(by have:=Lm (s[j]'U); rw [List.length_append]; omega),(by rw [Pk U,hq]; rfl),(hS1_o),Gm,hF.drop 1⟩
 omega
 refine Ca (Va O) (Ca (Th O O) (Ca (Gc O O) (Ea ?_)))
 refine Yb O O (fun hc2=>?_) (fun hc2=>?_)
 refine Fa (Ca (Yd O) (Ca (Va O) ?_))
 refine Pe 2 hF (Za (cs:=#[.int .u8 92,.int .u8 ((((s:Str)[j]'U).toNat:Int))]) underlying145 sizeOf5 zeroValue5 Ua Ua Qb) ?_
 clear hF; rintro b3 w hb3 hF -
 refine Kf [(b3,.cells #[.int .u8 92,.int .u8 ((((s:Str)[j]'U).toNat:Int))] 5)] [] (news:=[.int .u8 92,.int .u8 ((((s:Str)[j]'U).toNat:Int))]) (len':=(acc++Ei (s[j]'U)).length) (ys:=Lib.byteCells (acc++Ei (s[j]'U))) Hm hF hS O O (O) (fun _=>⟨_,O,Xb (hF.cellsAll 0 O)⟩) (by simp [Value.oneCell']) (by simp only [maxLen]; omega) (by rw [HI U]; simp) (by rw [HI U]; simp [Lib.byteCells,X7]) U ?_
 clear hF; intro A2 c2 o_2 w hS2_o hF hE hnew
 clear hE hnew
 refine Ca (Sh O) (Xa (Eb (Ga (Fa (Ca (Va O) (Ca (If (((j+1:Nat):Int)) O O) (Ca (Wb O) (Xa ?_))))))))
 refine Ib ⟨_,?_,j+1,acc++Ei (s[j]'U),A2,c2,o_2,O,U,(by have:=Lm (s[j]'U); rw [List.length_append]; omega),(by rw [Pk U,hq]; rfl),(hS2_o),Gm,hF.drop 1⟩
 omega
 refine Ia (Ca (Va O) (Ca (Th O O) (Ea ?_)))
 refine Yb O O (fun hc3=>?_) (fun hc3=>?_)
 refine Fa (Ca (Yd O) ?_)
 refine Cr [] [] (txt:=[92,98]) (len':=(acc++Ei (s[j]'U)).length) (ys:=Lib.byteCells (acc++Ei (s[j]'U))) Hm underlying9 O hF hS O O Ua (by simp; omega) (by rw [Rn 8 (t:=[92,98]) Ua (by decide +kernel) (by assumption)]; simp) (by rw [Rn 8 (t:=[92,98]) Ua (by decide +kernel) (by assumption)]; simp [Lib.byteCells,X7]) ?_
 clear hF; intro A3 c3 o_3 w hS3_o hF hE hnew
 clear hE hnew
 refine Ca (Sh O) (Xa (Eb (Ga (Fa (Ca (Va O) (Ca (If (((j+1:Nat):Int)) O O) (Ca (Wb O) (Xa ?_))))))))
 refine Ib ⟨_,?_,j+1,acc++Ei (s[j]'U),A3,c3,o_3,O,U,(by have:=Lm (s[j]'U); rw [List.length_append]; omega),(by rw [Pk U,hq]; rfl),(hS3_o),Gm,hF⟩
 omega
 refine Ia (Ca (Va O) (Ca (Th O O) (Ea ?_)))
 refine Yb O O (fun hc4=>?_) (fun hc4=>?_)
 refine Fa (Ca (Yd O) ?_)
 refine Cr [] [] (txt:=[92,102]) (len':=(acc++Ei (s[j]'U)).length) (ys:=Lib.byteCells (acc++Ei (s[j]'U))) Hm underlying9 O hF hS O O Ua (by simp; omega) (by rw [Rn 12 (t:=[92,102]) Ua (by decide +kernel) (by assumption)]; simp) (by rw [Rn 12 (t:=[92,102]) Ua (by decide +kernel) (by assumption)]; simp [Lib.byteCells,X7]) ?_
 clear hF; intro A4 c4 o_4 w hS4_o hF hE hnew
 clear hE hnew
 refine Ca (Sh O) (Xa (Eb (Ga (Fa (Ca (Va O) (Ca (If (((j+1:Nat):Int)) O O) (Ca (Wb O) (Xa ?_))))))))
 refine Ib ⟨_,?_,j+1,acc++Ei (s[j]'U),A4,c4,o_4,O,U,(by have:=Lm (s[j]'U); rw [List.length_append]; omega),(by rw [Pk U,hq]; rfl),(hS4_o),Gm,hF⟩
 omega
 refine Ia (Ca (Va O) (Ca (Th O O) (Ea ?_)))
 refine Yb O O (fun hc5=>?_) (fun hc5=>?_)
 refine Fa (Ca (Yd O) ?_)
 refine Cr [] [] (txt:=[92,110]) (len':=(acc++Ei (s[j]'U)).length) (ys:=Lib.byteCells (acc++Ei (s[j]'U))) Hm underlying9 O hF hS O O Ua (by simp; omega) (by rw [Rn 10 (t:=[92,110]) Ua (by decide +kernel) (by assumption)]; simp) (by rw [Rn 10 (t:=[92,110]) Ua (by decide +kernel) (by assumption)]; simp [Lib.byteCells,X7]) ?_
 clear hF; intro A5 c5 o_5 w hS5_o hF hE hnew
 clear hE hnew
 refine Ca (Sh O) (Xa (Eb (Ga (Fa (Ca (Va O) (Ca (If (((j+1:Nat):Int)) O O) (Ca (Wb O) (Xa ?_))))))))
 refine Ib ⟨_,?_,j+1,acc++Ei (s[j]'U),A5,c5,o_5,O,U,(by have:=Lm (s[j]'U); rw [List.length_append]; omega),(by rw [Pk U,hq]; rfl),(hS5_o),Gm,hF⟩
 omega
 refine Ia (Ca (Va O) (Ca (Th O O) (Ea ?_)))
 refine Yb O O (fun hc6=>?_) (fun hc6=>?_)
 refine Fa (Ca (Yd O) ?_)
 refine Cr [] [] (txt:=[92,114]) (len':=(acc++Ei (s[j]'U)).length) (ys:=Lib.byteCells (acc++Ei (s[j]'U))) Hm underlying9 O hF hS O O Ua (by simp; omega) (by rw [Rn 13 (t:=[92,114]) Ua (by decide +kernel) (by assumption)]; simp) (by rw [Rn 13 (t:=[92,114]) Ua (by decide +kernel) (by assumption)]; simp [Lib.byteCells,X7]) ?_
 clear hF; intro A6 c6 o_6 w hS6_o hF hE hnew
 clear hE hnew
 refine Ca (Sh O) (Xa (Eb (Ga (Fa (Ca (Va O) (Ca (If (((j+1:Nat):Int)) O O) (Ca (Wb O) (Xa ?_))))))))
 refine Ib ⟨_,?_,j+1,acc++Ei (s[j]'U),A6,c6,o_6,O,U,(by have:=Lm (s[j]'U); rw [List.length_append]; omega),(by rw [Pk U,hq]; rfl),(hS6_o),Gm,hF⟩
 omega
 refine Ia (Ca (Va O) (Ca (Th O O) (Ea ?_)))
 refine Yb O O (fun hc7=>?_) (fun hc7=>?_)
 refine Fa (Ca (Yd O) ?_)
 refine Cr [] [] (txt:=[92,116]) (len':=(acc++Ei (s[j]'U)).length) (ys:=Lib.byteCells (acc++Ei (s[j]'U))) Hm underlying9 O hF hS O O Ua (by simp; omega) (by rw [Rn 9 (t:=[92,116]) Ua (by decide +kernel) (by assumption)]; simp) (by rw [Rn 9 (t:=[92,116]) Ua (by decide +kernel) (by assumption)]; simp [Lib.byteCells,X7]) ?_
 clear hF; intro A7 c7 o_7 w hS7_o hF hE hnew
 clear hE hnew
 refine Ca (Sh O) (Xa (Eb (Ga (Fa (Ca (Va O) (Ca (If (((j+1:Nat):Int)) O O) (Ca (Wb O) (Xa ?_))))))))
 refine Ib ⟨_,?_,j+1,acc++Ei (s[j]'U),A7,c7,o_7,O,U,(by have:=Lm (s[j]'U); rw [List.length_append]; omega),(by rw [Pk U,hq]; rfl),(hS7_o),Gm,hF⟩
 omega
 refine Ia (Ca (Va O) (Ca (Yg O O) (Ea ?_)))
 refine Yb O O (fun hc8=>?_) (fun hc8=>?_)
 refine Uc [] (.free 0 (.free 1 (.free 2 (.free 3 (.free 4 (.free 5 (.free 6 (.free 7 (.free 8 (.act 9 (.act 10 (.free 11 .nil)))))))))))) hF ?_
 clear hF; rintro w hF -
 refine ⟨fun wq=>FR w0 [] [] wq,hF.sub (List.nil_sublist _),?_⟩
 refine Db O (Yd O) (Db O (Qc O) (Db O (Va O) (Oa O (v:=.int .u8 ((((s[j]'U).toNat / 16:Nat):Int))) (fun w hC=>EG O O Ua (YV (UInt8.toNat_lt _))) ?_)))
 refine Oa O (v:=.int .u8 (((([48,49,50,51,52,53,54,55,56,57,97,98,99,100,101,102]:Str)[(s[j]'U).toNat / 16]'(by simp; omega)).toNat:Int))) (fun w hC=>Kd ((s[j]'U).toNat / 16) underlying9 O O (by simp; omega)) ?_
 refine Db O (Qc O) (Db O (Va O) (Oa O (v:=.int .u8 ((((s[j]'U).toNat % 16:Nat):Int))) (fun w hC=>SC O O Ua (LX)) ?_))
 refine Oa O (v:=.int .u8 (((([48,49,50,51,52,53,54,55,56,57,97,98,99,100,101,102]:Str)[(s[j]'U).toNat % 16]'(by simp; omega)).toNat:Int))) (fun w hC=>Kd ((s[j]'U).toNat % 16) underlying9 O O (by simp; omega)) ?_
 refine Ge 6 O hF (Za (cs:=#[.int .u8 92,.int .u8 117,.int .u8 48,.int .u8 48,.int .u8 (((([48,49,50,51,52,53,54,55,56,57,97,98,99,100,101,102]:Str)[(s[j]'U).toNat / 16]'(by simp; omega)).toNat:Int)),.int .u8 (((([48,49,50,51,52,53,54,55,56,57,97,98,99,100,101,102]:Str)[(s[j]'U).toNat % 16]'(by simp; omega)).toNat:Int))]) underlying145 sizeOf5 zeroValue5 Ua Ua Qb) ?_
 clear hF; rintro b4 w hb4 hF -
 refine ⟨hF.sub (.cons _ (List.nil_sublist _)),?_⟩
 refine Rc [(b4,.cells #[.int .u8 92,.int .u8 117,.int .u8 48,.int .u8 48,.int .u8 (((([48,49,50,51,52,53,54,55,56,57,97,98,99,100,101,102]:Str)[(s[j]'U).toNat / 16]'(by simp; omega)).toNat:Int)),.int .u8 (((([48,49,50,51,52,53,54,55,56,57,97,98,99,100,101,102]:Str)[(s[j]'U).toNat % 16]'(by simp; omega)).toNat:Int))] 5)] [] (news:=[.int .u8 92,.int .u8 117,.int .u8 48,.int .u8 48,.int .u8 (((([48,49,50,51,52,53,54,55,56,57,97,98,99,100,101,102]:Str)[(s[j]'U).toNat / 16]'(by simp; omega)).toNat:Int)),.int .u8 (((([48,49,50,51,52,53,54,55,56,57,97,98,99,100,101,102]:Str)[(s[j]'U).toNat % 16]'(by simp; omega)).toNat:Int))]) (len':=(acc++Ei (s[j]'U)).length) (ys:=Lib.byteCells (acc++Ei (s[j]'U))) O Hm hF hS O O (O) (fun _=>⟨_,O,Xb (hF.cellsAll 0 O)⟩) (by simp [Value.oneCell']) (by simp only [maxLen]; omega) (by rw [IG U U U U U U]; simp) (by rw [IG U U U U U U]; simp [Lib.byteCells,X7]) U ?_
 clear hF; intro A8 c8 o_8 w hS8_o hF hE hnew
 clear hE hnew
 refine ⟨hF.sub (.cons _ (List.nil_sublist _)),?_⟩
 refine Db O (Sh O) (Mc (Eb (Ga (Fa (Ca (Va O) (Ca (If (((j+1:Nat):Int)) O O) (Ca (Wb O) (Xa ?_))))))))
 refine Ib ⟨_,?_,j+1,acc++Ei (s[j]'U),A8,c8,o_8,O,U,(by have:=Lm (s[j]'U); rw [List.length_append]; omega),(by rw [Pk U,hq]; rfl),(hS8_o),Gm,hF.drop 1⟩
 omega
 refine Fa (Ca (Yd O) (Ca (Va O) ?_))
 refine Pe 1 hF (Za (cs:=#[.int .u8 ((((s:Str)[j]'U).toNat:Int))]) underlying145 sizeOf5 zeroValue5 Ua Ua Qb) ?_
 clear hF; rintro b5 w hb5 hF -
 refine Kf [(b5,.cells #[.int .u8 ((((s:Str)[j]'U).toNat:Int))] 5)] [] (news:=[.int .u8 ((((s:Str)[j]'U).toNat:Int))]) (len':=(acc++Ei (s[j]'U)).length) (ys:=Lib.byteCells (acc++Ei (s[j]'U))) Hm hF hS O O (O) (fun _=>⟨_,O,Xb (hF.cellsAll 0 O)⟩) (by simp [Value.oneCell']) (by simp only [maxLen]; omega) (by rw [I7 U U U]; simp) (by rw [I7 U U U]; simp [Lib.byteCells,X7]) U ?_
 clear hF; intro A9 c9 o_9 w hS9_o hF hE hnew
 clear hE hnew
 refine Ca (Sh O) (Xa (Eb (Ga (Fa (Ca (Va O) (Ca (If (((j+1:Nat):Int)) O O) (Ca (Wb O) (Xa ?_))))))))
 refine Ib ⟨_,?_,j+1,acc++Ei (s[j]'U),A9,c9,o_9,O,U,(by have:=Lm (s[j]'U); rw [List.length_append]; omega),(by rw [Pk U,hq]; rfl),(hS9_o),Gm,hF.drop 1⟩
 omega
 refine Dc (Cc O ?_)
 refine Ga (Ia (Ca (Yd O) ?_))
 refine Pe 1 hF (Za (cs:=#[.int .u8 34]) underlying145 sizeOf5 zeroValue5 Ua Ua Qb) ?_
 clear hF; rintro b6 w hb6 hF -
 refine Kf [(b6,.cells #[.int .u8 34] 5)] [] (news:=[.int .u8 34]) (len':=(acc++[34]).length) (ys:=Lib.byteCells (acc++[34])) Hm hF hS O O (O) (fun _=>⟨_,O,Xb (hF.cellsAll 0 O)⟩) (by simp [Value.oneCell']) (by simp only [maxLen]; omega) Ma (by simp [Lib.byteCells]) U ?_
 clear hF; intro A10 c10 o_10 w hS10_o hF hE hnew
 clear hE hnew
 refine Ja (v:=.string (bs (acc++[34]))) (GP (s:=acc++[34]) hS10_o hF underlying145 underlying5 underlying9 O) (Ca (Rd O) (Ca (Wb O) (Ea ?_)))
 refine Ub (Rb (Sa (Ld (v:=.string (bs (acc++[34]))) (x:=.int .i64 0) O O O) ?_))
 have hv:Lib.validD s=true:=Ef (by assumption)
 exact ⟨by rw [DQ hv hq U,hv]; rfl,hF.same⟩
theorem XU (n:Nat):(Lib.repeatL [32] n).length=n:=by
  induction n with
  | zero=>rfl
  | succ n ih=>simp [Lib.repeatL,ih]; try omega
theorem UO (n:Nat):Lib.repeatL [32] n++[32]=Lib.repeatL [32] (n+1):=by
  induction n with
  | zero=>rfl
  | succ n ih=>rw [Lib.repeatL,List.append_assoc,ih]; rfl
theorem EC (n:Nat) (hn:n≤1099511627776) (w0:World):Calls prog 135 #[.int .i64 (n:Nat)] w0 (De fun v w'=>v=.string (bs (Lib.repeatL [32] n))∧Same [] w0 w'):=by
 refine Ka func135 O ntmps135 Kb (Sc _) ?_
 have hF:=FR.start w0 []
 refine Ia (Ca (Rd O) (Bc (Ca (Rd O) (Ea (Ha (Ia (Ca (Wb O) ?_)))))))
 refine Ea (Ta ?_)
 refine Lc (fun μ σ w=>∃ (j:Nat),∃ (s:Str),μ=n - j∧(j≤n)∧(s=Lib.repeatL [32] j)∧AllEq σ [(0,.int .i64 ((n:Nat))),(3,.string (bs s)),(4,.int .i64 ((j:Int)))]∧FR w0 [] [] w) _ ⟨0,[],O,(Nat.zero_le _),(O),Vp,hF⟩ ?_
 clear hF; rintro μ σ w ⟨j,s,rfl,hj,hs,hs,hF⟩
 refine Cg.slots hs ?_
 clear hs; intro σ
 refine Ha (Ia (Ca (Va O) (Ca (Va O) (Ca (Yg O O) (Ea ?_)))))
 refine Yb O O (fun hc0=>?_) (fun hc0=>?_)
 refine Qa (Ga (Ha (Ta (Fa (Ca (Qc O) ?_)))))
 refine Ja (v:=.string (bs ((s)++([32])))) (Gh O O (by rw [hs,XU]; simp; omega)) ?_
 refine Ca (Rd O) (Xa (Eb (Ga (Fa (Ca (Va O) (Ca (If (((j+1:Nat):Int)) O O) (Ca (Wb O) (Xa ?_))))))))
 refine Ib ⟨_,?_,j+1,s++[32],O,U,(by rw [hs]; exact UO j),Vp,hF⟩
 omega
 refine Dc (Cc O ?_)
 refine Ga (Ia (Ca (Qc O) (Ca (Rd O) (Ea ?_))))
 refine Td (v:=.string (bs s)) O O ?_
 have ej:j=n:=by omega
 subst ej
 exact ⟨by rw [hs],hF.same⟩
end Go.Scarf
