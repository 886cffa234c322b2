/- A part of the proof. -/
import Derived.Test.YthhhbkkelnaekaaGreatDoorW1
import Derived.Test.YthhhbkkelnaekaaGreatDoorMore
import Derived.Lib.SmallJoins
set_option linter.all false
set_option maxHeartbeats 8000000
set_option maxRecDepth 10000
namespace Go.Scarf
open Go.RowKit Go.Proofs Go.Proofs.Tryz
theorem YF (s:Str):(Zb s).1.whole.length≤s.length∧(Zb s).1.rest.length≤s.length∧(Zb s).1.exp.length≤s.length:=by
  have h1:=Hg [101,69] (Lib.trimPrefix s [45])
  have h2:=Zh s [45]
  have h3:=Hg [46] (Wa [101,69] (Lib.trimPrefix s [45])).1
  have h4:=Zh (Wa [101,69] (Lib.trimPrefix s [45])).2.1 [45]
  have h5:=Zh (Lib.trimPrefix (Wa [101,69] (Lib.trimPrefix s [45])).2.1 [45]) [43]
  unfold Zb
  simp only
  repeat' split
  all_goals (refine ⟨?_,?_,?_⟩ <;> simp only [Bf,List.length_nil] <;> omega)
def Nj (s:Str):Int:=if (Zb s).1.low then - Sd (Lib.trimLeftB (Zb s).1.exp 48) else Sd (Lib.trimLeftB (Zb s).1.exp 48)
theorem Dh (s:Str):Se s=if (Zb s).2=false then (Num.zero,2) else
  if 1000 < (Zb s).1.whole.length+(Zb s).1.rest.length then (Num.zero,3) else
  if 9 < (Lib.trimLeftB (Zb s).1.exp 48).length then (Num.zero,4) else
  if Lib.trimLeftB ((Zb s).1.whole++(Zb s).1.rest) 48=[] then (Num.zero,0) else
  if Zd (⟨(Zb s).1.neg,Lib.trimRightB (Lib.trimLeftB ((Zb s).1.whole++(Zb s).1.rest) 48) 48,Nj s - (Zb s).1.rest.length+(Lib.trimLeftB ((Zb s).1.whole++(Zb s).1.rest) 48).length - (Lib.trimRightB (Lib.trimLeftB ((Zb s).1.whole++(Zb s).1.rest) 48) 48).length⟩)=false then (Num.zero,4) else
  (⟨(Zb s).1.neg,Lib.trimRightB (Lib.trimLeftB ((Zb s).1.whole++(Zb s).1.rest) 48) 48,Nj s - (Zb s).1.rest.length+(Lib.trimLeftB ((Zb s).1.whole++(Zb s).1.rest) 48).length - (Lib.trimRightB (Lib.trimLeftB ((Zb s).1.whole++(Zb s).1.rest) 48) 48).length⟩,0):=rfl
theorem SJ {s:Str} {q:Nat} (h:q < s.length) (ha:s.all Ze=true):(Utf8.decode (bs s) q).1=s[q].toNat∧(Utf8.decode (bs s) q).2=1∧48≤s[q].toNat∧s[q].toNat≤57:=by
  have hd:=List.all_eq_true.1 ha s[q] (List.getElem_mem h)
  have:=W8 s q h hd
  rw [this]
  unfold Ze at hd
  simp only [Bool.and_eq_true,decide_eq_true_eq] at hd
  exact ⟨O,O,hd.1,hd.2⟩
theorem Uq {f:UInt8→Bool} {s:Str} (q:Nat) (h:s.all f=true):(s.take q).all f=true:=by
  rw [List.all_eq_true] at h ⊢
  exact fun x hx=>h x (List.mem_of_mem_take hx)
theorem DG (s:Str) (hl:s.length≤140737488355328) (w0:World):Calls prog 38 #[.string (bs s)] w0 (De fun v w'=>v=.tuple #[Kn (Se s).1,.int .i64 (Se s).2]∧Same [] w0 w'):=by
 have hls:=YF s
 have ht0:=Fv (Zb s).1.exp 48
 have ht1:=Fv ((Zb s).1.whole++(Zb s).1.rest) 48
 rw [List.length_append] at ht1
 have ht2:=G2 (Lib.trimLeftB ((Zb s).1.whole++(Zb s).1.rest) 48) 48
 refine Ka func38 O ntmps38 Kb (Sc _) ?_
 have hF:=FR.start w0 []
 refine Ia ?_
 refine Fg (cs:=#[.bool false,.string (bs []),.int .i64 0]) hF zeroValue61 O ?_
 clear hF; rintro b1 w hb1 hF -
 refine Ca (Wb O) (Bc (Ca (Qc O) ?_))
 refine Jb hF (LV s hl _) (Cb MZ O O) ?_
 clear hF; intro w hF
 refine Ca (Ul O) (Ca (RQ O O) (Ca (Ss O O) ?_))
 refine Ym hF zeroValue89 sizeOf89 O ?_
 clear hF; rintro b2 w hb2 hF -
 refine Ca (Hc O) (Bc (Ca (Ec O1 O) (Tc (Tp isAgg9 O hF.F 0 O O) ?_)))
 refine Jb hF (Mz (Zb s).1.exp _) (Vb KT O O O) ?_
 clear hF; intro w hF
 refine Ca (Rd O) (Ea (Ha (Ta (Ia (Ca (Jc O) (Ca (Pn O) (Ca (Hc O) (Ea ?_))))))))
 refine Mi O O (fun hc0=>?_) (fun hc0=>?_)
 refine Ia ?_
 refine Ja (w':=w) (v:=.agg #[.bool false,.string (bs []),.int .i64 0]) Qb ?_
 refine Ll hF sizeOf61 O O I5 ?_
 clear hF; rintro w hF -
 refine Ca (Wb O) (Ea ?_)
 refine Ub (Rb (Sa (Ve O (l:=[.bool false,.string (bs []),.int .i64 0]) O isAgg61 sizeOf61 O (hF.cellsAll 1 O) (v:=.int .i64 2) O) ?_))
 exact ⟨by rw [Dh,if_pos (by simpa using hc0)]; rfl,hF.same⟩
 refine Ia (Ca (Ec Hx O) (Tc (Tp isAgg9 O hF.F 0 O O) (Ca (Xl underlying9 O) (Ca (Ec Gu O) (Tc (Tp isAgg9 O hF.F 0 O O) (Ca (Xl underlying9 O) (Ca (Sl O O) (Ca (Ho O O) (Ca (Hc O) (Ea ?_))))))))))
 refine Yb O O (fun hc1=>?_) (fun hc1=>?_)
 refine Ia ?_
 refine Ja (w':=w) (v:=.agg #[.bool false,.string (bs []),.int .i64 0]) Qb ?_
 refine Ll hF sizeOf61 O O I5 ?_
 clear hF; rintro w hF -
 refine Ca (Wb O) (Ea ?_)
 refine Ub (Rb (Sa (Ve O (l:=[.bool false,.string (bs []),.int .i64 0]) O isAgg61 sizeOf61 O (hF.cellsAll 1 O) (v:=.int .i64 3) O) ?_))
 exact ⟨by rw [Dh,if_neg (by simpa using hc0),if_pos U]; rfl,hF.same⟩
 refine Ia (Ca (Qc O) (Ca (Xl underlying9 O) (Ca (Ho O O) (Ca (Hc O) (Ea ?_)))))
 refine Yb O O (fun hc2=>?_) (fun hc2=>?_)
 refine Ia ?_
 refine Ja (w':=w) (v:=.agg #[.bool false,.string (bs []),.int .i64 0]) Qb ?_
 refine Ll hF sizeOf61 O O I5 ?_
 clear hF; rintro w hF -
 refine Ca (Wb O) (Ea ?_)
 refine Ub (Rb (Sa (Ve O (l:=[.bool false,.string (bs []),.int .i64 0]) O isAgg61 sizeOf61 O (hF.cellsAll 1 O) (v:=.int .i64 4) O) ?_))
 exact ⟨by rw [Dh,if_neg (by simpa using hc0),if_neg U,if_pos U]; rfl,hF.same⟩
 refine Qa (Eb (Ga (Ia (Ca (Wb O) (Ea (Ha (Ia (Ca (Qc O) ?_))))))))
 refine Vx (str:=(Lib.trimLeftB (Zb s).1.exp 48)) hF underlying9 O ?_
 clear hF; rintro b3 w hb3 hF -
 refine Ea (Ta ?_)
 have hall:(Lib.trimLeftB (Zb s).1.exp 48).all Ze=true:=Xu (SK (by simp_all))
 refine Lc (fun μ σ w=>∃ (q:Nat),μ=(Lib.trimLeftB (Zb s).1.exp 48).length - q∧(q≤(Lib.trimLeftB (Zb s).1.exp 48).length)∧AllEq σ [(2,.pointer (some ⟨b1,0,none⟩)),(4,.pointer (some ⟨b2,0,none⟩)),(7,.int .i64 (Sd ((Lib.trimLeftB (Zb s).1.exp 48).take q))),(41,.pointer (some ⟨b3,0,none⟩))]∧FR w0 [] [(b3,.stringIter (bs ((Lib.trimLeftB (Zb s).1.exp 48))) (q)),(b2,.cells #[.bool ((Zb s).1.neg),.bool ((Zb s).1.low),.string (bs ((Zb s).1.whole)),.string (bs ((Zb s).1.rest)),.string (bs ((Zb s).1.exp))] 89),(b1,.cells #[.bool false,.string (bs []),.int .i64 0] 61)] w) _ ⟨0,O,(Nat.zero_le _),Gm,hF⟩ ?_
 clear hF; rintro μ σ w ⟨q,rfl,hq,hs,hF⟩
 refine Cg.slots hs ?_
 clear hs; intro σ
 refine Ia ?_
 by_cases hn0:(q) < ((Lib.trimLeftB (Zb s).1.exp 48):Str).length
 refine F1 0 (p:=q) (str:=(Lib.trimLeftB (Zb s).1.exp 48)) hF O O hn0 ?_
 clear hF; rintro w hF -
 replace hF:FR w0 [] [(b3,.stringIter (bs ((Lib.trimLeftB (Zb s).1.exp 48))) (q+(Utf8.decode (bs ((Lib.trimLeftB (Zb s).1.exp 48))) (q)).2)),_,_] w:=hF
 refine Ca (Ss O O) (Ea (Ha (Ae O (Qa (Ga (Ta (Ia (Ca (Fm O O) (Ca (Wb O) (Ea ?_))))))))))
 refine Fa (Ca (Va O) ?_)
 have hv:=SJ (s:=(Lib.trimLeftB (Zb s).1.exp 48)) (q:=q) U hall
 have hb:=Ku ((Lib.trimLeftB (Zb s).1.exp 48).take q) (Uq q hall) (by rw [List.length_take]; omega)
 refine Ja (v:=.int .i64 (10 * Sd ((Lib.trimLeftB (Zb s).1.exp 48).take q))) (Fl O O (Id U U U)) (Ca (Va O) ?_)
 refine Ja (v:=.int .i32 (((Utf8.decode (bs (Lib.trimLeftB (Zb s).1.exp 48)) q).1:Int) - 48)) (Gv O O (by rw [IntKind.wrap_i32]; omega)) ?_
 refine Ja (v:=.int .i64 (((Utf8.decode (bs (Lib.trimLeftB (Zb s).1.exp 48)) q).1:Int) - 48)) (Be underlying21 underlying3 O (Ji U U)) ?_
 refine Ja (v:=.int .i64 (Sd ((Lib.trimLeftB (Zb s).1.exp 48).take (q+1)))) (Il O O (by rw [Zn _ q U,hv.1]; exact Ji U U)) ?_
 refine Ca (Wb O) (Xa (Eb ?_))
 rw [hv.2.1] at hF
 refine Ib ⟨_,?_,q+1,O,U,Gm,hF⟩
 omega
 refine Fs 0 (p:=q) (str:=(Lib.trimLeftB (Zb s).1.exp 48)) hF O O hn0 ?_
 refine Ca (Ss O O) (Ea (Ha (Ie O ?_)))
 refine Dc (Cc O ?_)
 refine Ga ?_
 have eT:(Lib.trimLeftB (Zb s).1.exp 48).take q=(Lib.trimLeftB (Zb s).1.exp 48):=List.take_of_length_le U
 have hb:=Ku (Lib.trimLeftB (Zb s).1.exp 48) hall U
 have hE:-1000000000 < Nj s∧Nj s < 1000000000:=by unfold Nj; split <;> omega
 refine Ha ?_
 refine Qf (fun σ w=>AllEq σ [(2,.pointer (some ⟨b1,0,none⟩)),(4,.pointer (some ⟨b2,0,none⟩)),(7,.int .i64 (Nj s))]∧FR w0 [] [(b3,.stringIter (bs ((Lib.trimLeftB (Zb s).1.exp 48))) (q)),(b2,.cells #[.bool ((Zb s).1.neg),.bool ((Zb s).1.low),.string (bs ((Zb s).1.whole)),.string (bs ((Zb s).1.rest)),.string (bs ((Zb s).1.exp))] 89),(b1,.cells #[.bool false,.string (bs []),.int .i64 0] 61)] w) ?_ ?_
 refine Ia (Ca (Ec I8 O) (Tc (RV isAgg4 O hF.F 1 O O) (Ea ?_)))
 refine Mi O O (fun hc4=>?_) (fun hc4=>?_)
 have eE:Nj s = - Sd (Lib.trimLeftB (Zb s).1.exp 48):=by unfold Nj; rw [if_pos (by assumption)]
 refine Fa (Ca (Va O) ?_)
 refine Ja (v:=.int .i64 (Nj s)) (L0 O (by rw [eT,eE]; exact Id U U U)) ?_
 refine Ca (Wb O) (Xa ?_)
 exact Ib ⟨Vp,hF⟩
 have eE:Nj s=Sd (Lib.trimLeftB (Zb s).1.exp 48):=by unfold Nj; rw [if_neg (by simp_all)]
 rw [eT,←eE]
 refine Qa ?_
 exact Ib ⟨Vp,hF⟩
 clear hF; rintro σ w ⟨hs,hF⟩
 refine Eg.slots hs ?_
 clear hs; intro σ
 refine Ga (Ia (Ca (Ec Hx O) (Tc (Tp isAgg9 O hF.F 1 O O) (Ca (Ec Gu O) (Tc (Tp isAgg9 O hF.F 1 O O) (Ja (v:=.string (bs (((Zb s).1.whole)++((Zb s).1.rest)))) (Gh O O U) ?_))))))
 refine Jb hF (Mz ((Zb s).1.whole++(Zb s).1.rest) _) (Vb KT O O O) ?_
 clear hF; intro w hF
 refine Ca (Rd O) (Ea (Ha (Ia (Ca (Qc O) (Ca (Ay O O) (Ea ?_))))))
 refine Yb O O (fun hc5=>?_) (fun hc5=>?_)
 refine Ia ?_
 refine Ja (w':=w) (v:=.agg #[.bool false,.string (bs []),.int .i64 0]) Qb ?_
 refine Ll hF sizeOf61 O O ZR ?_
 clear hF; rintro w hF -
 refine Ca (Wb O) (Ea ?_)
 refine Ub (Rb (Sa (Ve O (l:=[.bool false,.string (bs []),.int .i64 0]) O isAgg61 sizeOf61 O (hF.cellsAll 2 O) (v:=.int .i64 0) O) ?_))
 exact ⟨by rw [Dh,if_neg (by simpa using hc0),if_neg U,if_neg U,if_pos hc5]; rfl,hF.same⟩
 refine Qa (Ga (Ia (Ca (Qc O) ?_)))
 refine Jb hF (Z9 (Lib.trimLeftB ((Zb s).1.whole++(Zb s).1.rest) 48) _ U) (Vb en_56 O O O) ?_
 clear hF; intro w hF
 refine Ca (Rd O) (Bc (Ca (Ec ZG O) (Tc (RV isAgg4 O hF.F 1 O O) (Ca (Qc O) (Ca (Va O) (Ca (Ec Gu O) (Tc (Tp isAgg9 O hF.F 1 O O) (Ca (Xl underlying9 O) (Ca (Fo O O) (Ca (Qc O) ?_))))))))))
 refine Ca (Xl underlying9 O) (Ca (Sl O O) (Ca (Qc O) (Ca (Xl underlying9 O) (Ca (Fo O O) ?_))))
 refine Ja (w':=w) (v:=.agg #[.bool ((Zb s).1.neg),.string (bs ((Lib.trimRightB (Lib.trimLeftB ((Zb s).1.whole++(Zb s).1.rest) 48) 48))),.int .i64 ((((Nj s:Int) - ((((Zb s).1.rest):Str).length:Int):Int)+((((Lib.trimLeftB ((Zb s).1.whole++(Zb s).1.rest) 48)):Str).length:Int):Int) - ((((Lib.trimRightB (Lib.trimLeftB ((Zb s).1.whole++(Zb s).1.rest) 48) 48)):Str).length:Int))]) Qb ?_
 refine Ym hF zeroValue61 sizeOf61 O ?_
 clear hF; rintro b4 w hb4 hF -
 refine Ea (Ha (Ia (Tc (Wj isAgg61 sizeOf61 O hF.F 0 O O) ?_)))
 refine Jb hF (X8 (⟨(Zb s).1.neg,(Lib.trimRightB (Lib.trimLeftB ((Zb s).1.whole++(Zb s).1.rest) 48) 48),Nj s - (Zb s).1.rest.length+(Lib.trimLeftB ((Zb s).1.whole++(Zb s).1.rest) 48).length - (Lib.trimRightB (Lib.trimLeftB ((Zb s).1.whole++(Zb s).1.rest) 48) 48).length⟩) (by show (Lib.trimRightB (Lib.trimLeftB ((Zb s).1.whole++(Zb s).1.rest) 48) 48).length≤_; omega) _) (Cb OO O O) ?_
 clear hF; intro w hF
 refine Ca (Pn O) (Ea ?_)
 refine Mi O O (fun hc6=>?_) (fun hc6=>?_)
 refine Ia ?_
 refine Ja (w':=w) (v:=.agg #[.bool false,.string (bs []),.int .i64 0]) Qb ?_
 refine Ll hF sizeOf61 O O TX ?_
 clear hF; rintro w hF -
 refine Ca (Wb O) (Ea ?_)
 refine Ub (Rb (Sa (Ve O (l:=[.bool false,.string (bs []),.int .i64 0]) O isAgg61 sizeOf61 O (hF.cellsAll 3 O) (v:=.int .i64 4) O) ?_))
 exact ⟨by rw [Dh,if_neg (by simpa using hc0),if_neg U,if_neg U,if_neg hc5,if_pos (by simpa using hc6)]; rfl,hF.same⟩
 refine Qa (Ga (Ia (Tc (Wj isAgg61 sizeOf61 O hF.F 0 O O) ?_)))
 refine Ll hF sizeOf61 O O TX ?_
 clear hF; rintro w hF -
 refine Ca (Wb O) (Ea ?_)
 refine Ub (Rb (Sa (Ve O (l:=[.bool ((Zb s).1.neg),.string (bs ((Lib.trimRightB (Lib.trimLeftB ((Zb s).1.whole++(Zb s).1.rest) 48) 48))),.int .i64 ((((Nj s:Int) - ((((Zb s).1.rest):Str).length:Int):Int)+((((Lib.trimLeftB ((Zb s).1.whole++(Zb s).1.rest) 48)):Str).length:Int):Int) - ((((Lib.trimRightB (Lib.trimLeftB ((Zb s).1.whole++(Zb s).1.rest) 48) 48)):Str).length:Int))]) O isAgg61 sizeOf61 O (hF.cellsAll 3 O) (v:=.int .i64 0) O) ?_))
 exact ⟨by rw [Dh,if_neg (by simpa using hc0),if_neg U,if_neg U,if_neg hc5,if_neg (by simpa using hc6)]; rfl,hF.same⟩
end Go.Scarf
namespace Go.Scarf
open Go.RowKit Go.Proofs Go.Proofs.Tryz
def TT (n:Int):Num:=(Se (Lib.itoa n)).1
def pI (s:Str):Int × Bool:=match Lib.parseIntB 64 s with | .ok v=>(v,true) | .range=>(Lib.intSat 64 s,false) | _=>(0,false)
def Xw (x:Num):Int × Bool :=
  if Zd x=false∨x.exp < 0∨19 < (x.digits.length:Int)+x.exp then (0,false) else
  let t:=x.digits++Lib.repeatL [48] x.exp.toNat
  let u:=if x.neg then 45::t else t
  if u=[] then (0,true) else if (pI u).2=false then (0,false) else ((pI u).1,true)
def X5 (e:Value) (b:Bool):Prop:=if b then ∃ tp q,e=.iface tp q else e=.nilIface
theorem DJ {P:Program} {ρ:Operand→Value} {w:World} {dst:Option Nat} {ty:TypeId} {pos:String} {aft:Array Edge} {g:Option (Nat × Bool)} {t t':TypeId} {x:Operand} {e:Value} {b:Bool} (ht:P.underlying t=some (.interface (P.methodsAt t))) (he:X5 e b) (hx:ρ x=e) (hy:ρ (.const .nilIface)=.nilIface) :
    (execOp ρ ⟨dst,.binOp .neq t x (.const .nilIface) t',ty,pos,aft,g⟩).run P w=.ok (.value (.bool b)) w:=by
  unfold X5 at he
  cases b
  · simp only [Bool.false_eq_true,if_false] at he; subst he; exact ZK ht hx hy
  · simp only [if_true] at he; obtain ⟨tp,q,rfl⟩:=he; exact RA ht hx hy
theorem X0 (w:World) (e:TypeId) (s:ByteArray):Same [] w (Lib.bytesWorld w e s) :=
  .of_below (Joins.below_bytesWorld _ w e s (Nat.le_refl _))
theorem BF (s:Str) (hl:s.length≤140737488355328) {w:World} (hG:Gl w):Calls prog 122 #[.string (bs s),.int .i64 10,.int .i64 64] w (De fun v w'=>∃ e,v=.tuple #[.int .i64 (pI s).1,e]∧X5 e (!(pI s).2)∧Same [] w w'):=by
  cases h:Lib.parseIntB 64 s with
  | ok n =>
    refine (strconv_ParseInt_10_at64_ok (bs s) (by rw [Ro]; omega) n h w).mono ?_
    rintro e w' ⟨rfl,hw⟩
    refine ⟨_,O,.nilIface,by simp [pI,h],by simp [pI,h,X5],?_⟩
    rcases hw with rfl | ⟨t,rfl⟩
    · exact Same.refl _ _
    · exact X0 w 5 t
  | range =>
    obtain ⟨tp,q,hv⟩:=hG.err
    refine (strconv_ParseInt_10_at64_range_var (bs s) (by rw [Ro]; omega) h tp q w hv).mono ?_
    rintro e w' ⟨N,rfl,-,-,hb⟩
    exact ⟨_,O,.iface 214 (.pointer (some ⟨N,0,none⟩)),by simp only [pI,h],by simp [pI,h,X5],.of_below hb⟩
  | _ =>
    obtain ⟨tp,q,hv⟩:=hG.serr
    refine (Any.strconv_ParseInt_10_at64_syntax_var laysC174 (bs s) (by rw [Ro]; omega) h tp q w hv).mono ?_
    rintro e w' ⟨N,rfl,-,-,hb⟩
    exact ⟨_,O,.iface 214 (.pointer (some ⟨N,0,none⟩)),(by simp [pI,h]; rfl),by simp [pI,h,X5],.of_below hb⟩
theorem M7 (c:Int) (h0:0≤c) (h1:c≤19) (w:World):Calls prog 121 #[.string (bs [48]),.int .i64 c] w (De fun v w'=>v=.string (bs (Lib.repeatL [48] c.toNat))∧Same [] w w'):=by
  have h:=strings_Repeat (bs [48]) c.toNat w U (by rw [Ro]; simp; omega)
  rw [Int.toNat_of_nonneg h0] at h
  exact Eu h
theorem take_zero {l:List Int} {j:Nat} (h:j < l.length) (hz:∀ x∈l.take j,x=0) (hn:l[j]=0):∀ x∈l.take (j+1),x=0:=by
  rw [List.take_succ_eq_append_getElem h]
  intro c hc
  rcases List.mem_append.1 hc with hc | hc
  · exact hz c hc
  · simp only [List.mem_singleton] at hc; rw [hc]; exact hn
theorem LS (n:Int) (h1:-9223372036854775808≤n) (h2:n≤9223372036854775807) (w0:World) (hG:Gl w0):Calls prog 23 #[.int .i64 n] w0 (De fun v w'=>v=Kn (TT n)∧Same [] w0 w'):=by
 refine Ka func23 O ntmps23 Kb (Sc _) ?_
 have hF:=FR.start w0 []
 refine Ia ?_
 refine Fg (cs:=#[.bool false,.string (bs []),.int .i64 0]) hF zeroValue61 O ?_
 clear hF; rintro b1 w hb1 hF -
 refine Bc (Ca (Va O) ?_)
 refine Jb hF (KE n h1 h2 (hG.ext hF.same)) (Cb YL O O) ?_
 clear hF; intro w hF
 refine Jb hF (DG (Lib.itoa n) (by have:=Lib.itoa_length_le n h1 h2; omega) _) (Cb MU O O) ?_
 clear hF; intro w hF
 refine Ca (Ul O) (Ca (RQ O O) (Ca (Fm O O) ?_))
 refine Ym hF zeroValue61 sizeOf61 O ?_
 clear hF; rintro b2 w hb2 hF -
 refine Ca (Wb O) (Bc (Tc (Wj isAgg61 sizeOf61 O hF.F 0 O O) ?_))
 refine Ll hF sizeOf61 O O I5 ?_
 clear hF; rintro w hF -
 refine Ea ?_
 refine Ub (Rb (Sa (Bn O (l:=[.bool ((TT n).neg),.string (bs ((TT n).digits)),.int .i64 ((TT n).exp)]) O isAgg61 sizeOf61 O (hF.cellsAll 1 O)) ?_))
 exact ⟨O,hF.same⟩
def Ot (x:Num):Str:=if x.neg then 45::(x.digits++Lib.repeatL [48] x.exp.toNat) else x.digits++Lib.repeatL [48] x.exp.toNat
theorem Oj (x:Num):Xw x=if Zd x=false∨x.exp < 0∨19 < (x.digits.length:Int)+x.exp then (0,false) else if Ot x=[] then (0,true) else if (pI (Ot x)).2=false then (0,false) else ((pI (Ot x)).1,true):=rfl
theorem Eo (c:UInt8) (n:Nat):(Lib.repeatL [c] n).length=n:=by
  induction n with
  | zero=>rfl
  | succ n ih=>unfold Lib.repeatL; simp [ih]; try omega
theorem LM (x:Num) (hl:x.digits.length≤140737488355328) (w0:World) (hG:Gl w0):Calls prog 95 #[Kn x] w0 (De fun v w'=>v=.tuple #[.int .i64 (Xw x).1,.bool (Xw x).2]∧Same [] w0 w'):=by
  refine Ka func95 O ntmps95 Kb (Sc _) ?_
  have hF:=FR.start w0 []
  refine Ha ?_
  refine Fa ?_
  refine Bh hF O ?_
  clear hF; intro b1 w hb1 hF hE
  clear hE
  refine Ca (Wb O) ?_
  refine Ca (Hc O) ?_
  refine Xa ?_
  refine Ga ?_
  refine Ha ?_
  refine Ha ?_
  refine Fa ?_
  refine Tc (Wj isAgg61 sizeOf61 O hF.F 0 O O) ?_
  refine Jb hF (X8 x hl _) (Cb OO O O) ?_
  clear hF; intro w hF
  refine Ca (Pn O) ?_
  refine Ca (Jc O) ?_
  refine Jf (d:=10) O (fun hg0=>?_) (fun hg0=>?_)
  ·
    refine Da ?_
    refine Da ?_
    refine Da ?_
    refine Ca (Ic O O) ?_
    refine Ca (Jc O) ?_
    refine Da ?_
    refine Da ?_
    refine Da ?_
    refine Da ?_
    refine Da ?_
    refine Da ?_
    refine Da ?_
    refine Ca (Ic O O) ?_
    refine Xa ?_
    refine Ga ?_
    refine Ae O ?_
    refine Ha ?_
    refine Fa ?_
    refine Ca (Wb O) ?_
    refine Ca (Hc O) ?_
    refine Xa ?_
    refine Ga ?_
    refine Ub (Rb (Sa (Ld (v:=.int .i64 0) (x:=.bool false) O O O) ?_))
    refine ⟨?_,hF.same⟩
    first
    | (have hn:¬(Zd x=false∨x.exp < 0∨19 < (x.digits.length:Int)+x.exp):=by (refine not_or.2 ⟨by simp_all,not_or.2 ⟨by omega,by omega⟩⟩)
       rw [Oj,if_neg hn]
       simp_all; done)
    | (rw [Oj]; simp_all; done)
  ·
    refine Ca (Ec Di O) ?_
    refine Tc (Hl isAgg3 O hF.F 0 O O) ?_
    refine Ca (Yg O O) ?_
    refine Ca (Gc O O) ?_
    refine Ca (Jc O) ?_
    refine Hb (d:=15) O (fun hg1=>?_) (fun hg1=>?_)
    ·
      refine Da ?_
      refine Da ?_
      refine Da ?_
      refine Da ?_
      refine Da ?_
      refine Da ?_
      refine Da ?_
      refine Ca (Ic O O) ?_
      refine Xa ?_
      refine Ga ?_
      refine Ae O ?_
      refine Ha ?_
      refine Fa ?_
      refine Ca (Wb O) ?_
      refine Ca (Hc O) ?_
      refine Xa ?_
      refine Ga ?_
      refine Ub (Rb (Sa (Ld (v:=.int .i64 0) (x:=.bool false) O O O) ?_))
      refine ⟨?_,hF.same⟩
      first
      | (have hn:¬(Zd x=false∨x.exp < 0∨19 < (x.digits.length:Int)+x.exp):=by (refine not_or.2 ⟨by simp_all,not_or.2 ⟨by omega,by omega⟩⟩)
         rw [Oj,if_neg hn]
         simp_all; done)
      | (rw [Oj]; simp_all; done)
    ·
      refine Ca (Ec Ek O) ?_
      refine Tc (Tp isAgg9 O hF.F 0 O O) ?_
      refine Ca (Xl underlying9 O) ?_
      refine Ca (Ec Di O) ?_
      refine Tc (Hl isAgg3 O hF.F 0 O O) ?_
      refine Ja (v:=.int .i64 ((x.digits.length:Int)+x.exp)) (Il O O (Ji (by have:=Pd (x:=x) (by simp_all); omega) (by have:=Pd (x:=x) (by simp_all); omega))) ?_
      refine Ca (Ho O O) ?_
      refine Ca (Gc O O) ?_
      refine Xa ?_
      refine Ga ?_
      refine Yb O O (fun hc0=>?_) (fun hc0=>?_)
      ·
        refine Ha ?_
        refine Fa ?_
        refine Ca (Wb O) ?_
        refine Ca (Hc O) ?_
        refine Xa ?_
        refine Ga ?_
        refine Ub (Rb (Sa (Ld (v:=.int .i64 0) (x:=.bool false) O O O) ?_))
        refine ⟨?_,hF.same⟩
        first
        | (have hn:¬(Zd x=false∨x.exp < 0∨19 < (x.digits.length:Int)+x.exp):=by (refine not_or.2 ⟨by simp_all,not_or.2 ⟨by omega,by omega⟩⟩)
           rw [Oj,if_neg hn]
           simp_all; done)
        | (rw [Oj]; simp_all; done)
      ·
        refine Qa ?_
        refine Ga ?_
        refine Ha ?_
        refine Ff (zs:=[]) (.free 0 (.free 1 (.free 2 (.free 3 (.act 4 (.free 5 (.free 6 .nil))))))) hF ?_
        clear hF; intro w hF
        refine Db O (Ec Ek O) ?_
        refine Uk O (Tp isAgg9 O C0 0 O O) ?_
        refine Db O (Ec Di O) ?_
        refine Uk O (Hl isAgg3 O C0 0 O O) ?_
        refine Um hF (M7 x.exp U U _) O (Vb DD O O O) ?_
        clear hF; intro w hF
        refine ⟨hF,?_⟩
        refine Oa rfl (v:=.string (bs ((x.digits)++(Lib.repeatL [48] x.exp.toNat)))) (fun w hC=>Gh rfl rfl (by have:=Eo 48 x.exp.toNat; have:=Pd (x:=x) (by simp_all); first | omega | (simp only [List.length_append,List.length_cons,List.length_nil]; omega))) ?_
        refine Db O (Rd O) ?_
        refine Mc ?_
        refine Ga ?_
        refine Ha ?_
        refine Qf (fun σ w=>AllEq σ [(4,.string (bs (Ot x)))]∧FR w0 [] [(b1,.cells #[.bool (x.neg),.string (bs (x.digits)),.int .i64 (x.exp)] 61)] w) ?_ ?_
        ·
          refine Ha ?_
          refine Fa ?_
          refine Ca (Ec G1 O) ?_
          refine Tc (RV isAgg4 O hF.F 0 O O) ?_
          refine Xa ?_
          refine Ga ?_
          refine Mi O O (fun hc1=>?_) (fun hc1=>?_)
          ·
            have eT:[45]++(x.digits++Lib.repeatL [48] x.exp.toNat)=Ot x:=by unfold Ot; rw [if_pos (by assumption)]; rfl
            refine Fa ?_
            refine Ca (Qc O) ?_
            refine Ja (v:=.string (bs (Ot x))) (by rw [←eT]; exact Gh rfl rfl (by have:=Eo 48 x.exp.toNat; have:=Pd (x:=x) (by simp_all); first | omega | (simp only [List.length_append,List.length_cons,List.length_nil]; omega))) ?_
            refine Ca (Rd O) ?_
            refine Xa ?_
            exact Ib ⟨XT,hF⟩
          ·
            have eT:x.digits++Lib.repeatL [48] x.exp.toNat=Ot x:=by unfold Ot; rw [if_neg (by simp_all)]
            rw [eT]
            refine Qa ?_
            exact Ib ⟨XT,hF⟩
        clear hF; rintro σ w ⟨hs,hF⟩
        refine Eg.slots hs ?_
        clear hs; intro σ
        have hT:(Ot x).length≤1020:=by have:=Eo 48 x.exp.toNat; have:=Pd (x:=x) (by simp_all); unfold Ot; split <;> simp only [List.length_append,List.length_cons] <;> omega
        refine Ga ?_
        refine Ha ?_
        refine Ha ?_
        refine Fa ?_
        refine Ca (Qc O) ?_
        refine Ca (Ay O O) ?_
        refine Xa ?_
        refine Ga ?_
        refine Yb O O (fun hc2=>?_) (fun hc2=>?_)
        ·
          refine Ha ?_
          refine Fa ?_
          refine Ca (Wb O) ?_
          refine Ca (Hc O) ?_
          refine Xa ?_
          refine Ga ?_
          refine Ub (Rb (Sa (Ld (v:=.int .i64 0) (x:=.bool true) O O O) ?_))
          refine ⟨?_,hF.same⟩
          first
          | (have hn:¬(Zd x=false∨x.exp < 0∨19 < (x.digits.length:Int)+x.exp):=by (refine not_or.2 ⟨by simp_all,not_or.2 ⟨by omega,by omega⟩⟩)
             rw [Oj,if_neg hn]
             simp_all; done)
          | (rw [Oj]; simp_all; done)
        ·
          refine Qa ?_
          refine Ga ?_
          refine Ha ?_
          refine Fa ?_
          refine Ca (Qc O) ?_
          refine Pb (BF (Ot x) U (hG.ext hF.same)) (Gd UW O O O O) ?_
          rintro _ w ⟨e,rfl,he,hE⟩
          replace hF:=hF.ext hE
          clear hE
          refine Ca (Ul O) ?_
          refine Ca (Fm O O) ?_
          refine Ca (MY O O) ?_
          refine Ca (Wb O) ?_
          refine Ca (S1) ?_
          refine Xa ?_
          refine Ga ?_
          refine Ha ?_
          refine Ha ?_
          refine Fa ?_
          refine Ca (XC) ?_
          refine Ja (v:=.bool (!(pI (Ot x)).2)) (DJ (underlying155) he O O) ?_
          refine Xa ?_
          refine Ga ?_
          refine Mi O O (fun hc3=>?_) (fun hc3=>?_)
          ·
            refine Ha ?_
            refine Fa ?_
            refine Ca (Wb O) ?_
            refine Ca (Hc O) ?_
            refine Xa ?_
            refine Ga ?_
            refine Ub (Rb (Sa (Ld (v:=.int .i64 0) (x:=.bool false) O O O) ?_))
            refine ⟨?_,hF.same⟩
            first
            | (have hn:¬(Zd x=false∨x.exp < 0∨19 < (x.digits.length:Int)+x.exp):=by (refine not_or.2 ⟨by simp_all,not_or.2 ⟨by omega,by omega⟩⟩)
               rw [Oj,if_neg hn]
               simp_all; done)
            | (rw [Oj]; simp_all; done)
          ·
            refine Qa ?_
            refine Ga ?_
            refine Ha ?_
            refine Fa ?_
            refine Ca (Va O) ?_
            refine Ca (Wb O) ?_
            refine Ca (Hc O) ?_
            refine Xa ?_
            refine Ga ?_
            refine Ub (Rb (Sa (Ld (v:=.int .i64 ((pI (Ot x)).1)) (x:=.bool true) O O O) ?_))
            refine ⟨?_,hF.same⟩
            first
            | (have hn:¬(Zd x=false∨x.exp < 0∨19 < (x.digits.length:Int)+x.exp):=by (refine not_or.2 ⟨by simp_all,not_or.2 ⟨by omega,by omega⟩⟩)
               rw [Oj,if_neg hn]
               simp_all; done)
            | (rw [Oj]; simp_all; done)
end Go.Scarf
