/- A part of the proof. -/
import Derived.Test.YtbhneplafiapdaaGreatDoorW1
import Derived.Lib.SmallJoins
set_option linter.all false
set_option maxHeartbeats 8000000
set_option maxRecDepth 10000
namespace Go.Scarf
open Go.RowKit Go.Proofs Go.Proofs.Tryz
theorem Y5(s:Str):(Wa s).1.whole.length<=s.length/\(Wa s).1.rest.length<=s.length/\(Wa s).1.exp.length<=s.length:=by
  have h1:=De [101,69] (Lib.trimPrefix s [45]);have h2:=Ee s [45];have h3:=De [46] (Fa [101,69] (Lib.trimPrefix s [45])).1;have h4:=Ee (Fa [101,69] (Lib.trimPrefix s [45])).2.1 [45];have h5:=Ee (Lib.trimPrefix (Fa [101,69] (Lib.trimPrefix s [45])).2.1 [45]) [43];unfold Wa;simp only
  repeat' split
  all_goals (refine⟨?_,?_,?_⟩ <;> simp only[Wc,List.length_nil] <;> omega)
def Gq(s:Str):Int:=if (Wa s).1.low then-Ke (Lib.trimLeftB (Wa s).1.exp 48) else Ke (Lib.trimLeftB (Wa s).1.exp 48)
theorem Mh(s:Str):Jd s=if (Wa s).2=false then (Num.zero,2) else
  if 1000<(Wa s).1.whole.length+(Wa s).1.rest.length then (Num.zero,3) else
  if 9<(Lib.trimLeftB (Wa s).1.exp 48).length then (Num.zero,4) else
  if Lib.trimLeftB ((Wa s).1.whole++(Wa s).1.rest) 48=[] then (Num.zero,0) else
  if Ud (⟨(Wa s).1.neg,Lib.trimRightB (Lib.trimLeftB ((Wa s).1.whole++(Wa s).1.rest) 48) 48,Gq s-(Wa s).1.rest.length+(Lib.trimLeftB ((Wa s).1.whole++(Wa s).1.rest) 48).length-(Lib.trimRightB (Lib.trimLeftB ((Wa s).1.whole++(Wa s).1.rest) 48) 48).length⟩)=false then (Num.zero,4) else
  (⟨(Wa s).1.neg,Lib.trimRightB (Lib.trimLeftB ((Wa s).1.whole++(Wa s).1.rest) 48) 48,Gq s-(Wa s).1.rest.length+(Lib.trimLeftB ((Wa s).1.whole++(Wa s).1.rest) 48).length-(Lib.trimRightB (Lib.trimLeftB ((Wa s).1.whole++(Wa s).1.rest) 48) 48).length⟩,0):=rfl
theorem OA{s:Str}{q:Nat}(h:q<s.length)(ha:s.all Qg=true):(Utf8.decode (bs s) q).1=s[q].toNat/\(Utf8.decode (bs s) q).2=1/\48<=s[q].toNat/\s[q].toNat<=57:=by
  have hd:=List.all_eq_true.1 ha s[q] (eQ h);have:=Vz s q h hd;rw[this];unfold Qg at hd;simp only[Bool.and_eq_true,decide_eq_true_eq]at hd;exact⟨O,O,hd.1,hd.2⟩
theorem VF{f:UInt8->Bool}{s:Str}(q:Nat)(h:s.all f=true):(s.take q).all f=true:=by
  rw[List.all_eq_true]at h ⊢;exact λx hx=>h x (List.mem_of_mem_take hx)
theorem U8(s:Str)(hl:s.length<=140737488355328)(w0:World):Calls prog 73 #[I s] w0 (Hd λv w'=>v=.tuple #[Kl (Jd s).1,J (Jd s).2]/\Same [] w0 w'):=by
 have hls:=Y5 s;have ht0:=Xn (Wa s).1.exp 48;have ht1:=Xn ((Wa s).1.whole++(Wa s).1.rest) 48;rw[dQ]at ht1;have ht2:=Tt (Lib.trimLeftB ((Wa s).1.whole++(Wa s).1.rest) 48) 48;refine Ga func73 O ntmps73 Ib (Kc _) ?_;have hF:=FR.start w0 [];refine Ka (Ce (cs:=#[.bool false,I [],J 0]) hF qZ O ?_);rintro b1 w hb1 hF -;refine Da (Gd O) (Yb (Da (Oe O) ?_));refine Ra hF (JL s hl _) (Sa GM O O) ?_;intro w hF;refine Da (Yq O) (Da (E5 O O) (Da (Fq O O) ?_));refine Zi hF zeroValue127 aZ O ?_;rintro b2 w hb2 hF -;refine Da (Kb O) (Yb (Da (Ld Tp O) (Qd (Xs zQ O hF.F 0 O O) ?_)));refine Ra hF (Ur (Wa s).1.exp _) (Fb GF O O O) ?_;intro w hF;refine Da (Bm O) (Ea (Ja (Cb (Ka (Da (Nd O) (Da (Ui O) (Da (Kb O) (Ea ?_))))))));refine Me O O (λhc0=>?_) (λhc0=>?_);refine Ka (Oa (w':=w) (v:=.agg #[.bool false,I [],J 0]) Xb ?_);refine Lg hF dZ O O D1 ?_;rintro w hF -;refine Da (Gd O) (Ea ?_);refine Wb (Rb (Ua (Fd O (l:=[.bool false,I [],J 0]) O xQ dZ O (hF.cellsAll 1 O) (v:=J 2) O) ?_));exact⟨by rw[Mh,if_pos (by simpa using hc0)];rfl,hF.same⟩;refine Ka (Da (Ld Vm O) (Qd (Xs zQ O hF.F 0 O O) (Da (N9 mZ O) (Da (Ld Ok O) (Qd (Xs zQ O hF.F 0 O O) (Da (N9 mZ O) (Da (Dm O O) (Da (AC O O) (Da (Kb O) (Ea ?_))))))))));refine Tc O O (λhc1=>?_) (λhc1=>?_);refine Ka (Oa (w':=w) (v:=.agg #[.bool false,I [],J 0]) Xb ?_);refine Lg hF dZ O O D1 ?_;rintro w hF -;refine Da (Gd O) (Ea ?_);refine Wb (Rb (Ua (Fd O (l:=[.bool false,I [],J 0]) O xQ dZ O (hF.cellsAll 1 O) (v:=J 3) O) ?_));exact⟨by rw[Mh,if_neg (by simpa using hc0),if_pos Ca];rfl,hF.same⟩;refine Ka (Da (Oe O) (Da (N9 mZ O) (Da (AC O O) (Da (Kb O) (Ea ?_)))));refine Tc O O (λhc2=>?_) (λhc2=>?_);refine Ka (Oa (w':=w) (v:=.agg #[.bool false,I [],J 0]) Xb ?_);refine Lg hF dZ O O D1 ?_;rintro w hF -;refine Da (Gd O) (Ea ?_);refine Wb (Rb (Ua (Fd O (l:=[.bool false,I [],J 0]) O xQ dZ O (hF.cellsAll 1 O) (v:=J 4) O) ?_))
 exact⟨by rw[Mh,if_neg (by simpa using hc0),if_neg Ca,if_pos Ca];rfl,hF.same⟩;refine Ta (Ub (Ha (Ka (Da (Gd O) (Ea (Ja (Ka (Da (Oe O) ?_))))))));refine Wv (str:=(Lib.trimLeftB (Wa s).1.exp 48)) hF mZ O ?_;rintro b3 w hb3 hF -;refine Ea (Cb ?_);have hall:(Lib.trimLeftB (Wa s).1.exp 48).all Qg=true:=Un (XA (by simp_all));refine Yc (λμ σ w=>∃(q:Nat),μ=(Lib.trimLeftB (Wa s).1.exp 48).length-q/\(q<=(Lib.trimLeftB (Wa s).1.exp 48).length)/\AllEq σ [(2,V b1),(4,V b2),(7,J (Ke ((Lib.trimLeftB (Wa s).1.exp 48).take q))),(41,V b3)]/\FR w0 [] [(b3,.stringIter (bs ((Lib.trimLeftB (Wa s).1.exp 48))) (q)),(b2,.cells #[.bool ((Wa s).1.neg),.bool ((Wa s).1.low),I ((Wa s).1.whole),I ((Wa s).1.rest),I ((Wa s).1.exp)] 127),(b1,.cells #[.bool false,I [],J 0] 73)] w) _ ⟨0,O,(Nat.zero_le _),Xp,hF⟩ ?_;rintro μ σ w ⟨q,rfl,hq,hs,hF⟩;refine Cg.slots hs ?_;clear hs;intro σ;refine Ka ?_;by_cases hn0:(q)<((Lib.trimLeftB (Wa s).1.exp 48):Str).length;refine I0 0 (p:=q) (str:=(Lib.trimLeftB (Wa s).1.exp 48)) hF O O hn0 ?_;rintro w hF -;refine Da (Fq O O) (Ea (Ja (Ie O (Ta (Ha (Cb (Ka (Da (Rr O O) (Da (Gd O) (Ea ?_))))))))));refine Ma (Da (Bc O) ?_);have hv:=OA (s:=(Lib.trimLeftB (Wa s).1.exp 48)) (q:=q) Ca hall;have hb:=Ty ((Lib.trimLeftB (Wa s).1.exp 48).take q) (VF q hall) (by rw[List.length_take];omega);refine Oa (v:=J (10*Ke ((Lib.trimLeftB (Wa s).1.exp 48).take q))) (DP O O (En Ca Ca Ca)) (Da (Bc O) ?_);refine Oa (v:=.int .i32 (((Utf8.decode (bs (Lib.trimLeftB (Wa s).1.exp 48)) q).1:Int)-48)) (H8 O O (by rw[IntKind.wrap_i32];omega)) ?_;refine Oa (v:=J (((Utf8.decode (bs (Lib.trimLeftB (Wa s).1.exp 48)) q).1:Int)-48)) (M5 underlying21 kZ O (Nl Ca Ca)) ?_;refine Oa (v:=J (Ke ((Lib.trimLeftB (Wa s).1.exp 48).take (q+1)))) (Hv O O (by rw[Qr _ q Ca,hv.1];exact Nl Ca Ca)) ?_;refine Da (Gd O) (Eb (Ub ?_))
 rw[hv.2.1]at hF;refine Hc ⟨_,?_,q+1,O,Ca,Xp,hF⟩;omega;refine Qo 0 (p:=q) (str:=(Lib.trimLeftB (Wa s).1.exp 48)) hF O O hn0 (Da (Fq O O) (Ea (Ja (Fk O ?_))));refine Rc (Nc O ?_);refine Ha ?_;have eT:(Lib.trimLeftB (Wa s).1.exp 48).take q=(Lib.trimLeftB (Wa s).1.exp 48):=List.take_of_length_le Ca;have hb:=Ty (Lib.trimLeftB (Wa s).1.exp 48) hall Ca;have hE:-1000000000<Gq s/\Gq s<1000000000:=by unfold Gq;split <;> omega
 refine Ja (Qq (λσ w=>AllEq σ [(2,V b1),(4,V b2),(7,J (Gq s))]/\FR w0 [] [(b3,.stringIter (bs ((Lib.trimLeftB (Wa s).1.exp 48))) (q)),(b2,.cells #[.bool ((Wa s).1.neg),.bool ((Wa s).1.low),I ((Wa s).1.whole),I ((Wa s).1.rest),I ((Wa s).1.exp)] 127),(b1,.cells #[.bool false,I [],J 0] 73)] w) ?_ ?_);refine Ka (Da (Ld Su O) (Qd (SI isAgg4 O hF.F 1 O O) (Ea ?_)));refine Me O O (λhc4=>?_) (λhc4=>?_);have eE:Gq s = - Ke (Lib.trimLeftB (Wa s).1.exp 48):=by unfold Gq;rw[if_pos (by assumption)]
 refine Ma (Da (Bc O) ?_);refine Oa (v:=J (Gq s)) (DO O (by rw[eT,eE];exact En Ca Ca Ca)) ?_;refine Da (Gd O) (Eb ?_);exact Hc ⟨U4,hF⟩;have eE:Gq s=Ke (Lib.trimLeftB (Wa s).1.exp 48):=by unfold Gq;rw[if_neg (by simp_all)]
 rw[eT,<-eE];refine Ta ?_;exact Hc ⟨U4,hF⟩;rintro σ w ⟨hs,hF⟩;refine Eg.slots hs ?_;clear hs;intro σ;refine Ha (Ka (Da (Ld Vm O) (Qd (Xs zQ O hF.F 1 O O) (Da (Ld Ok O) (Qd (Xs zQ O hF.F 1 O O) (Oa (v:=I (((Wa s).1.whole)++((Wa s).1.rest))) (Wr O O Ca) ?_))))));refine Ra hF (Ur ((Wa s).1.whole++(Wa s).1.rest) _) (Fb GF O O O) ?_;intro w hF;refine Da (Bm O) (Ea (Ja (Ka (Da (Oe O) (Da (F7 O O) (Ea ?_))))));refine Tc O O (λhc5=>?_) (λhc5=>?_);refine Ka (Oa (w':=w) (v:=.agg #[.bool false,I [],J 0]) Xb ?_);refine Lg hF dZ O O WN ?_;rintro w hF -;refine Da (Gd O) (Ea ?_);refine Wb (Rb (Ua (Fd O (l:=[.bool false,I [],J 0]) O xQ dZ O (hF.cellsAll 2 O) (v:=J 0) O) ?_));exact⟨by rw[Mh,if_neg (by simpa using hc0),if_neg Ca,if_neg Ca,if_pos hc5];rfl,hF.same⟩;refine Ta (Ha (Ka (Da (Oe O) ?_)));refine Ra hF (X0 (Lib.trimLeftB ((Wa s).1.whole++(Wa s).1.rest) 48) _ Ca) (Fb BL O O O) ?_;intro w hF;refine Da (Bm O) (Yb (Da (Ld K4 O) (Qd (SI isAgg4 O hF.F 1 O O) (Da (Oe O) (Da (Bc O) (Da (Ld Ok O) (Qd (Xs zQ O hF.F 1 O O) (Da (N9 mZ O) (Da (MH O O) (Da (Oe O) ?_))))))))));refine Da (N9 mZ O) (Da (Dm O O) (Da (Oe O) (Da (N9 mZ O) (Da (MH O O) ?_))));refine Oa (w':=w) (v:=.agg #[.bool ((Wa s).1.neg),I ((Lib.trimRightB (Lib.trimLeftB ((Wa s).1.whole++(Wa s).1.rest) 48) 48)),J ((((Gq s:Int)-((((Wa s).1.rest):Str).length:Int):Int)+((((Lib.trimLeftB ((Wa s).1.whole++(Wa s).1.rest) 48)):Str).length:Int):Int)-((((Lib.trimRightB (Lib.trimLeftB ((Wa s).1.whole++(Wa s).1.rest) 48) 48)):Str).length:Int))]) Xb (Zi hF qZ dZ O ?_);rintro b4 w hb4 hF -;refine Ea (Ja (Ka (Qd (Hj xQ dZ O hF.F 0 O O) ?_)));refine Ra hF (Hz (⟨(Wa s).1.neg,(Lib.trimRightB (Lib.trimLeftB ((Wa s).1.whole++(Wa s).1.rest) 48) 48),Gq s-(Wa s).1.rest.length+(Lib.trimLeftB ((Wa s).1.whole++(Wa s).1.rest) 48).length-(Lib.trimRightB (Lib.trimLeftB ((Wa s).1.whole++(Wa s).1.rest) 48) 48).length⟩) (by show (Lib.trimRightB (Lib.trimLeftB ((Wa s).1.whole++(Wa s).1.rest) 48) 48).length<=_;omega) _) (Sa ZF O O) ?_
 intro w hF;refine Da (Ui O) (Ea ?_);refine Me O O (λhc6=>?_) (λhc6=>?_);refine Ka (Oa (w':=w) (v:=.agg #[.bool false,I [],J 0]) Xb ?_);refine Lg hF dZ O O BK ?_;rintro w hF -;refine Da (Gd O) (Ea ?_);refine Wb (Rb (Ua (Fd O (l:=[.bool false,I [],J 0]) O xQ dZ O (hF.cellsAll 3 O) (v:=J 4) O) ?_));exact⟨by rw[Mh,if_neg (by simpa using hc0),if_neg Ca,if_neg Ca,if_neg hc5,if_pos (by simpa using hc6)];rfl,hF.same⟩;refine Ta (Ha (Ka (Qd (Hj xQ dZ O hF.F 0 O O) ?_)));refine Lg hF dZ O O BK ?_;rintro w hF -;refine Da (Gd O) (Ea ?_);refine Wb (Rb (Ua (Fd O (l:=[.bool ((Wa s).1.neg),I ((Lib.trimRightB (Lib.trimLeftB ((Wa s).1.whole++(Wa s).1.rest) 48) 48)),J ((((Gq s:Int)-((((Wa s).1.rest):Str).length:Int):Int)+((((Lib.trimLeftB ((Wa s).1.whole++(Wa s).1.rest) 48)):Str).length:Int):Int)-((((Lib.trimRightB (Lib.trimLeftB ((Wa s).1.whole++(Wa s).1.rest) 48) 48)):Str).length:Int))]) O xQ dZ O (hF.cellsAll 3 O) (v:=J 0) O) ?_));exact⟨by rw[Mh,if_neg (by simpa using hc0),if_neg Ca,if_neg Ca,if_neg hc5,if_neg (by simpa using hc6)];rfl,hF.same⟩
def MB(n:Int):Num:=(Jd (Lib.itoa n)).1
def pI(s:Str):Int × Bool:=match Lib.parseIntB 64 s with|.ok v=>(v,true)|.range=>(Lib.intSat 64 s,false)|_=>(0,false)
def O4(x:Num):Int × Bool :=
  if Ud x=false\/x.exp<0\/19<(x.digits.length:Int)+x.exp then (0,false) else
  let t:=x.digits++Lib.repeatL [48] x.exp.toNat
  let u:=if x.neg then 45::t else t
  if u=[] then (0,true) else if (pI u).2=false then (0,false) else ((pI u).1,true)
def Jy(e:Value)(b:Bool):Prop:=if b then ∃tp q,e=.iface tp q else e=.nilIface
theorem TB{P:Program}{ρ:Operand->Value}{w:World}{dst:Option Nat}{ty:TypeId}{pos:String}{aft:Array Edge}{g:Option (Nat × Bool)}{t t':TypeId}{x:Operand}{e:Value}{b:Bool}(ht:P.underlying t=some (.interface (P.methodsAt t)))(he:Jy e b)(hx:ρ x=e)(hy:ρ (.const .nilIface)=.nilIface) :
    (execOp ρ ⟨dst,.binOp .neq t x (.const .nilIface) t',ty,pos,aft,g⟩).run P w=.ok (.value (.bool b)) w:=by
  unfold Jy at he;cases b
  ·simp only[Bool.false_eq_true,if_false]at he;subst he;exact MA ht hx hy
  simp only[if_true]at he;obtain⟨tp,q,rfl⟩:=he;exact P2 ht hx hy
theorem Us(w:World)(e:TypeId)(s:ByteArray):Same [] w (Lib.bytesWorld w e s) :=
  .of_below (Joins.below_bytesWorld _ w e s (gQ _))
theorem W6(s:Str)(hl:s.length<=140737488355328){w:World}(hG:Gl w):Calls prog 183 #[I s,J 10,J 64] w (Hd λv w'=>∃e,v=.tuple #[J (pI s).1,e]/\Jy e (!(pI s).2)/\Same [] w w'):=by
  cases h:Lib.parseIntB 64 s with
  | ok n =>
    refine (strconv_ParseInt_10_at64_ok (bs s) (by rw[Nn];omega) n h w).mono ?_;rintro e w' ⟨rfl,hw⟩;refine⟨_,O,.nilIface,by simp[pI,h],by simp[pI,h,Jy],?_⟩;rcases hw with rfl|⟨t,rfl⟩
    ·exact Same.refl _ _
    exact Us w 5 t
  | range =>
    obtain⟨tp,q,hv⟩:=hG.err;refine (strconv_ParseInt_10_at64_range_var (bs s) (by rw[Nn];omega) h tp q w hv).mono ?_;rintro e w' ⟨N,rfl,-,-,hb⟩;exact⟨_,O,.iface 293 (V N),by simp only[pI,h],by simp[pI,h,Jy],.of_below hb⟩
  | _ =>
    obtain⟨tp,q,hv⟩:=hG.serr;refine (Any.strconv_ParseInt_10_at64_syntax_var laysC174 (bs s) (by rw[Nn];omega) h tp q w hv).mono ?_;rintro e w' ⟨N,rfl,-,-,hb⟩;exact⟨_,O,.iface 293 (V N),(by simp[pI,h];rfl),by simp[pI,h,Jy],.of_below hb⟩
theorem LB(c:Int)(h0:0<=c)(h1:c<=19)(w:World):Calls prog 182 #[I [48],J c] w (Hd λv w'=>v=I (Lib.repeatL [48] c.toNat)/\Same [] w w'):=by
  have h:=strings_Repeat (bs [48]) c.toNat w Ca (by rw[Nn];simp;omega);rw[Int.toNat_of_nonneg h0]at h;exact Zq h
theorem BH(n:Int)(h1:-9223372036854775808<=n)(h2:n<=9223372036854775807)(w0:World)(hG:Gl w0):Calls prog 48 #[J n] w0 (Hd λv w'=>v=Kl (MB n)/\Same [] w0 w'):=by
 refine Ga func48 O ntmps48 Ib (Kc _) ?_;have hF:=FR.start w0 [];refine Ka (Ce (cs:=#[.bool false,I [],J 0]) hF qZ O ?_);rintro b1 w hb1 hF -;refine Yb (Da (Bc O) ?_);refine Ra hF (M6 n h1 h2 (hG.ext hF.same)) (Sa YE O O) ?_;intro w hF;refine Ra hF (U8 (Lib.itoa n) (by have:=Lib.itoa_length_le n h1 h2;omega) _) (Sa UJ O O) ?_;intro w hF;refine Da (Yq O) (Da (E5 O O) (Da (Rr O O) ?_));refine Zi hF qZ dZ O ?_;rintro b2 w hb2 hF -;refine Da (Gd O) (Yb (Qd (Hj xQ dZ O hF.F 0 O O) ?_));refine Lg hF dZ O O D1 ?_;rintro w hF -;refine Ea (Wb (Rb (Ua (Jm O (l:=[.bool ((MB n).neg),I ((MB n).digits),J ((MB n).exp)]) O xQ dZ O (hF.cellsAll 1 O)) ?_)));exact⟨O,hF.same⟩
def Dq(x:Num):Str:=if x.neg then 45::(x.digits++Lib.repeatL [48] x.exp.toNat) else x.digits++Lib.repeatL [48] x.exp.toNat
theorem Zf(x:Num):O4 x=if Ud x=false\/x.exp<0\/19<(x.digits.length:Int)+x.exp then (0,false) else if Dq x=[] then (0,true) else if (pI (Dq x)).2=false then (0,false) else ((pI (Dq x)).1,true):=rfl
theorem Nm(c:UInt8)(n:Nat):(Lib.repeatL [c] n).length=n:=by
  induction n with
  | zero=>rfl
  | succ n ih=>unfold Lib.repeatL;simp[ih];try omega
theorem KF(x:Num)(hl:x.digits.length<=140737488355328)(w0:World)(hG:Gl w0):Calls prog 139 #[Kl x] w0 (Hd λv w'=>v=.tuple #[J (O4 x).1,.bool (O4 x).2]/\Same [] w0 w'):=by
  refine Ga func139 O ntmps139 Ib (Kc _) ?_;have hF:=FR.start w0 [];refine Ja (Ma ?_);refine Mg hF O ?_;intro b1 w hb1 hF hE;refine Da (Gd O) (Da (Kb O) ?_);refine Eb (Ha ?_);refine Ja (Ja ?_);refine Ma (Qd (Hj xQ dZ O hF.F 0 O O) ?_);refine Ra hF (Hz x hl _) (Sa ZF O O) ?_;intro w hF;refine Da (Ui O) (Da (Nd O) ?_);refine Uc (d:=10) O (λhg0=>?_) (λhg0=>?_)
  ·
   refine Ia (Ia ?_);refine Ia (Da (Ec O O) ?_);refine Da (Nd O) (Ia ?_);refine Ia (Ia ?_);refine Ia (Ia ?_);refine Ia (Ia ?_);refine Da (Ec O O) (Eb ?_);refine Ha (Ie O ?_);refine Ja (Ma ?_);refine Da (Gd O) (Da (Kb O) ?_);refine Eb (Ha ?_);refine Wb (Rb (Ua (Uk (v:=J 0) (x:=.bool false) O O O) ?_));refine⟨?_,hF.same⟩
   first
   | (have hn:¬(Ud x=false\/x.exp<0\/19<(x.digits.length:Int)+x.exp):=by (refine not_or.2 ⟨by simp_all,not_or.2 ⟨by omega,by omega⟩⟩)
      rw[Zf,if_neg hn];simp_all;done)
   | (rw[Zf];simp_all;done)
  refine Da (Ld Li O) (Qd (F5 wQ O hF.F 0 O O) ?_);refine Da (Wo O O) (Da (Ed O O) ?_);refine Da (Nd O) (Xc (d:=15) O (λhg1=>?_) (λhg1=>?_))
  ·
   refine Ia (Ia ?_);refine Ia (Ia ?_);refine Ia (Ia ?_);refine Ia (Da (Ec O O) ?_);refine Eb (Ha ?_);refine Ie O (Ja ?_);refine Ma (Da (Gd O) ?_);refine Da (Kb O) (Eb ?_);refine Ha (Wb (Rb (Ua (Uk (v:=J 0) (x:=.bool false) O O O) ?_)));refine⟨?_,hF.same⟩
   first
   | (have hn:¬(Ud x=false\/x.exp<0\/19<(x.digits.length:Int)+x.exp):=by (refine not_or.2 ⟨by simp_all,not_or.2 ⟨by omega,by omega⟩⟩)
      rw[Zf,if_neg hn];simp_all;done)
   | (rw[Zf];simp_all;done)
  refine Da (Ld Jp O) (Qd (Xs zQ O hF.F 0 O O) ?_);refine Da (N9 mZ O) (Da (Ld Li O) ?_);refine Qd (F5 wQ O hF.F 0 O O) ?_;refine Oa (v:=J ((x.digits.length:Int)+x.exp)) (Hv O O (Nl (by have:=Pc (x:=x) (by simp_all);omega) (by have:=Pc (x:=x) (by simp_all);omega))) ?_;refine Da (AC O O) (Da (Ed O O) ?_);refine Eb (Ha ?_);refine Tc O O (λhc0=>?_) (λhc0=>?_)
  ·
   refine Ja (Ma ?_);refine Da (Gd O) (Da (Kb O) ?_);refine Eb (Ha ?_);refine Wb (Rb (Ua (Uk (v:=J 0) (x:=.bool false) O O O) ?_));refine⟨?_,hF.same⟩
   first
   | (have hn:¬(Ud x=false\/x.exp<0\/19<(x.digits.length:Int)+x.exp):=by (refine not_or.2 ⟨by simp_all,not_or.2 ⟨by omega,by omega⟩⟩)
      rw[Zf,if_neg hn];simp_all;done)
   | (rw[Zf];simp_all;done)
  refine Ta (Ha ?_);refine Ja (Qf (zs:=.of []) (bQ [0,1,2,3] (.act 4 (.free 5 (.free 6 .nil)))) hF ?_);intro w hF;refine Lc O (Ld Jp O) (Mq O (Xs zQ O C0 0 O O) ?_);refine Lc O (Ld Li O) (Mq O (F5 wQ O C0 0 O O) ?_);refine Yf hF (LB x.exp Ca Ca _) O (Fb AM O O O) ?_;intro w hF;refine⟨hF,?_⟩;refine Vb rfl (v:=I ((x.digits)++(Lib.repeatL [48] x.exp.toNat))) (λw hC=>Wr rfl rfl (by have:=Nm 48 x.exp.toNat;have:=Pc (x:=x) (by simp_all);first|omega|(simp only[dQ,kQ,List.length_nil];omega))) ?_;refine Lc O (Bm O) (Zd ?_);refine Ha (Ja ?_);refine Qq (λσ w=>AllEq σ [(4,I (Dq x))]/\FR w0 [] [(b1,.cells #[.bool (x.neg),I (x.digits),J (x.exp)] 73)] w) ?_ ?_
  ·
   refine Ja (Ma ?_);refine Da (Ld Q9 O) (Qd (SI isAgg4 O hF.F 0 O O) ?_);refine Eb (Ha ?_);refine Me O O (λhc1=>?_) (λhc1=>?_)
   ·
    have eT:[45]++(x.digits++Lib.repeatL [48] x.exp.toNat)=Dq x:=by unfold Dq;rw[if_pos (by assumption)];rfl
    refine Ma (Da (Oe O) ?_);refine Oa (v:=I (Dq x)) (by rw[<-eT];exact Wr rfl rfl (by have:=Nm 48 x.exp.toNat;have:=Pc (x:=x) (by simp_all);first|omega|(simp only[dQ,kQ,List.length_nil];omega))) ?_;refine Da (Bm O) (Eb ?_);exact Hc ⟨OO,hF⟩
   have eT:x.digits++Lib.repeatL [48] x.exp.toNat=Dq x:=by unfold Dq;rw[if_neg (by simp_all)]
   rw[eT];refine Ta ?_;exact Hc ⟨OO,hF⟩
  rintro σ w ⟨hs,hF⟩;refine Eg.slots hs ?_;clear hs;intro σ;have hT:(Dq x).length<=1020:=by have:=Nm 48 x.exp.toNat;have:=Pc (x:=x) (by simp_all);unfold Dq;split <;> simp only[dQ,kQ] <;> omega
  refine Ha (Ja ?_);refine Ja (Ma ?_);refine Da (Oe O) (Da (F7 O O) ?_);refine Eb (Ha ?_);refine Tc O O (λhc2=>?_) (λhc2=>?_)
  ·
   refine Ja (Ma ?_);refine Da (Gd O) (Da (Kb O) ?_);refine Eb (Ha ?_);refine Wb (Rb (Ua (Uk (v:=J 0) (x:=.bool true) O O O) ?_));refine⟨?_,hF.same⟩
   first
   | (have hn:¬(Ud x=false\/x.exp<0\/19<(x.digits.length:Int)+x.exp):=by (refine not_or.2 ⟨by simp_all,not_or.2 ⟨by omega,by omega⟩⟩)
      rw[Zf,if_neg hn];simp_all;done)
   | (rw[Zf];simp_all;done)
  refine Ta (Ha ?_);refine Ja (Ma ?_);refine Da (Oe O) (Cc (W6 (Dq x) Ca (hG.ext hF.same)) (Ye CN O O O O) ?_);rintro _ w ⟨e,rfl,he,hE⟩;have hF:=hF.ext hE;refine Da (Yq O) (Da (Rr O O) ?_);refine Da (MS O O) (Da (Gd O) ?_);refine Da (JG) (Eb ?_);refine Ha (Ja ?_);refine Ja (Ma ?_);refine Da (Lq) (Oa (v:=.bool (!(pI (Dq x)).2)) (TB (underlying213) he O O) ?_);refine Eb (Ha ?_);refine Me O O (λhc3=>?_) (λhc3=>?_)
  ·
   refine Ja (Ma ?_);refine Da (Gd O) (Da (Kb O) ?_);refine Eb (Ha ?_);refine Wb (Rb (Ua (Uk (v:=J 0) (x:=.bool false) O O O) ?_));refine⟨?_,hF.same⟩
   first
   | (have hn:¬(Ud x=false\/x.exp<0\/19<(x.digits.length:Int)+x.exp):=by (refine not_or.2 ⟨by simp_all,not_or.2 ⟨by omega,by omega⟩⟩)
      rw[Zf,if_neg hn];simp_all;done)
   | (rw[Zf];simp_all;done)
  refine Ta (Ha ?_);refine Ja (Ma ?_);refine Da (Bc O) (Da (Gd O) ?_);refine Da (Kb O) (Eb ?_);refine Ha (Wb (Rb (Ua (Uk (v:=J ((pI (Dq x)).1)) (x:=.bool true) O O O) ?_)));refine⟨?_,hF.same⟩
  first
  | (have hn:¬(Ud x=false\/x.exp<0\/19<(x.digits.length:Int)+x.exp):=by (refine not_or.2 ⟨by simp_all,not_or.2 ⟨by omega,by omega⟩⟩)
     rw[Zf,if_neg hn];simp_all;done)
  | (rw[Zf];simp_all;done)
end Go.Scarf
