/- A part of the proof. -/
import Derived.Test.YtbhneplafiapdaaGreatDoorW1
import Derived.Lib.SmallJoins
set_option linter.all false
set_option maxHeartbeats 8000000
set_option maxRecDepth 10000
namespace Go.Scarf
open Go.RowKit Go.Proofs Go.Proofs.Tryz
theorem T_(s:Str):(Cb s).1.whole.length<=s.length/\(Cb s).1.rest.length<=s.length/\(Cb s).1.exp.length<=s.length:=by
  have h1:=Re [101,69] (Lib.trimPrefix s [45]);have h2:=Mf s [45];have h3:=Re [46] (Oa [101,69] (Lib.trimPrefix s [45])).1;have h4:=Mf (Oa [101,69] (Lib.trimPrefix s [45])).2.1 [45];have h5:=Mf (Lib.trimPrefix (Oa [101,69] (Lib.trimPrefix s [45])).2.1 [45]) [43];unfold Cb;simp only
  repeat' split
  all_goals (refine⟨?_,?_,?_⟩ <;> simp only[Td,List.length_nil] <;> omega)
def Bh(s:Str):Int:=if (Cb s).1.low then-Yc (Lib.trimLeftB (Cb s).1.exp 48) else Yc (Lib.trimLeftB (Cb s).1.exp 48)
theorem Df(s:Str):Dd s=if (Cb s).2=false then (Num.zero,2) else
  if 1000<(Cb s).1.whole.length+(Cb s).1.rest.length then (Num.zero,3) else
  if 9<(Lib.trimLeftB (Cb s).1.exp 48).length then (Num.zero,4) else
  if Lib.trimLeftB ((Cb s).1.whole++(Cb s).1.rest) 48=[] then (Num.zero,0) else
  if Ad (⟨(Cb s).1.neg,Lib.trimRightB (Lib.trimLeftB ((Cb s).1.whole++(Cb s).1.rest) 48) 48,Bh s-(Cb s).1.rest.length+(Lib.trimLeftB ((Cb s).1.whole++(Cb s).1.rest) 48).length-(Lib.trimRightB (Lib.trimLeftB ((Cb s).1.whole++(Cb s).1.rest) 48) 48).length⟩)=false then (Num.zero,4) else
  (⟨(Cb s).1.neg,Lib.trimRightB (Lib.trimLeftB ((Cb s).1.whole++(Cb s).1.rest) 48) 48,Bh s-(Cb s).1.rest.length+(Lib.trimLeftB ((Cb s).1.whole++(Cb s).1.rest) 48).length-(Lib.trimRightB (Lib.trimLeftB ((Cb s).1.whole++(Cb s).1.rest) 48) 48).length⟩,0):=rfl
theorem TH{s:Str}{q:Nat}(h:q<s.length)(ha:s.all Rd=true):(Utf8.decode (bs s) q).1=s[q].toNat/\(Utf8.decode (bs s) q).2=1/\48<=s[q].toNat/\s[q].toNat<=57:=by
  have hd:=List.all_eq_true.1 ha s[q] (eQ h);have:=W4 s q h hd;rw[this];unfold Rd at hd;simp only[Bool.and_eq_true,decide_eq_true_eq]at hd;exact⟨O,O,hd.1,hd.2⟩
theorem Gn{f:UInt8->Bool}{s:Str}(q:Nat)(h:s.all f=true):(s.take q).all f=true:=by
  rw[List.all_eq_true]at h ⊢;exact λx hx=>h x (List.mem_of_mem_take hx)
theorem KF(s:Str)(hl:s.length<=140737488355328)(w0:World):Calls prog 73 #[I s] w0 (Vd λv w'=>v=.tuple #[Kj (Dd s).1,J (Dd s).2]/\Same [] w0 w'):=by
 have hls:=T_ s;have ht0:=Nr (Cb s).1.exp 48;have ht1:=Nr ((Cb s).1.whole++(Cb s).1.rest) 48;rw[dQ]at ht1;have ht2:=G1 (Lib.trimLeftB ((Cb s).1.whole++(Cb s).1.rest) 48) 48;refine Ka func73 O ntmps73 Mb (Jc _) ?_;have hF:=FR.start w0 [];refine Ia (Ve (cs:=#[.bool false,I [],J 0]) hF yZ O ?_);rintro b1 w hb1 hF -;refine Ca (Bc O) (Ec (Ca (Ic O) ?_));refine Ta hF (DU s hl _) (Va TV O O) ?_;intro w hF;refine Ca (Tq O) (Ca (J_ O O) (Ca (Qp O O) ?_));refine Vl hF zeroValue127 eZ O ?_;rintro b2 w hb2 hF -;refine Ca (Eb O) (Ec (Ca (Cd Nu O) (Ed (Em dZ O hF.F 0 O O) ?_)));refine Ta hF (Mw (Cb s).1.exp _) (Qb YK O O O) ?_;intro w hF;refine Ca (Qd O) (Fa (Ha (Sa (Ia (Ca (Xb O) (Ca (Bi O) (Ca (Eb O) (Fa ?_))))))));refine Je O O (λhc0=>?_) (λhc0=>?_);refine Ia (Ja (w':=w) (v:=.agg #[.bool false,I [],J 0]) Nc ?_);refine Hh hF jZ O O N4 ?_;rintro w hF -;refine Ca (Bc O) (Fa ?_);refine Gb (Fb (Pa (Nd O (l:=[.bool false,I [],J 0]) O aZ jZ O (hF.cellsAll 1 O) (v:=J 2) O) ?_));exact⟨by rw[Df,if_pos (by simpa using hc0)];rfl,hF.same⟩;refine Ia (Ca (Cd Lq O) (Ed (Em dZ O hF.F 0 O O) (Ca (Bj tZ O) (Ca (Cd Sn O) (Ed (Em dZ O hF.F 0 O O) (Ca (Bj tZ O) (Ca (Lk O O) (Ca (Jo O O) (Ca (Eb O) (Fa ?_))))))))));refine Wb O O (λhc1=>?_) (λhc1=>?_);refine Ia (Ja (w':=w) (v:=.agg #[.bool false,I [],J 0]) Nc ?_);refine Hh hF jZ O O N4 ?_;rintro w hF -;refine Ca (Bc O) (Fa ?_);refine Gb (Fb (Pa (Nd O (l:=[.bool false,I [],J 0]) O aZ jZ O (hF.cellsAll 1 O) (v:=J 3) O) ?_));exact⟨by rw[Df,if_neg (by simpa using hc0),if_pos U];rfl,hF.same⟩;refine Ia (Ca (Ic O) (Ca (Bj tZ O) (Ca (Jo O O) (Ca (Eb O) (Fa ?_)))));refine Wb O O (λhc2=>?_) (λhc2=>?_);refine Ia (Ja (w':=w) (v:=.agg #[.bool false,I [],J 0]) Nc ?_);refine Hh hF jZ O O N4 ?_;rintro w hF -;refine Ca (Bc O) (Fa ?_);refine Gb (Fb (Pa (Nd O (l:=[.bool false,I [],J 0]) O aZ jZ O (hF.cellsAll 1 O) (v:=J 4) O) ?_))
 exact⟨by rw[Df,if_neg (by simpa using hc0),if_neg U,if_pos U];rfl,hF.same⟩;refine Ma (Ib (Ga (Ia (Ca (Bc O) (Fa (Ha (Ia (Ca (Ic O) ?_))))))));refine Kz (str:=(Lib.trimLeftB (Cb s).1.exp 48)) hF tZ O ?_;rintro b3 w hb3 hF -;refine Fa (Sa ?_);have hall:(Lib.trimLeftB (Cb s).1.exp 48).all Rd=true:=Rr (YG (by simp_all));refine Gc (λμ σ w=>∃(q:Nat),μ=(Lib.trimLeftB (Cb s).1.exp 48).length-q/\(q<=(Lib.trimLeftB (Cb s).1.exp 48).length)/\AllEq σ [(2,V b1),(4,V b2),(7,J (Yc ((Lib.trimLeftB (Cb s).1.exp 48).take q))),(41,V b3)]/\FR w0 [] [(b3,.stringIter (bs ((Lib.trimLeftB (Cb s).1.exp 48))) (q)),(b2,.cells #[.bool ((Cb s).1.neg),.bool ((Cb s).1.low),I ((Cb s).1.whole),I ((Cb s).1.rest),I ((Cb s).1.exp)] 127),(b1,.cells #[.bool false,I [],J 0] 73)] w) _ ⟨0,O,(Nat.zero_le _),Fj,hF⟩ ?_;rintro μ σ w ⟨q,rfl,hq,hs,hF⟩;refine Cg.slots hs ?_;clear hs;intro σ;refine Ia ?_;by_cases hn0:(q)<((Lib.trimLeftB (Cb s).1.exp 48):Str).length;refine R5 0 (p:=q) (str:=(Lib.trimLeftB (Cb s).1.exp 48)) hF O O hn0 ?_;rintro w hF -;refine Ca (Qp O O) (Fa (Ha (Od O (Ma (Ga (Sa (Ia (Ca (Hr O O) (Ca (Bc O) (Fa ?_))))))))));refine Ea (Ca (Db O) ?_);have hv:=TH (s:=(Lib.trimLeftB (Cb s).1.exp 48)) (q:=q) U hall;have hb:=Uq ((Lib.trimLeftB (Cb s).1.exp 48).take q) (Gn q hall) (by rw[List.length_take];omega);refine Ja (v:=J (10*Yc ((Lib.trimLeftB (Cb s).1.exp 48).take q))) (DD O O (Qf U U U)) (Ca (Db O) ?_);refine Ja (v:=.int .i32 (((Utf8.decode (bs (Lib.trimLeftB (Cb s).1.exp 48)) q).1:Int)-48)) (U3 O O (by rw[IntKind.wrap_i32];omega)) ?_;refine Ja (v:=J (((Utf8.decode (bs (Lib.trimLeftB (Cb s).1.exp 48)) q).1:Int)-48)) (Oe mZ rZ O (Mg U U)) ?_;refine Ja (v:=J (Yc ((Lib.trimLeftB (Cb s).1.exp 48).take (q+1)))) (Lr O O (by rw[Fk _ q U,hv.1];exact Mg U U)) ?_;refine Ca (Bc O) (Ra (Ib ?_))
 rw[hv.2.1]at hF;refine Za ⟨_,?_,q+1,O,U,Fj,hF⟩;omega;refine Et 0 (p:=q) (str:=(Lib.trimLeftB (Cb s).1.exp 48)) hF O O hn0 (Ca (Qp O O) (Fa (Ha (If O ?_))));refine Zb (Vb O ?_);refine Ga ?_;have eT:(Lib.trimLeftB (Cb s).1.exp 48).take q=(Lib.trimLeftB (Cb s).1.exp 48):=List.take_of_length_le U;have hb:=Uq (Lib.trimLeftB (Cb s).1.exp 48) hall U;have hE:-1000000000<Bh s/\Bh s<1000000000:=by unfold Bh;split <;> omega
 refine Ha (Ce (λσ w=>AllEq σ [(2,V b1),(4,V b2),(7,J (Bh s))]/\FR w0 [] [(b3,.stringIter (bs ((Lib.trimLeftB (Cb s).1.exp 48))) (q)),(b2,.cells #[.bool ((Cb s).1.neg),.bool ((Cb s).1.low),I ((Cb s).1.whole),I ((Cb s).1.rest),I ((Cb s).1.exp)] 127),(b1,.cells #[.bool false,I [],J 0] 73)] w) ?_ ?_);refine Ia (Ca (Cd Nz O) (Ed (XL zQ O hF.F 1 O O) (Fa ?_)));refine Je O O (λhc4=>?_) (λhc4=>?_);have eE:Bh s = - Yc (Lib.trimLeftB (Cb s).1.exp 48):=by unfold Bh;rw[if_pos (by assumption)]
 refine Ea (Ca (Db O) ?_);refine Ja (v:=J (Bh s)) (Hz O (by rw[eT,eE];exact Qf U U U)) ?_;refine Ca (Bc O) (Ra ?_);exact Za ⟨Mk,hF⟩;have eE:Bh s=Yc (Lib.trimLeftB (Cb s).1.exp 48):=by unfold Bh;rw[if_neg (by simp_all)]
 rw[eT,<-eE];refine Ma ?_;exact Za ⟨Mk,hF⟩;rintro σ w ⟨hs,hF⟩;refine Eg.slots hs ?_;clear hs;intro σ;refine Ga (Ia (Ca (Cd Lq O) (Ed (Em dZ O hF.F 1 O O) (Ca (Cd Sn O) (Ed (Em dZ O hF.F 1 O O) (Ja (v:=I (((Cb s).1.whole)++((Cb s).1.rest))) (Zj O O U) ?_))))));refine Ta hF (Mw ((Cb s).1.whole++(Cb s).1.rest) _) (Qb YK O O O) ?_;intro w hF;refine Ca (Qd O) (Fa (Ha (Ia (Ca (Ic O) (Ca (Rx O O) (Fa ?_))))));refine Wb O O (λhc5=>?_) (λhc5=>?_);refine Ia (Ja (w':=w) (v:=.agg #[.bool false,I [],J 0]) Nc ?_);refine Hh hF jZ O O OX ?_;rintro w hF -;refine Ca (Bc O) (Fa ?_);refine Gb (Fb (Pa (Nd O (l:=[.bool false,I [],J 0]) O aZ jZ O (hF.cellsAll 2 O) (v:=J 0) O) ?_));exact⟨by rw[Df,if_neg (by simpa using hc0),if_neg U,if_neg U,if_pos hc5];rfl,hF.same⟩;refine Ma (Ga (Ia (Ca (Ic O) ?_)));refine Ta hF (Q6 (Lib.trimLeftB ((Cb s).1.whole++(Cb s).1.rest) 48) _ U) (Qb JW O O O) ?_;intro w hF;refine Ca (Qd O) (Ec (Ca (Cd E_ O) (Ed (XL zQ O hF.F 1 O O) (Ca (Ic O) (Ca (Db O) (Ca (Cd Sn O) (Ed (Em dZ O hF.F 1 O O) (Ca (Bj tZ O) (Ca (D1 O O) (Ca (Ic O) ?_))))))))));refine Ca (Bj tZ O) (Ca (Lk O O) (Ca (Ic O) (Ca (Bj tZ O) (Ca (D1 O O) ?_))));refine Ja (w':=w) (v:=.agg #[.bool ((Cb s).1.neg),I ((Lib.trimRightB (Lib.trimLeftB ((Cb s).1.whole++(Cb s).1.rest) 48) 48)),J ((((Bh s:Int)-((((Cb s).1.rest):Str).length:Int):Int)+((((Lib.trimLeftB ((Cb s).1.whole++(Cb s).1.rest) 48)):Str).length:Int):Int)-((((Lib.trimRightB (Lib.trimLeftB ((Cb s).1.whole++(Cb s).1.rest) 48) 48)):Str).length:Int))]) Nc (Vl hF yZ jZ O ?_);rintro b4 w hb4 hF -;refine Fa (Ha (Ia (Ed (Ej aZ jZ O hF.F 0 O O) ?_)));refine Ta hF (W5 (⟨(Cb s).1.neg,(Lib.trimRightB (Lib.trimLeftB ((Cb s).1.whole++(Cb s).1.rest) 48) 48),Bh s-(Cb s).1.rest.length+(Lib.trimLeftB ((Cb s).1.whole++(Cb s).1.rest) 48).length-(Lib.trimRightB (Lib.trimLeftB ((Cb s).1.whole++(Cb s).1.rest) 48) 48).length⟩) (by show (Lib.trimRightB (Lib.trimLeftB ((Cb s).1.whole++(Cb s).1.rest) 48) 48).length<=_;omega) _) (Va DN O O) ?_
 intro w hF;refine Ca (Bi O) (Fa ?_);refine Je O O (λhc6=>?_) (λhc6=>?_);refine Ia (Ja (w':=w) (v:=.agg #[.bool false,I [],J 0]) Nc ?_);refine Hh hF jZ O O KS ?_;rintro w hF -;refine Ca (Bc O) (Fa ?_);refine Gb (Fb (Pa (Nd O (l:=[.bool false,I [],J 0]) O aZ jZ O (hF.cellsAll 3 O) (v:=J 4) O) ?_));exact⟨by rw[Df,if_neg (by simpa using hc0),if_neg U,if_neg U,if_neg hc5,if_pos (by simpa using hc6)];rfl,hF.same⟩;refine Ma (Ga (Ia (Ed (Ej aZ jZ O hF.F 0 O O) ?_)));refine Hh hF jZ O O KS ?_;rintro w hF -;refine Ca (Bc O) (Fa ?_);refine Gb (Fb (Pa (Nd O (l:=[.bool ((Cb s).1.neg),I ((Lib.trimRightB (Lib.trimLeftB ((Cb s).1.whole++(Cb s).1.rest) 48) 48)),J ((((Bh s:Int)-((((Cb s).1.rest):Str).length:Int):Int)+((((Lib.trimLeftB ((Cb s).1.whole++(Cb s).1.rest) 48)):Str).length:Int):Int)-((((Lib.trimRightB (Lib.trimLeftB ((Cb s).1.whole++(Cb s).1.rest) 48) 48)):Str).length:Int))]) O aZ jZ O (hF.cellsAll 3 O) (v:=J 0) O) ?_));exact⟨by rw[Df,if_neg (by simpa using hc0),if_neg U,if_neg U,if_neg hc5,if_neg (by simpa using hc6)];rfl,hF.same⟩
def LF(n:Int):Num:=(Dd (Lib.itoa n)).1
def pI(s:Str):Int × Bool:=match Lib.parseIntB 64 s with|.ok v=>(v,true)|.range=>(Lib.intSat 64 s,false)|_=>(0,false)
def Tp(x:Num):Int × Bool :=
  if Ad x=false\/x.exp<0\/19<(x.digits.length:Int)+x.exp then (0,false) else
  let t:=x.digits++Lib.repeatL [48] x.exp.toNat
  let u:=if x.neg then 45::t else t
  if u=[] then (0,true) else if (pI u).2=false then (0,false) else ((pI u).1,true)
def Y3(e:Value)(b:Bool):Prop:=if b then ∃tp q,e=.iface tp q else e=.nilIface
theorem LH{P:Program}{ρ:Operand->Value}{w:World}{dst:Option Nat}{ty:TypeId}{pos:String}{aft:Array Edge}{g:Option (Nat × Bool)}{t t':TypeId}{x:Operand}{e:Value}{b:Bool}(ht:P.underlying t=some (.interface (P.methodsAt t)))(he:Y3 e b)(hx:ρ x=e)(hy:ρ (.const .nilIface)=.nilIface) :
    (execOp ρ ⟨dst,.binOp .neq t x (.const .nilIface) t',ty,pos,aft,g⟩).run P w=.ok (.value (.bool b)) w:=by
  unfold Y3 at he;cases b
  ·simp only[Bool.false_eq_true,if_false]at he;subst he;exact BG ht hx hy
  simp only[if_true]at he;obtain⟨tp,q,rfl⟩:=he;exact V6 ht hx hy
theorem Tx(w:World)(e:TypeId)(s:ByteArray):Same [] w (Lib.bytesWorld w e s) :=
  .of_below (Joins.below_bytesWorld _ w e s (gQ _))
theorem UB(s:Str)(hl:s.length<=140737488355328){w:World}(hG:Gl w):Calls prog 183 #[I s,J 10,J 64] w (Vd λv w'=>∃e,v=.tuple #[J (pI s).1,e]/\Y3 e (!(pI s).2)/\Same [] w w'):=by
  cases h:Lib.parseIntB 64 s with
  | ok n =>
    refine (strconv_ParseInt_10_at64_ok (bs s) (by rw[Yq];omega) n h w).mono ?_;rintro e w' ⟨rfl,hw⟩;refine⟨_,O,.nilIface,by simp[pI,h],by simp[pI,h,Y3],?_⟩;rcases hw with rfl|⟨t,rfl⟩
    ·exact Same.refl _ _
    exact Tx w 5 t
  | range =>
    obtain⟨tp,q,hv⟩:=hG.err;refine (strconv_ParseInt_10_at64_range_var (bs s) (by rw[Yq];omega) h tp q w hv).mono ?_;rintro e w' ⟨N,rfl,-,-,hb⟩;exact⟨_,O,.iface 293 (V N),by simp only[pI,h],by simp[pI,h,Y3],.of_below hb⟩
  | _ =>
    obtain⟨tp,q,hv⟩:=hG.serr;refine (Any.strconv_ParseInt_10_at64_syntax_var laysC174 (bs s) (by rw[Yq];omega) h tp q w hv).mono ?_;rintro e w' ⟨N,rfl,-,-,hb⟩;exact⟨_,O,.iface 293 (V N),(by simp[pI,h];rfl),by simp[pI,h,Y3],.of_below hb⟩
theorem HG(c:Int)(h0:0<=c)(h1:c<=19)(w:World):Calls prog 182 #[I [48],J c] w (Vd λv w'=>v=I (Lib.repeatL [48] c.toNat)/\Same [] w w'):=by
  have h:=strings_Repeat (bs [48]) c.toNat w U (by rw[Yq];simp;omega);rw[Int.toNat_of_nonneg h0]at h;exact Fv h
theorem TO(n:Int)(h1:-9223372036854775808<=n)(h2:n<=9223372036854775807)(w0:World)(hG:Gl w0):Calls prog 48 #[J n] w0 (Vd λv w'=>v=Kj (LF n)/\Same [] w0 w'):=by
 refine Ka func48 O ntmps48 Mb (Jc _) ?_;have hF:=FR.start w0 [];refine Ia (Ve (cs:=#[.bool false,I [],J 0]) hF yZ O ?_);rintro b1 w hb1 hF -;refine Ec (Ca (Db O) ?_);refine Ta hF (VA n h1 h2 (hG.ext hF.same)) (Va UJ O O) ?_;intro w hF;refine Ta hF (KF (Lib.itoa n) (by have:=Lib.itoa_length_le n h1 h2;omega) _) (Va JT O O) ?_;intro w hF;refine Ca (Tq O) (Ca (J_ O O) (Ca (Hr O O) ?_));refine Vl hF yZ jZ O ?_;rintro b2 w hb2 hF -;refine Ca (Bc O) (Ec (Ed (Ej aZ jZ O hF.F 0 O O) ?_));refine Hh hF jZ O O N4 ?_;rintro w hF -;refine Fa (Gb (Fb (Pa (Kp O (l:=[.bool ((LF n).neg),I ((LF n).digits),J ((LF n).exp)]) O aZ jZ O (hF.cellsAll 1 O)) ?_)));exact⟨O,hF.same⟩
def Gq(x:Num):Str:=if x.neg then 45::(x.digits++Lib.repeatL [48] x.exp.toNat) else x.digits++Lib.repeatL [48] x.exp.toNat
theorem Yg(x:Num):Tp x=if Ad x=false\/x.exp<0\/19<(x.digits.length:Int)+x.exp then (0,false) else if Gq x=[] then (0,true) else if (pI (Gq x)).2=false then (0,false) else ((pI (Gq x)).1,true):=rfl
theorem Ik(c:UInt8)(n:Nat):(Lib.repeatL [c] n).length=n:=by
  induction n with
  | zero=>rfl
  | succ n ih=>unfold Lib.repeatL;simp[ih];try omega
theorem NK(x:Num)(hl:x.digits.length<=140737488355328)(w0:World)(hG:Gl w0):Calls prog 139 #[Kj x] w0 (Vd λv w'=>v=.tuple #[J (Tp x).1,.bool (Tp x).2]/\Same [] w0 w'):=by
  refine Ka func139 O ntmps139 Mb (Jc _) ?_;have hF:=FR.start w0 [];refine Ha (Ea ?_);refine Xf hF O ?_;intro b1 w hb1 hF hE;refine Ca (Bc O) (Ca (Eb O) ?_);refine Ra (Ga ?_);refine Ha (Ha ?_);refine Ea (Ed (Ej aZ jZ O hF.F 0 O O) ?_);refine Ta hF (W5 x hl _) (Va DN O O) ?_;intro w hF;refine Ca (Bi O) (Ca (Xb O) ?_);refine Uc (d:=10) O (λhg0=>?_) (λhg0=>?_)
  ·
   refine Da (Da ?_);refine Da (Ca (Rb O O) ?_);refine Ca (Xb O) (Da ?_);refine Da (Da ?_);refine Da (Da ?_);refine Da (Da ?_);refine Ca (Rb O O) (Ra ?_);refine Ga (Od O ?_);refine Ha (Ea ?_);refine Ca (Bc O) (Ca (Eb O) ?_);refine Ra (Ga ?_);refine Gb (Fb (Pa (Wd (v:=J 0) (x:=.bool false) O O O) ?_));refine⟨?_,hF.same⟩
   first
   | (have hn:¬(Ad x=false\/x.exp<0\/19<(x.digits.length:Int)+x.exp):=by (refine not_or.2 ⟨by simp_all,not_or.2 ⟨by omega,by omega⟩⟩)
      rw[Yg,if_neg hn];simp_all;done)
   | (rw[Yg];simp_all;done)
  refine Ca (Cd Of O) (Ed (Jq yQ O hF.F 0 O O) ?_);refine Ca (Tg O O) (Ca (Jb O O) ?_);refine Ca (Xb O) (Xa (d:=15) O (λhg1=>?_) (λhg1=>?_))
  ·
   refine Da (Da ?_);refine Da (Da ?_);refine Da (Da ?_);refine Da (Ca (Rb O O) ?_);refine Ra (Ga ?_);refine Od O (Ha ?_);refine Ea (Ca (Bc O) ?_);refine Ca (Eb O) (Ra ?_);refine Ga (Gb (Fb (Pa (Wd (v:=J 0) (x:=.bool false) O O O) ?_)));refine⟨?_,hF.same⟩
   first
   | (have hn:¬(Ad x=false\/x.exp<0\/19<(x.digits.length:Int)+x.exp):=by (refine not_or.2 ⟨by simp_all,not_or.2 ⟨by omega,by omega⟩⟩)
      rw[Yg,if_neg hn];simp_all;done)
   | (rw[Yg];simp_all;done)
  refine Ca (Cd Ih O) (Ed (Em dZ O hF.F 0 O O) ?_);refine Ca (Bj tZ O) (Ca (Cd Of O) ?_);refine Ed (Jq yQ O hF.F 0 O O) ?_;refine Ja (v:=J ((x.digits.length:Int)+x.exp)) (Lr O O (Mg (by have:=Wc (x:=x) (by simp_all);omega) (by have:=Wc (x:=x) (by simp_all);omega))) ?_;refine Ca (Jo O O) (Ca (Jb O O) ?_);refine Ra (Ga ?_);refine Wb O O (λhc0=>?_) (λhc0=>?_)
  ·
   refine Ha (Ea ?_);refine Ca (Bc O) (Ca (Eb O) ?_);refine Ra (Ga ?_);refine Gb (Fb (Pa (Wd (v:=J 0) (x:=.bool false) O O O) ?_));refine⟨?_,hF.same⟩
   first
   | (have hn:¬(Ad x=false\/x.exp<0\/19<(x.digits.length:Int)+x.exp):=by (refine not_or.2 ⟨by simp_all,not_or.2 ⟨by omega,by omega⟩⟩)
      rw[Yg,if_neg hn];simp_all;done)
   | (rw[Yg];simp_all;done)
  refine Ma (Ga ?_);refine Ha (Te (zs:=.of []) (bQ [0,1,2,3] (.act 4 (.free 5 (.free 6 .nil)))) hF ?_);intro w hF;refine Zc O (Cd Ih O) (Cp O (Em dZ O C0 0 O O) ?_);refine Zc O (Cd Of O) (Cp O (Jq yQ O C0 0 O O) ?_);refine Wf hF (HG x.exp U U _) O (Qb OT O O O) ?_;intro w hF;refine⟨hF,?_⟩;refine Pb rfl (v:=I ((x.digits)++(Lib.repeatL [48] x.exp.toNat))) (λw hC=>Zj rfl rfl (by have:=Ik 48 x.exp.toNat;have:=Wc (x:=x) (by simp_all);first|omega|(simp only[dQ,kQ,List.length_nil];omega))) ?_;refine Zc O (Qd O) (Xd ?_);refine Ga (Ha ?_);refine Ce (λσ w=>AllEq σ [(4,I (Gq x))]/\FR w0 [] [(b1,.cells #[.bool (x.neg),I (x.digits),J (x.exp)] 73)] w) ?_ ?_
  ·
   refine Ha (Ea ?_);refine Ca (Cd Fy O) (Ed (XL zQ O hF.F 0 O O) ?_);refine Ra (Ga ?_);refine Je O O (λhc1=>?_) (λhc1=>?_)
   ·
    have eT:[45]++(x.digits++Lib.repeatL [48] x.exp.toNat)=Gq x:=by unfold Gq;rw[if_pos (by assumption)];rfl
    refine Ea (Ca (Ic O) ?_);refine Ja (v:=I (Gq x)) (by rw[<-eT];exact Zj rfl rfl (by have:=Ik 48 x.exp.toNat;have:=Wc (x:=x) (by simp_all);first|omega|(simp only[dQ,kQ,List.length_nil];omega))) ?_;refine Ca (Qd O) (Ra ?_);exact Za ⟨SI,hF⟩
   have eT:x.digits++Lib.repeatL [48] x.exp.toNat=Gq x:=by unfold Gq;rw[if_neg (by simp_all)]
   rw[eT];refine Ma ?_;exact Za ⟨SI,hF⟩
  rintro σ w ⟨hs,hF⟩;refine Eg.slots hs ?_;clear hs;intro σ;have hT:(Gq x).length<=1020:=by have:=Ik 48 x.exp.toNat;have:=Wc (x:=x) (by simp_all);unfold Gq;split <;> simp only[dQ,kQ] <;> omega
  refine Ga (Ha ?_);refine Ha (Ea ?_);refine Ca (Ic O) (Ca (Rx O O) ?_);refine Ra (Ga ?_);refine Wb O O (λhc2=>?_) (λhc2=>?_)
  ·
   refine Ha (Ea ?_);refine Ca (Bc O) (Ca (Eb O) ?_);refine Ra (Ga ?_);refine Gb (Fb (Pa (Wd (v:=J 0) (x:=.bool true) O O O) ?_));refine⟨?_,hF.same⟩
   first
   | (have hn:¬(Ad x=false\/x.exp<0\/19<(x.digits.length:Int)+x.exp):=by (refine not_or.2 ⟨by simp_all,not_or.2 ⟨by omega,by omega⟩⟩)
      rw[Yg,if_neg hn];simp_all;done)
   | (rw[Yg];simp_all;done)
  refine Ma (Ga ?_);refine Ha (Ea ?_);refine Ca (Ic O) (Kc (UB (Gq x) U (hG.ext hF.same)) (Ng FV O O O O) ?_);rintro _ w ⟨e,rfl,he,hE⟩;have hF:=hF.ext hE;refine Ca (Tq O) (Ca (Hr O O) ?_);refine Ca (yxu O O) (Ca (Bc O) ?_);refine Ca (YN) (Ra ?_);refine Ga (Ha ?_);refine Ha (Ea ?_);refine Ca (Ru) (Ja (v:=.bool (!(pI (Gq x)).2)) (LH (underlying213) he O O) ?_);refine Ra (Ga ?_);refine Je O O (λhc3=>?_) (λhc3=>?_)
  ·
   refine Ha (Ea ?_);refine Ca (Bc O) (Ca (Eb O) ?_);refine Ra (Ga ?_);refine Gb (Fb (Pa (Wd (v:=J 0) (x:=.bool false) O O O) ?_));refine⟨?_,hF.same⟩
   first
   | (have hn:¬(Ad x=false\/x.exp<0\/19<(x.digits.length:Int)+x.exp):=by (refine not_or.2 ⟨by simp_all,not_or.2 ⟨by omega,by omega⟩⟩)
      rw[Yg,if_neg hn];simp_all;done)
   | (rw[Yg];simp_all;done)
  refine Ma (Ga ?_);refine Ha (Ea ?_);refine Ca (Db O) (Ca (Bc O) ?_);refine Ca (Eb O) (Ra ?_);refine Ga (Gb (Fb (Pa (Wd (v:=J ((pI (Gq x)).1)) (x:=.bool true) O O O) ?_)));refine⟨?_,hF.same⟩
  first
  | (have hn:¬(Ad x=false\/x.exp<0\/19<(x.digits.length:Int)+x.exp):=by (refine not_or.2 ⟨by simp_all,not_or.2 ⟨by omega,by omega⟩⟩)
     rw[Yg,if_neg hn];simp_all;done)
  | (rw[Yg];simp_all;done)
end Go.Scarf
