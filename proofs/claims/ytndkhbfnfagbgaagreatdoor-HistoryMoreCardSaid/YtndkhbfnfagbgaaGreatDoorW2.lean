/- A part of the proof. -/
import Derived.Test.YtndkhbfnfagbgaaGreatDoorW1
import Derived.Lib.SmallJoins
set_option linter.all false
set_option maxHeartbeats 8000000
set_option maxRecDepth 10000
namespace Go.Scarf
open Go.RowKit Go.Proofs Go.Proofs.Tryz
theorem CL(s:Str):(Dc s).1.whole.length<=s.length/\(Dc s).1.rest.length<=s.length/\(Dc s).1.exp.length<=s.length:=by
  have h1:=Rh [101,69] (Lib.trimPrefix s [45]);have h2:=Oh s [45];have h3:=Rh [46] (Wa [101,69] (Lib.trimPrefix s [45])).1;have h4:=Oh (Wa [101,69] (Lib.trimPrefix s [45])).2.1 [45];have h5:=Oh (Lib.trimPrefix (Wa [101,69] (Lib.trimPrefix s [45])).2.1 [45]) [43];unfold Dc;simp only
  repeat' split
  all_goals (refine⟨?_,?_,?_⟩ <;> simp only[Ff,List.length_nil] <;> omega)
def X0(s:Str):Int:=if (Dc s).1.low then-Ri (Lib.trimLeftB (Dc s).1.exp 48) else Ri (Lib.trimLeftB (Dc s).1.exp 48)
theorem Yo(s:Str):Vf s=if (Dc s).2=false then (Num.zero,2) else
  if 1000<(Dc s).1.whole.length+(Dc s).1.rest.length then (Num.zero,3) else
  if 9<(Lib.trimLeftB (Dc s).1.exp 48).length then (Num.zero,4) else
  if Lib.trimLeftB ((Dc s).1.whole++(Dc s).1.rest) 48=[] then (Num.zero,0) else
  if Rg (⟨(Dc s).1.neg,Lib.trimRightB (Lib.trimLeftB ((Dc s).1.whole++(Dc s).1.rest) 48) 48,X0 s-(Dc s).1.rest.length+(Lib.trimLeftB ((Dc s).1.whole++(Dc s).1.rest) 48).length-(Lib.trimRightB (Lib.trimLeftB ((Dc s).1.whole++(Dc s).1.rest) 48) 48).length⟩)=false then (Num.zero,4) else
  (⟨(Dc s).1.neg,Lib.trimRightB (Lib.trimLeftB ((Dc s).1.whole++(Dc s).1.rest) 48) 48,X0 s-(Dc s).1.rest.length+(Lib.trimLeftB ((Dc s).1.whole++(Dc s).1.rest) 48).length-(Lib.trimRightB (Lib.trimLeftB ((Dc s).1.whole++(Dc s).1.rest) 48) 48).length⟩,0):=rfl
theorem PU{s:Str}{q:Nat}(h:q<s.length)(ha:s.all Pn=true):(Utf8.decode (bs s) q).1=s[q].toNat/\(Utf8.decode (bs s) q).2=1/\48<=s[q].toNat/\s[q].toNat<=57:=by
  have hd:=List.all_eq_true.1 ha s[q] (eQ h);have:=CE s q h hd;rw[this];unfold Pn at hd;simp only[Bool.and_eq_true,decide_eq_true_eq]at hd;exact⟨O,O,hd.1,hd.2⟩
theorem all_take{f:UInt8->Bool}{s:Str}(q:Nat)(h:s.all f=true):(s.take q).all f=true:=by
  rw[List.all_eq_true]at h ⊢;exact λx hx=>h x (List.mem_of_mem_take hx)
theorem FQ(s:Str)(hl:s.length<=140737488355328)(w0:World):Calls prog 60 #[I s] w0 (Td λv w'=>v=.tuple #[Ju (Vf s).1,J (Vf s).2]/\Same [] w0 w'):=by
 have hls:=CL s;have ht0:=Ky (Dc s).1.exp 48;have ht1:=Ky ((Dc s).1.whole++(Dc s).1.rest) 48;rw[dQ]at ht1;have ht2:=M_ (Lib.trimLeftB ((Dc s).1.whole++(Dc s).1.rest) 48) 48;refine Ga func60 O ntmps60 Fb (Ad _) ?_;have hF:=FR.start w0 [];refine Ja (Od (cs:=#[.bool false,I [],J 0]) hF qX O ?_);rintro b1 w hb1 hF -;refine Ca (Sc O) (Fc (Ca (Ug O) ?_));refine Gb hF (read_c s hl _) (Ra en_92 O O) ?_;intro w hF;refine Ca (Ro O) (Ca (N4 O O) (Ca (Fq O O) ?_));refine Kh hF zeroValue133 jZ O ?_;rintro b2 w hb2 hF -;refine Ca (Hc O) (Fc (Ca (Xb F2 O) (Yc (Wy fZ O hF.F 0 O O) ?_)));refine Gb hF (B6 (Dc s).1.exp _) (Za en_93 O O O) ?_;intro w hF;refine Ca (Qm O) (Ea (Ha (Va (Ja (Ca (Ae O) (Ca (Zj O) (Ca (Hc O) (Ea ?_))))))));refine Uf O O (λhc0=>?_) (λhc0=>?_);refine Ja (Ka (w':=w) (v:=.agg #[.bool false,I [],J 0]) Mb ?_);refine Qf hF tZ O O Yt ?_;rintro w hF -;refine Ca (Sc O) (Ea ?_);refine Cc (Bc (Sa (Me O (l:=[.bool false,I [],J 0]) O eZ tZ O (hF.cellsAll 1 O) (v:=J 2) O) ?_));exact⟨by rw[Yo,if_pos (by simpa using hc0)];rfl,hF.same⟩;refine Ja (Ca (Xb Bx O) (Yc (Wy fZ O hF.F 0 O O) (Ca (GI kX O) (Ca (Xb Vt O) (Yc (Wy fZ O hF.F 0 O O) (Ca (GI kX O) (Ca (Um O O) (Ca (QB O O) (Ca (Hc O) (Ea ?_))))))))));refine Pc O O (λhc1=>?_) (λhc1=>?_);refine Ja (Ka (w':=w) (v:=.agg #[.bool false,I [],J 0]) Mb ?_);refine Qf hF tZ O O Yt ?_;rintro w hF -;refine Ca (Sc O) (Ea ?_);refine Cc (Bc (Sa (Me O (l:=[.bool false,I [],J 0]) O eZ tZ O (hF.cellsAll 1 O) (v:=J 3) O) ?_));exact⟨by rw[Yo,if_neg (by simpa using hc0),if_pos sX];rfl,hF.same⟩;refine Ja (Ca (Ug O) (Ca (GI kX O) (Ca (QB O O) (Ca (Hc O) (Ea ?_)))));refine Pc O O (λhc2=>?_) (λhc2=>?_);refine Ja (Ka (w':=w) (v:=.agg #[.bool false,I [],J 0]) Mb ?_);refine Qf hF tZ O O Yt ?_;rintro w hF -;refine Ca (Sc O) (Ea ?_);refine Cc (Bc (Sa (Me O (l:=[.bool false,I [],J 0]) O eZ tZ O (hF.cellsAll 1 O) (v:=J 4) O) ?_))
 exact⟨by rw[Yo,if_neg (by simpa using hc0),if_neg sX,if_pos sX];rfl,hF.same⟩;refine Ta (Ib (Ia (Ja (Ca (Sc O) (Ea (Ha (Ja (Ca (Ug O) ?_))))))));refine O0 (str:=(Lib.trimLeftB (Dc s).1.exp 48)) hF kX O ?_;rintro b3 w hb3 hF -;refine Ea (Va ?_);have hall:(Lib.trimLeftB (Dc s).1.exp 48).all Pn=true:=Sy (GU (by simp_all));refine Rc (λμ σ w=>∃(q:Nat),μ=(Lib.trimLeftB (Dc s).1.exp 48).length-q/\(q<=(Lib.trimLeftB (Dc s).1.exp 48).length)/\AllEq σ [(2,V b1),(4,V b2),(7,J (Ri ((Lib.trimLeftB (Dc s).1.exp 48).take q))),(41,V b3)]/\FR w0 [] [(b3,.stringIter (bs ((Lib.trimLeftB (Dc s).1.exp 48))) (q)),(b2,.cells #[.bool ((Dc s).1.neg),.bool ((Dc s).1.low),I ((Dc s).1.whole),I ((Dc s).1.rest),I ((Dc s).1.exp)] 133),(b1,.cells #[.bool false,I [],J 0] 77)] w) _ ⟨0,O,(Nat.zero_le _),Tq,hF⟩ ?_;rintro μ σ w ⟨q,rfl,hq,hs,hF⟩;refine Cg.slots hs ?_;clear hs;intro σ;refine Ja ?_;by_cases hn0:(q)<((Lib.trimLeftB (Dc s).1.exp 48):Str).length;refine X6 0 (p:=q) (str:=(Lib.trimLeftB (Dc s).1.exp 48)) hF O O hn0 ?_;rintro w hF -;refine Ca (Fq O O) (Ea (Ha (Ge O (Ta (Ia (Va (Ja (Ca (Rs O O) (Ca (Sc O) (Ea ?_))))))))));refine Fa (Ca (Kb O) ?_);have hv:=PU (s:=(Lib.trimLeftB (Dc s).1.exp 48)) (q:=q) sX hall;have hb:=YA ((Lib.trimLeftB (Dc s).1.exp 48).take q) (all_take q hall) (by rw[List.length_take];omega);refine Ka (v:=J (10*Ri ((Lib.trimLeftB (Dc s).1.exp 48).take q))) (JK O O (Ul sX sX sX)) (Ca (Kb O) ?_);refine Ka (v:=.int .i32 (((Utf8.decode (bs (Lib.trimLeftB (Dc s).1.exp 48)) q).1:Int)-48)) (S5 O O (by rw[IntKind.wrap_i32];omega)) ?_;refine Ka (v:=J (((Utf8.decode (bs (Lib.trimLeftB (Dc s).1.exp 48)) q).1:Int)-48)) (Si underlying21 iX O (Es sX sX)) ?_;refine Ka (v:=J (Ri ((Lib.trimLeftB (Dc s).1.exp 48).take (q+1)))) (C6 O O (by rw[L5 _ q sX,hv.1];exact Es sX sX)) ?_;refine Ca (Sc O) (Db (Ib ?_))
 rw[hv.2.1]at hF;refine Yb ⟨_,?_,q+1,O,sX,Tq,hF⟩;omega;refine Yu 0 (p:=q) (str:=(Lib.trimLeftB (Dc s).1.exp 48)) hF O O hn0 (Ca (Fq O O) (Ea (Ha (Kg O ?_))));refine Nc (Kc O ?_);refine Ia ?_;have eT:(Lib.trimLeftB (Dc s).1.exp 48).take q=(Lib.trimLeftB (Dc s).1.exp 48):=List.take_of_length_le sX;have hb:=YA (Lib.trimLeftB (Dc s).1.exp 48) hall sX;have hE:-1000000000<X0 s/\X0 s<1000000000:=by unfold X0;split <;> omega
 refine Ha (Jl (λσ w=>AllEq σ [(2,V b1),(4,V b2),(7,J (X0 s))]/\FR w0 [] [(b3,.stringIter (bs ((Lib.trimLeftB (Dc s).1.exp 48))) (q)),(b2,.cells #[.bool ((Dc s).1.neg),.bool ((Dc s).1.low),I ((Dc s).1.whole),I ((Dc s).1.rest),I ((Dc s).1.exp)] 133),(b1,.cells #[.bool false,I [],J 0] 77)] w) ?_ ?_);refine Ja (Ca (Xb V9 O) (Yc (AL cZ O hF.F 1 O O) (Ea ?_)));refine Uf O O (λhc4=>?_) (λhc4=>?_);have eE:X0 s = - Ri (Lib.trimLeftB (Dc s).1.exp 48):=by unfold X0;rw[if_pos (by assumption)]
 refine Fa (Ca (Kb O) ?_);refine Ka (v:=J (X0 s)) (x_neg O (by rw[eT,eE];exact Ul sX sX sX)) ?_;refine Ca (Sc O) (Db ?_);exact Yb ⟨I7,hF⟩;have eE:X0 s=Ri (Lib.trimLeftB (Dc s).1.exp 48):=by unfold X0;rw[if_neg (by simp_all)]
 rw[eT,<-eE];refine Ta ?_;exact Yb ⟨I7,hF⟩;rintro σ w ⟨hs,hF⟩;refine Eg.slots hs ?_;clear hs;intro σ;refine Ia (Ja (Ca (Xb Bx O) (Yc (Wy fZ O hF.F 1 O O) (Ca (Xb Vt O) (Yc (Wy fZ O hF.F 1 O O) (Ka (v:=I (((Dc s).1.whole)++((Dc s).1.rest))) (Zs O O sX) ?_))))));refine Gb hF (B6 ((Dc s).1.whole++(Dc s).1.rest) _) (Za en_93 O O O) ?_;intro w hF;refine Ca (Qm O) (Ea (Ha (Ja (Ca (Ug O) (Ca (XK O O) (Ea ?_))))));refine Pc O O (λhc5=>?_) (λhc5=>?_);refine Ja (Ka (w':=w) (v:=.agg #[.bool false,I [],J 0]) Mb ?_);refine Qf hF tZ O O CA ?_;rintro w hF -;refine Ca (Sc O) (Ea ?_);refine Cc (Bc (Sa (Me O (l:=[.bool false,I [],J 0]) O eZ tZ O (hF.cellsAll 2 O) (v:=J 0) O) ?_));exact⟨by rw[Yo,if_neg (by simpa using hc0),if_neg sX,if_neg sX,if_pos hc5];rfl,hF.same⟩;refine Ta (Ia (Ja (Ca (Ug O) ?_)));refine Gb hF (ZD (Lib.trimLeftB ((Dc s).1.whole++(Dc s).1.rest) 48) _ sX) (Za en_94 O O O) ?_;intro w hF;refine Ca (Qm O) (Fc (Ca (Xb OG O) (Yc (AL cZ O hF.F 1 O O) (Ca (Ug O) (Ca (Kb O) (Ca (Xb Vt O) (Yc (Wy fZ O hF.F 1 O O) (Ca (GI kX O) (Ca (Hy O O) (Ca (Ug O) ?_))))))))));refine Ca (GI kX O) (Ca (Um O O) (Ca (Ug O) (Ca (GI kX O) (Ca (Hy O O) ?_))));refine Ka (w':=w) (v:=.agg #[.bool ((Dc s).1.neg),I ((Lib.trimRightB (Lib.trimLeftB ((Dc s).1.whole++(Dc s).1.rest) 48) 48)),J ((((X0 s:Int)-((((Dc s).1.rest):Str).length:Int):Int)+((((Lib.trimLeftB ((Dc s).1.whole++(Dc s).1.rest) 48)):Str).length:Int):Int)-((((Lib.trimRightB (Lib.trimLeftB ((Dc s).1.whole++(Dc s).1.rest) 48) 48)):Str).length:Int))]) Mb (Kh hF qX tZ O ?_);rintro b4 w hb4 hF -;refine Ea (Ha (Ja (Yc (Ch eZ tZ O hF.F 0 O O) ?_)));refine Gb hF (PF (⟨(Dc s).1.neg,(Lib.trimRightB (Lib.trimLeftB ((Dc s).1.whole++(Dc s).1.rest) 48) 48),X0 s-(Dc s).1.rest.length+(Lib.trimLeftB ((Dc s).1.whole++(Dc s).1.rest) 48).length-(Lib.trimRightB (Lib.trimLeftB ((Dc s).1.whole++(Dc s).1.rest) 48) 48).length⟩) (by show (Lib.trimRightB (Lib.trimLeftB ((Dc s).1.whole++(Dc s).1.rest) 48) 48).length<=_;omega) _) (Ra ZZ O O) ?_
 intro w hF;refine Ca (Zj O) (Ea ?_);refine Uf O O (λhc6=>?_) (λhc6=>?_);refine Ja (Ka (w':=w) (v:=.agg #[.bool false,I [],J 0]) Mb ?_);refine Qf hF tZ O O YK ?_;rintro w hF -;refine Ca (Sc O) (Ea ?_);refine Cc (Bc (Sa (Me O (l:=[.bool false,I [],J 0]) O eZ tZ O (hF.cellsAll 3 O) (v:=J 4) O) ?_));exact⟨by rw[Yo,if_neg (by simpa using hc0),if_neg sX,if_neg sX,if_neg hc5,if_pos (by simpa using hc6)];rfl,hF.same⟩;refine Ta (Ia (Ja (Yc (Ch eZ tZ O hF.F 0 O O) ?_)));refine Qf hF tZ O O YK ?_;rintro w hF -;refine Ca (Sc O) (Ea ?_);refine Cc (Bc (Sa (Me O (l:=[.bool ((Dc s).1.neg),I ((Lib.trimRightB (Lib.trimLeftB ((Dc s).1.whole++(Dc s).1.rest) 48) 48)),J ((((X0 s:Int)-((((Dc s).1.rest):Str).length:Int):Int)+((((Lib.trimLeftB ((Dc s).1.whole++(Dc s).1.rest) 48)):Str).length:Int):Int)-((((Lib.trimRightB (Lib.trimLeftB ((Dc s).1.whole++(Dc s).1.rest) 48) 48)):Str).length:Int))]) O eZ tZ O (hF.cellsAll 3 O) (v:=J 0) O) ?_));exact⟨by rw[Yo,if_neg (by simpa using hc0),if_neg sX,if_neg sX,if_neg hc5,if_neg (by simpa using hc6)];rfl,hF.same⟩
def IG(n:Int):Num:=(Vf (Lib.itoa n)).1
def pI(s:Str):Int × Bool:=match Lib.parseIntB 64 s with|.ok v=>(v,true)|.range=>(Lib.intSat 64 s,false)|_=>(0,false)
def VH(x:Num):Int × Bool :=
  if Rg x=false\/x.exp<0\/19<(x.digits.length:Int)+x.exp then (0,false) else
  let t:=x.digits++Lib.repeatL [48] x.exp.toNat
  let u:=if x.neg then 45::t else t
  if u=[] then (0,true) else if (pI u).2=false then (0,false) else ((pI u).1,true)
def PC(e:Value)(b:Bool):Prop:=if b then ∃tp q,e=.iface tp q else e=.nilIface
theorem BU{P:Program}{ρ:Operand->Value}{w:World}{dst:Option Nat}{ty:TypeId}{pos:String}{aft:Array Edge}{g:Option (Nat × Bool)}{t t':TypeId}{x:Operand}{e:Value}{b:Bool}(ht:P.underlying t=some (.interface (P.methodsAt t)))(he:PC e b)(hx:ρ x=e)(hy:ρ (.const .nilIface)=.nilIface) :
    (execOp ρ ⟨dst,.binOp .neq t x (.const .nilIface) t',ty,pos,aft,g⟩).run P w=.ok (.value (.bool b)) w:=by
  unfold PC at he;cases b
  ·simp only[Bool.false_eq_true,if_false]at he;subst he;exact FV ht hx hy
  simp only[if_true]at he;obtain⟨tp,q,rfl⟩:=he;exact SI ht hx hy
theorem J6(w:World)(e:TypeId)(s:ByteArray):Same [] w (Lib.bytesWorld w e s) :=
  .of_below (Joins.below_bytesWorld _ w e s (gQ _))
theorem RO(s:Str)(hl:s.length<=140737488355328){w:World}(hG:Gl w):Calls prog 170 #[I s,J 10,J 64] w (Td λv w'=>∃e,v=.tuple #[J (pI s).1,e]/\PC e (!(pI s).2)/\Same [] w w'):=by
  cases h:Lib.parseIntB 64 s with
  | ok n =>
    refine (strconv_ParseInt_10_at64_ok (bs s) (by rw[Bs];omega) n h w).mono ?_;rintro e w' ⟨rfl,hw⟩;refine⟨_,O,.nilIface,by simp[pI,h],by simp[pI,h,PC],?_⟩;rcases hw with rfl|⟨t,rfl⟩
    ·exact Same.refl _ _
    exact J6 w 5 t
  | range =>
    obtain⟨tp,q,hv⟩:=hG.err;refine (strconv_ParseInt_10_at64_range_var (bs s) (by rw[Bs];omega) h tp q w hv).mono ?_;rintro e w' ⟨N,rfl,-,-,hb⟩;exact⟨_,O,.iface 291 (V N),by simp only[pI,h],by simp[pI,h,PC],.of_below hb⟩
  | _ =>
    obtain⟨tp,q,hv⟩:=hG.serr;refine (Any.strconv_ParseInt_10_at64_syntax_var laysC174 (bs s) (by rw[Bs];omega) h tp q w hv).mono ?_;rintro e w' ⟨N,rfl,-,-,hb⟩;exact⟨_,O,.iface 291 (V N),(by simp[pI,h];rfl),by simp[pI,h,PC],.of_below hb⟩
theorem AB(c:Int)(h0:0<=c)(h1:c<=19)(w:World):Calls prog 169 #[I [48],J c] w (Td λv w'=>v=I (Lib.repeatL [48] c.toNat)/\Same [] w w'):=by
  have h:=strings_Repeat (bs [48]) c.toNat w sX (by rw[Bs];simp;omega);rw[Int.toNat_of_nonneg h0]at h;exact Sx h
theorem numOf_c(n:Int)(h1:-9223372036854775808<=n)(h2:n<=9223372036854775807)(w0:World)(hG:Gl w0):Calls prog 35 #[J n] w0 (Td λv w'=>v=Ju (IG n)/\Same [] w0 w'):=by
 refine Ga func35 O ntmps35 Fb (Ad _) ?_;have hF:=FR.start w0 [];refine Ja (Od (cs:=#[.bool false,I [],J 0]) hF qX O ?_);rintro b1 w hb1 hF -;refine Fc (Ca (Kb O) ?_);refine Gb hF (Xz n h1 h2 (hG.ext hF.same)) (Ra P7 O O) ?_;intro w hF;refine Gb hF (FQ (Lib.itoa n) (by have:=Lib.itoa_length_le n h1 h2;omega) _) (Ra en_60 O O) ?_;intro w hF;refine Ca (Ro O) (Ca (N4 O O) (Ca (Rs O O) ?_));refine Kh hF qX tZ O ?_;rintro b2 w hb2 hF -;refine Ca (Sc O) (Fc (Yc (Ch eZ tZ O hF.F 0 O O) ?_));refine Qf hF tZ O O Yt ?_;rintro w hF -;refine Ea (Cc (Bc (Sa (Ig O (l:=[.bool ((IG n).neg),I ((IG n).digits),J ((IG n).exp)]) O eZ tZ O (hF.cellsAll 1 O)) ?_)));exact⟨O,hF.same⟩
def Z1(x:Num):Str:=if x.neg then 45::(x.digits++Lib.repeatL [48] x.exp.toNat) else x.digits++Lib.repeatL [48] x.exp.toNat
theorem Pm(x:Num):VH x=if Rg x=false\/x.exp<0\/19<(x.digits.length:Int)+x.exp then (0,false) else if Z1 x=[] then (0,true) else if (pI (Z1 x)).2=false then (0,false) else ((pI (Z1 x)).1,true):=rfl
theorem Ow(c:UInt8)(n:Nat):(Lib.repeatL [c] n).length=n:=by
  induction n with
  | zero=>rfl
  | succ n ih=>unfold Lib.repeatL;simp[ih];try omega
theorem QW(x:Num)(hl:x.digits.length<=140737488355328)(w0:World)(hG:Gl w0):Calls prog 129 #[Ju x] w0 (Td λv w'=>v=.tuple #[J (VH x).1,.bool (VH x).2]/\Same [] w0 w'):=by
  refine Ga func129 O ntmps129 Fb (Ad _) ?_;have hF:=FR.start w0 [];refine Ha (Fa ?_);refine Ve hF O ?_;intro b1 w hb1 hF hE;refine Ca (Sc O) (Ca (Hc O) ?_);refine Db (Ia ?_);refine Ha (Ha ?_);refine Fa (Yc (Ch eZ tZ O hF.F 0 O O) ?_);refine Gb hF (PF x hl _) (Ra ZZ O O) ?_;intro w hF;refine Ca (Zj O) (Ca (Ae O) ?_);refine Oe (d:=10) O (λhg0=>?_) (λhg0=>?_)
  ·
   refine Oa (Oa ?_);refine Oa (Ca (Nd O O) ?_);refine Ca (Ae O) (Oa ?_);refine Oa (Oa ?_);refine Oa (Oa ?_);refine Oa (Oa ?_);refine Ca (Nd O O) (Db ?_);refine Ia (Ge O ?_);refine Ha (Fa ?_);refine Ca (Sc O) (Ca (Hc O) ?_);refine Db (Ia ?_);refine Cc (Bc (Sa (Bg (v:=J 0) (x:=.bool false) O O O) ?_));refine⟨?_,hF.same⟩
   first
   | (have hn:¬(Rg x=false\/x.exp<0\/19<(x.digits.length:Int)+x.exp):=by (refine not_or.2 ⟨by simp_all,not_or.2 ⟨by omega,by omega⟩⟩)
      rw[Pm,if_neg hn];simp_all;done)
   | (rw[Pm];simp_all;done)
  refine Ca (Xb Bq O) (Yc (Xs bZ O hF.F 0 O O) ?_);refine Ca (Kl O O) (Ca (Md O O) ?_);refine Ca (Ae O) (Dd (d:=15) O (λhg1=>?_) (λhg1=>?_))
  ·
   refine Oa (Oa ?_);refine Oa (Oa ?_);refine Oa (Oa ?_);refine Oa (Ca (Nd O O) ?_);refine Db (Ia ?_);refine Ge O (Ha ?_);refine Fa (Ca (Sc O) ?_);refine Ca (Hc O) (Db ?_);refine Ia (Cc (Bc (Sa (Bg (v:=J 0) (x:=.bool false) O O O) ?_)));refine⟨?_,hF.same⟩
   first
   | (have hn:¬(Rg x=false\/x.exp<0\/19<(x.digits.length:Int)+x.exp):=by (refine not_or.2 ⟨by simp_all,not_or.2 ⟨by omega,by omega⟩⟩)
      rw[Pm,if_neg hn];simp_all;done)
   | (rw[Pm];simp_all;done)
  refine Ca (Xb M0 O) (Yc (Wy fZ O hF.F 0 O O) ?_);refine Ca (GI kX O) (Ca (Xb Bq O) ?_);refine Yc (Xs bZ O hF.F 0 O O) ?_;refine Ka (v:=J ((x.digits.length:Int)+x.exp)) (C6 O O (Es (by have:=Se (x:=x) (by simp_all);omega) (by have:=Se (x:=x) (by simp_all);omega))) ?_;refine Ca (QB O O) (Ca (Md O O) ?_);refine Db (Ia ?_);refine Pc O O (λhc0=>?_) (λhc0=>?_)
  ·
   refine Ha (Fa ?_);refine Ca (Sc O) (Ca (Hc O) ?_);refine Db (Ia ?_);refine Cc (Bc (Sa (Bg (v:=J 0) (x:=.bool false) O O O) ?_));refine⟨?_,hF.same⟩
   first
   | (have hn:¬(Rg x=false\/x.exp<0\/19<(x.digits.length:Int)+x.exp):=by (refine not_or.2 ⟨by simp_all,not_or.2 ⟨by omega,by omega⟩⟩)
      rw[Pm,if_neg hn];simp_all;done)
   | (rw[Pm];simp_all;done)
  refine Ta (Ia ?_);refine Ha (If (zs:=.of []) (bQ [0,1,2,3] (.act 4 (.free 5 (.free 6 .nil)))) hF ?_);intro w hF;refine Hb O (Xb M0 O) (Hl O (Wy fZ O C0 0 O O) ?_);refine Hb O (Xb Bq O) (Hl O (Xs bZ O C0 0 O O) ?_);refine Eh hF (AB x.exp sX sX _) O (Za GP O O O) ?_;intro w hF;refine⟨hF,?_⟩;refine Qa rfl (v:=I ((x.digits)++(Lib.repeatL [48] x.exp.toNat))) (λw hC=>Zs rfl rfl (by have:=Ow 48 x.exp.toNat;have:=Se (x:=x) (by simp_all);first|omega|(simp only[dQ,kQ,List.length_nil];omega))) ?_;refine Hb O (Qm O) (Ec ?_);refine Ia (Ha ?_);refine Jl (λσ w=>AllEq σ [(4,I (Z1 x))]/\FR w0 [] [(b1,.cells #[.bool (x.neg),I (x.digits),J (x.exp)] 77)] w) ?_ ?_
  ·
   refine Ha (Fa ?_);refine Ca (Xb VP O) (Yc (AL cZ O hF.F 0 O O) ?_);refine Db (Ia ?_);refine Uf O O (λhc1=>?_) (λhc1=>?_)
   ·
    have eT:[45]++(x.digits++Lib.repeatL [48] x.exp.toNat)=Z1 x:=by unfold Z1;rw[if_pos (by assumption)];rfl
    refine Fa (Ca (Ug O) ?_);refine Ka (v:=I (Z1 x)) (by rw[<-eT];exact Zs rfl rfl (by have:=Ow 48 x.exp.toNat;have:=Se (x:=x) (by simp_all);first|omega|(simp only[dQ,kQ,List.length_nil];omega))) ?_;refine Ca (Qm O) (Db ?_);exact Yb ⟨ae1,hF⟩
   have eT:x.digits++Lib.repeatL [48] x.exp.toNat=Z1 x:=by unfold Z1;rw[if_neg (by simp_all)]
   rw[eT];refine Ta ?_;exact Yb ⟨ae1,hF⟩
  rintro σ w ⟨hs,hF⟩;refine Eg.slots hs ?_;clear hs;intro σ;have hT:(Z1 x).length<=1020:=by have:=Ow 48 x.exp.toNat;have:=Se (x:=x) (by simp_all);unfold Z1;split <;> simp only[dQ,kQ] <;> omega
  refine Ia (Ha ?_);refine Ha (Fa ?_);refine Ca (Ug O) (Ca (XK O O) ?_);refine Db (Ia ?_);refine Pc O O (λhc2=>?_) (λhc2=>?_)
  ·
   refine Ha (Fa ?_);refine Ca (Sc O) (Ca (Hc O) ?_);refine Db (Ia ?_);refine Cc (Bc (Sa (Bg (v:=J 0) (x:=.bool true) O O O) ?_));refine⟨?_,hF.same⟩
   first
   | (have hn:¬(Rg x=false\/x.exp<0\/19<(x.digits.length:Int)+x.exp):=by (refine not_or.2 ⟨by simp_all,not_or.2 ⟨by omega,by omega⟩⟩)
      rw[Pm,if_neg hn];simp_all;done)
   | (rw[Pm];simp_all;done)
  refine Ta (Ia ?_);refine Ha (Fa ?_);refine Ca (Ug O) (Cb (RO (Z1 x) sX (hG.ext hF.same)) (Ic en_170 O O O O) ?_);rintro _ w ⟨e,rfl,he,hE⟩;have hF:=hF.ext hE;refine Ca (Ro O) (Ca (Rs O O) ?_);refine Ca (yxu O O) (Ca (Sc O) ?_);refine Ca (Ry) (Db ?_);refine Ia (Ha ?_);refine Ha (Fa ?_);refine Ca (Mr) (Ka (v:=.bool (!(pI (Z1 x)).2)) (BU (underlying229) he O O) ?_);refine Db (Ia ?_);refine Uf O O (λhc3=>?_) (λhc3=>?_)
  ·
   refine Ha (Fa ?_);refine Ca (Sc O) (Ca (Hc O) ?_);refine Db (Ia ?_);refine Cc (Bc (Sa (Bg (v:=J 0) (x:=.bool false) O O O) ?_));refine⟨?_,hF.same⟩
   first
   | (have hn:¬(Rg x=false\/x.exp<0\/19<(x.digits.length:Int)+x.exp):=by (refine not_or.2 ⟨by simp_all,not_or.2 ⟨by omega,by omega⟩⟩)
      rw[Pm,if_neg hn];simp_all;done)
   | (rw[Pm];simp_all;done)
  refine Ta (Ia ?_);refine Ha (Fa ?_);refine Ca (Kb O) (Ca (Sc O) ?_);refine Ca (Hc O) (Db ?_);refine Ia (Cc (Bc (Sa (Bg (v:=J ((pI (Z1 x)).1)) (x:=.bool true) O O O) ?_)));refine⟨?_,hF.same⟩
  first
  | (have hn:¬(Rg x=false\/x.exp<0\/19<(x.digits.length:Int)+x.exp):=by (refine not_or.2 ⟨by simp_all,not_or.2 ⟨by omega,by omega⟩⟩)
     rw[Pm,if_neg hn];simp_all;done)
  | (rw[Pm];simp_all;done)
end Go.Scarf
