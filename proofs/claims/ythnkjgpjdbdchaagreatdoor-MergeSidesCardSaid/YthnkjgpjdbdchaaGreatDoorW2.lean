/- A part of the proof. -/
import Derived.Test.YthnkjgpjdbdchaaGreatDoorW1
import Derived.Lib.SmallJoins
set_option linter.all false
set_option maxHeartbeats 8000000
set_option maxRecDepth 10000
namespace Go.Scarf
open Go.RowKit Go.Proofs Go.Proofs.Tryz
theorem FM(s:Str):(Ec s).1.whole.length<=s.length/\(Ec s).1.rest.length<=s.length/\(Ec s).1.exp.length<=s.length:=by
  have h1:=Gi [101,69] (Lib.trimPrefix s [45]);have h2:=Fi s [45];have h3:=Gi [46] (Xa [101,69] (Lib.trimPrefix s [45])).1;have h4:=Fi (Xa [101,69] (Lib.trimPrefix s [45])).2.1 [45];have h5:=Fi (Lib.trimPrefix (Xa [101,69] (Lib.trimPrefix s [45])).2.1 [45]) [43];unfold Ec;simp only
  repeat' split
  all_goals (refine⟨?_,?_,?_⟩ <;> simp only[Qf,List.length_nil] <;> omega)
def G1(s:Str):Int:=if (Ec s).1.low then-Zi (Lib.trimLeftB (Ec s).1.exp 48) else Zi (Lib.trimLeftB (Ec s).1.exp 48)
theorem Wo(s:Str):Ef s=if (Ec s).2=false then (Num.zero,2) else
  if 1000<(Ec s).1.whole.length+(Ec s).1.rest.length then (Num.zero,3) else
  if 9<(Lib.trimLeftB (Ec s).1.exp 48).length then (Num.zero,4) else
  if Lib.trimLeftB ((Ec s).1.whole++(Ec s).1.rest) 48=[] then (Num.zero,0) else
  if Dh (⟨(Ec s).1.neg,Lib.trimRightB (Lib.trimLeftB ((Ec s).1.whole++(Ec s).1.rest) 48) 48,G1 s-(Ec s).1.rest.length+(Lib.trimLeftB ((Ec s).1.whole++(Ec s).1.rest) 48).length-(Lib.trimRightB (Lib.trimLeftB ((Ec s).1.whole++(Ec s).1.rest) 48) 48).length⟩)=false then (Num.zero,4) else
  (⟨(Ec s).1.neg,Lib.trimRightB (Lib.trimLeftB ((Ec s).1.whole++(Ec s).1.rest) 48) 48,G1 s-(Ec s).1.rest.length+(Lib.trimLeftB ((Ec s).1.whole++(Ec s).1.rest) 48).length-(Lib.trimRightB (Lib.trimLeftB ((Ec s).1.whole++(Ec s).1.rest) 48) 48).length⟩,0):=rfl
theorem NT{s:Str}{q:Nat}(h:q<s.length)(ha:s.all So=true):(Utf8.decode (bs s) q).1=s[q].toNat/\(Utf8.decode (bs s) q).2=1/\48<=s[q].toNat/\s[q].toNat<=57:=by
  have hd:=List.all_eq_true.1 ha s[q] (eQ h);have:=YF s q h hd;rw[this];unfold So at hd;simp only[Bool.and_eq_true,decide_eq_true_eq]at hd;exact⟨O,O,hd.1,hd.2⟩
theorem EY{f:UInt8->Bool}{s:Str}(q:Nat)(h:s.all f=true):(s.take q).all f=true:=by
  rw[List.all_eq_true]at h ⊢;exact λx hx=>h x (List.mem_of_mem_take hx)
theorem EG(s:Str)(hl:s.length<=140737488355328)(w0:World):Calls prog 77 #[I s] w0 (Wd λv w'=>v=.tuple #[Kv (Ef s).1,J (Ef s).2]/\Same [] w0 w'):=by
 have hls:=FM s;have ht0:=Ry (Ec s).1.exp 48;have ht1:=Ry ((Ec s).1.whole++(Ec s).1.rest) 48;rw[dQ]at ht1;have ht2:=S_ (Lib.trimLeftB ((Ec s).1.whole++(Ec s).1.rest) 48) 48;refine Fa func77 O ntmps77 Ib (Zc _) ?_;have hF:=FR.start w0 [];refine Ha (Md (cs:=#[.bool false,I [],J 0]) hF qX O ?_);rintro b1 w hb1 hF -;refine Ca (Uc O) (Jc (Ca (Hh O) ?_));refine Hb hF (read_c s hl _) (Ra en_102 O O) ?_;intro w hF;refine Ca (Bo O) (Ca (Py O O) (Ca (Ar O O) ?_));refine Kh hF zeroValue130 jZ O ?_;rintro b2 w hb2 hF -;refine Ca (Ic O) (Jc (Ca (Zb Y0 O) (Rc (Iy fZ O hF.F 0 O O) ?_)));refine Hb hF (O5 (Ec s).1.exp _) (Ya BY O O O) ?_;intro w hF;refine Ca (Dn O) (Ea (Ja (Za (Ha (Ca (Fe O) (Ca (Jm O) (Ca (Ic O) (Ea ?_))))))));refine Ng O O (λhc0=>?_) (λhc0=>?_);refine Ha (Ka (w':=w) (v:=.agg #[.bool false,I [],J 0]) Mb ?_);refine If hF tZ O O Ct ?_;rintro w hF -;refine Ca (Uc O) (Ea ?_);refine Cc (Bc (Ua (Ee O (l:=[.bool false,I [],J 0]) O eZ tZ O (hF.cellsAll 1 O) (v:=J 2) O) ?_));exact⟨by rw[Wo,if_pos (by simpa using hc0)];rfl,hF.same⟩;refine Ha (Ca (Zb Mw O) (Rc (Iy fZ O hF.F 0 O O) (Ca (WG kX O) (Ca (Zb Ot O) (Rc (Iy fZ O hF.F 0 O O) (Ca (WG kX O) (Ca (Bm O O) (Ca (AB O O) (Ca (Ic O) (Ea ?_))))))))));refine Nc O O (λhc1=>?_) (λhc1=>?_);refine Ha (Ka (w':=w) (v:=.agg #[.bool false,I [],J 0]) Mb ?_);refine If hF tZ O O Ct ?_;rintro w hF -;refine Ca (Uc O) (Ea ?_);refine Cc (Bc (Ua (Ee O (l:=[.bool false,I [],J 0]) O eZ tZ O (hF.cellsAll 1 O) (v:=J 3) O) ?_));exact⟨by rw[Wo,if_neg (by simpa using hc0),if_pos sX];rfl,hF.same⟩;refine Ha (Ca (Hh O) (Ca (WG kX O) (Ca (AB O O) (Ca (Ic O) (Ea ?_)))));refine Nc O O (λhc2=>?_) (λhc2=>?_);refine Ha (Ka (w':=w) (v:=.agg #[.bool false,I [],J 0]) Mb ?_);refine If hF tZ O O Ct ?_;rintro w hF -;refine Ca (Uc O) (Ea ?_);refine Cc (Bc (Ua (Ee O (l:=[.bool false,I [],J 0]) O eZ tZ O (hF.cellsAll 1 O) (v:=J 4) O) ?_))
 exact⟨by rw[Wo,if_neg (by simpa using hc0),if_neg sX,if_pos sX];rfl,hF.same⟩;refine Wa (Eb (Ia (Ha (Ca (Uc O) (Ea (Ja (Ha (Ca (Hh O) ?_))))))));refine J0 (str:=(Lib.trimLeftB (Ec s).1.exp 48)) hF kX O ?_;rintro b3 w hb3 hF -;refine Ea (Za ?_);have hall:(Lib.trimLeftB (Ec s).1.exp 48).all So=true:=Zy (TS (by simp_all));refine Ad (λμ σ w=>∃(q:Nat),μ=(Lib.trimLeftB (Ec s).1.exp 48).length-q/\(q<=(Lib.trimLeftB (Ec s).1.exp 48).length)/\AllEq σ [(2,V b1),(4,V b2),(7,J (Zi ((Lib.trimLeftB (Ec s).1.exp 48).take q))),(41,V b3)]/\FR w0 [] [(b3,.stringIter (bs ((Lib.trimLeftB (Ec s).1.exp 48))) (q)),(b2,.cells #[.bool ((Ec s).1.neg),.bool ((Ec s).1.low),I ((Ec s).1.whole),I ((Ec s).1.rest),I ((Ec s).1.exp)] 130),(b1,.cells #[.bool false,I [],J 0] 75)] w) _ ⟨0,O,(Nat.zero_le _),Eu,hF⟩ ?_;rintro μ σ w ⟨q,rfl,hq,hs,hF⟩;refine Cg.slots hs ?_;clear hs;intro σ;refine Ha ?_;by_cases hn0:(q)<((Lib.trimLeftB (Ec s).1.exp 48):Str).length;refine D7 0 (p:=q) (str:=(Lib.trimLeftB (Ec s).1.exp 48)) hF O O hn0 ?_;rintro w hF -;refine Ca (Ar O O) (Ea (Ja (Le O (Wa (Ia (Za (Ha (Ca (Fv O O) (Ca (Uc O) (Ea ?_))))))))));refine Ga (Ca (Qb O) ?_);have hv:=NT (s:=(Lib.trimLeftB (Ec s).1.exp 48)) (q:=q) sX hall;have hb:=KD ((Lib.trimLeftB (Ec s).1.exp 48).take q) (EY q hall) (by rw[List.length_take];omega);refine Ka (v:=J (10*Zi ((Lib.trimLeftB (Ec s).1.exp 48).take q))) (SH O O (Cl sX sX sX)) (Ca (Qb O) ?_);refine Ka (v:=.int .i32 (((Utf8.decode (bs (Lib.trimLeftB (Ec s).1.exp 48)) q).1:Int)-48)) (Y5 O O (by rw[IntKind.wrap_i32];omega)) ?_;refine Ka (v:=J (((Utf8.decode (bs (Lib.trimLeftB (Ec s).1.exp 48)) q).1:Int)-48)) (Ej underlying21 fX O (Ss sX sX)) ?_;refine Ka (v:=J (Zi ((Lib.trimLeftB (Ec s).1.exp 48).take (q+1)))) (X0 O O (by rw[L6 _ q sX,hv.1];exact Ss sX sX)) ?_;refine Ca (Uc O) (Gb (Eb ?_))
 rw[hv.2.1]at hF;refine Dc ⟨_,?_,q+1,O,sX,Eu,hF⟩;omega;refine Fu 0 (p:=q) (str:=(Lib.trimLeftB (Ec s).1.exp 48)) hF O O hn0 (Ca (Ar O O) (Ea (Ja (Bg O ?_))));refine Pc (Oc O ?_);refine Ia ?_;have eT:(Lib.trimLeftB (Ec s).1.exp 48).take q=(Lib.trimLeftB (Ec s).1.exp 48):=List.take_of_length_le sX;have hb:=KD (Lib.trimLeftB (Ec s).1.exp 48) hall sX;have hE:-1000000000<G1 s/\G1 s<1000000000:=by unfold G1;split <;> omega
 refine Ja (Ok (λσ w=>AllEq σ [(2,V b1),(4,V b2),(7,J (G1 s))]/\FR w0 [] [(b3,.stringIter (bs ((Lib.trimLeftB (Ec s).1.exp 48))) (q)),(b2,.cells #[.bool ((Ec s).1.neg),.bool ((Ec s).1.low),I ((Ec s).1.whole),I ((Ec s).1.rest),I ((Ec s).1.exp)] 130),(b1,.cells #[.bool false,I [],J 0] 75)] w) ?_ ?_);refine Ha (Ca (Zb FA O) (Rc (ZK cZ O hF.F 1 O O) (Ea ?_)));refine Ng O O (λhc4=>?_) (λhc4=>?_);have eE:G1 s = - Zi (Lib.trimLeftB (Ec s).1.exp 48):=by unfold G1;rw[if_pos (by assumption)]
 refine Ga (Ca (Qb O) ?_);refine Ka (v:=J (G1 s)) (x_neg O (by rw[eT,eE];exact Cl sX sX sX)) ?_;refine Ca (Uc O) (Gb ?_);exact Dc ⟨WH,hF⟩;have eE:G1 s=Zi (Lib.trimLeftB (Ec s).1.exp 48):=by unfold G1;rw[if_neg (by simp_all)]
 rw[eT,<-eE];refine Wa ?_;exact Dc ⟨WH,hF⟩;rintro σ w ⟨hs,hF⟩;refine Eg.slots hs ?_;clear hs;intro σ;refine Ia (Ha (Ca (Zb Mw O) (Rc (Iy fZ O hF.F 1 O O) (Ca (Zb Ot O) (Rc (Iy fZ O hF.F 1 O O) (Ka (v:=I (((Ec s).1.whole)++((Ec s).1.rest))) (Zt O O sX) ?_))))));refine Hb hF (O5 ((Ec s).1.whole++(Ec s).1.rest) _) (Ya BY O O O) ?_;intro w hF;refine Ca (Dn O) (Ea (Ja (Ha (Ca (Hh O) (Ca (GL O O) (Ea ?_))))));refine Nc O O (λhc5=>?_) (λhc5=>?_);refine Ha (Ka (w':=w) (v:=.agg #[.bool false,I [],J 0]) Mb ?_);refine If hF tZ O O D3 ?_;rintro w hF -;refine Ca (Uc O) (Ea ?_);refine Cc (Bc (Ua (Ee O (l:=[.bool false,I [],J 0]) O eZ tZ O (hF.cellsAll 2 O) (v:=J 0) O) ?_));exact⟨by rw[Wo,if_neg (by simpa using hc0),if_neg sX,if_neg sX,if_pos hc5];rfl,hF.same⟩;refine Wa (Ia (Ha (Ca (Hh O) ?_)));refine Hb hF (OE (Lib.trimLeftB ((Ec s).1.whole++(Ec s).1.rest) 48) _ sX) (Ya en_104 O O O) ?_;intro w hF;refine Ca (Dn O) (Jc (Ca (Zb HI O) (Rc (ZK cZ O hF.F 1 O O) (Ca (Hh O) (Ca (Qb O) (Ca (Zb Ot O) (Rc (Iy fZ O hF.F 1 O O) (Ca (WG kX O) (Ca (My O O) (Ca (Hh O) ?_))))))))));refine Ca (WG kX O) (Ca (Bm O O) (Ca (Hh O) (Ca (WG kX O) (Ca (My O O) ?_))));refine Ka (w':=w) (v:=.agg #[.bool ((Ec s).1.neg),I ((Lib.trimRightB (Lib.trimLeftB ((Ec s).1.whole++(Ec s).1.rest) 48) 48)),J ((((G1 s:Int)-((((Ec s).1.rest):Str).length:Int):Int)+((((Lib.trimLeftB ((Ec s).1.whole++(Ec s).1.rest) 48)):Str).length:Int):Int)-((((Lib.trimRightB (Lib.trimLeftB ((Ec s).1.whole++(Ec s).1.rest) 48) 48)):Str).length:Int))]) Mb (Kh hF qX tZ O ?_);rintro b4 w hb4 hF -;refine Ea (Ja (Ha (Rc (Rf eZ tZ O hF.F 0 O O) ?_)));refine Hb hF (JF (⟨(Ec s).1.neg,(Lib.trimRightB (Lib.trimLeftB ((Ec s).1.whole++(Ec s).1.rest) 48) 48),G1 s-(Ec s).1.rest.length+(Lib.trimLeftB ((Ec s).1.whole++(Ec s).1.rest) 48).length-(Lib.trimRightB (Lib.trimLeftB ((Ec s).1.whole++(Ec s).1.rest) 48) 48).length⟩) (by show (Lib.trimRightB (Lib.trimLeftB ((Ec s).1.whole++(Ec s).1.rest) 48) 48).length<=_;omega) _) (Ra WY O O) ?_
 intro w hF;refine Ca (Jm O) (Ea ?_);refine Ng O O (λhc6=>?_) (λhc6=>?_);refine Ha (Ka (w':=w) (v:=.agg #[.bool false,I [],J 0]) Mb ?_);refine If hF tZ O O X6 ?_;rintro w hF -;refine Ca (Uc O) (Ea ?_);refine Cc (Bc (Ua (Ee O (l:=[.bool false,I [],J 0]) O eZ tZ O (hF.cellsAll 3 O) (v:=J 4) O) ?_));exact⟨by rw[Wo,if_neg (by simpa using hc0),if_neg sX,if_neg sX,if_neg hc5,if_pos (by simpa using hc6)];rfl,hF.same⟩;refine Wa (Ia (Ha (Rc (Rf eZ tZ O hF.F 0 O O) ?_)));refine If hF tZ O O X6 ?_;rintro w hF -;refine Ca (Uc O) (Ea ?_);refine Cc (Bc (Ua (Ee O (l:=[.bool ((Ec s).1.neg),I ((Lib.trimRightB (Lib.trimLeftB ((Ec s).1.whole++(Ec s).1.rest) 48) 48)),J ((((G1 s:Int)-((((Ec s).1.rest):Str).length:Int):Int)+((((Lib.trimLeftB ((Ec s).1.whole++(Ec s).1.rest) 48)):Str).length:Int):Int)-((((Lib.trimRightB (Lib.trimLeftB ((Ec s).1.whole++(Ec s).1.rest) 48) 48)):Str).length:Int))]) O eZ tZ O (hF.cellsAll 3 O) (v:=J 0) O) ?_));exact⟨by rw[Wo,if_neg (by simpa using hc0),if_neg sX,if_neg sX,if_neg hc5,if_neg (by simpa using hc6)];rfl,hF.same⟩
def CE(n:Int):Num:=(Ef (Lib.itoa n)).1
def pI(s:Str):Int × Bool:=match Lib.parseIntB 64 s with|.ok v=>(v,true)|.range=>(Lib.intSat 64 s,false)|_=>(0,false)
def T_(x:Num):Int × Bool :=
  if Dh x=false\/x.exp<0\/19<(x.digits.length:Int)+x.exp then (0,false) else
  let t:=x.digits++Lib.repeatL [48] x.exp.toNat
  let u:=if x.neg then 45::t else t
  if u=[] then (0,true) else if (pI u).2=false then (0,false) else ((pI u).1,true)
def OC(e:Value)(b:Bool):Prop:=if b then ∃tp q,e=.iface tp q else e=.nilIface
theorem PT{P:Program}{ρ:Operand->Value}{w:World}{dst:Option Nat}{ty:TypeId}{pos:String}{aft:Array Edge}{g:Option (Nat × Bool)}{t t':TypeId}{x:Operand}{e:Value}{b:Bool}(ht:P.underlying t=some (.interface (P.methodsAt t)))(he:OC e b)(hx:ρ x=e)(hy:ρ (.const .nilIface)=.nilIface) :
    (execOp ρ ⟨dst,.binOp .neq t x (.const .nilIface) t',ty,pos,aft,g⟩).run P w=.ok (.value (.bool b)) w:=by
  unfold OC at he;cases b
  ·simp only[Bool.false_eq_true,if_false]at he;subst he;exact JT ht hx hy
  simp only[if_true]at he;obtain⟨tp,q,rfl⟩:=he;exact LK ht hx hy
theorem S6(w:World)(e:TypeId)(s:ByteArray):Same [] w (Lib.bytesWorld w e s) :=
  .of_below (Joins.below_bytesWorld _ w e s (gQ _))
theorem RO(s:Str)(hl:s.length<=140737488355328){w:World}(hG:Gl w):Calls prog 129 #[I s,J 10,J 64] w (Wd λv w'=>∃e,v=.tuple #[J (pI s).1,e]/\OC e (!(pI s).2)/\Same [] w w'):=by
  cases h:Lib.parseIntB 64 s with
  | ok n =>
    refine (strconv_ParseInt_10_at64_ok (bs s) (by rw[Ks];omega) n h w).mono ?_;rintro e w' ⟨rfl,hw⟩;refine⟨_,O,.nilIface,by simp[pI,h],by simp[pI,h,OC],?_⟩;rcases hw with rfl|⟨t,rfl⟩
    ·exact Same.refl _ _
    exact S6 w 5 t
  | range =>
    obtain⟨tp,q,hv⟩:=hG.err;refine (strconv_ParseInt_10_at64_range_var (bs s) (by rw[Ks];omega) h tp q w hv).mono ?_;rintro e w' ⟨N,rfl,-,-,hb⟩;exact⟨_,O,.iface 255 (V N),by simp only[pI,h],by simp[pI,h,OC],.of_below hb⟩
  | _ =>
    obtain⟨tp,q,hv⟩:=hG.serr;refine (Any.strconv_ParseInt_10_at64_syntax_var laysC174 (bs s) (by rw[Ks];omega) h tp q w hv).mono ?_;rintro e w' ⟨N,rfl,-,-,hb⟩;exact⟨_,O,.iface 255 (V N),(by simp[pI,h];rfl),by simp[pI,h,OC],.of_below hb⟩
theorem FD(c:Int)(h0:0<=c)(h1:c<=19)(w:World):Calls prog 128 #[I [48],J c] w (Wd λv w'=>v=I (Lib.repeatL [48] c.toNat)/\Same [] w w'):=by
  have h:=strings_Repeat (bs [48]) c.toNat w sX (by rw[Ks];simp;omega);rw[Int.toNat_of_nonneg h0]at h;exact Cy h
theorem take_zero{l:List Int}{j:Nat}(h:j<l.length)(hz:∀x∈l.take j,x=0)(hn:l[j]=0):∀x∈l.take (j+1),x=0:=by
  rw[iQ h];intro c hc;rcases mQ.1 hc with hc|hc
  ·exact hz c hc
  simp only[pQ]at hc;rw[hc];exact hn
theorem CR(n:Int)(h1:-9223372036854775808<=n)(h2:n<=9223372036854775807)(w0:World)(hG:Gl w0):Calls prog 43 #[J n] w0 (Wd λv w'=>v=Kv (CE n)/\Same [] w0 w'):=by
 refine Fa func43 O ntmps43 Ib (Zc _) ?_;have hF:=FR.start w0 [];refine Ha (Md (cs:=#[.bool false,I [],J 0]) hF qX O ?_);rintro b1 w hb1 hF -;refine Jc (Ca (Qb O) ?_);refine Hb hF (Pz n h1 h2 (hG.ext hF.same)) (Ra Z_ O O) ?_;intro w hF;refine Hb hF (EG (Lib.itoa n) (by have:=Lib.itoa_length_le n h1 h2;omega) _) (Ra HW O O) ?_;intro w hF;refine Ca (Bo O) (Ca (Py O O) (Ca (Fv O O) ?_));refine Kh hF qX tZ O ?_;rintro b2 w hb2 hF -;refine Ca (Uc O) (Jc (Rc (Rf eZ tZ O hF.F 0 O O) ?_));refine If hF tZ O O Ct ?_;rintro w hF -;refine Ea (Cc (Bc (Ua (Uf O (l:=[.bool ((CE n).neg),I ((CE n).digits),J ((CE n).exp)]) O eZ tZ O (hF.cellsAll 1 O)) ?_)));exact⟨O,hF.same⟩
def N2(x:Num):Str:=if x.neg then 45::(x.digits++Lib.repeatL [48] x.exp.toNat) else x.digits++Lib.repeatL [48] x.exp.toNat
theorem En(x:Num):T_ x=if Dh x=false\/x.exp<0\/19<(x.digits.length:Int)+x.exp then (0,false) else if N2 x=[] then (0,true) else if (pI (N2 x)).2=false then (0,false) else ((pI (N2 x)).1,true):=rfl
theorem Ox(c:UInt8)(n:Nat):(Lib.repeatL [c] n).length=n:=by
  induction n with
  | zero=>rfl
  | succ n ih=>unfold Lib.repeatL;simp[ih];try omega
theorem GK(x:Num)(hl:x.digits.length<=140737488355328)(w0:World)(hG:Gl w0):Calls prog 99 #[Kv x] w0 (Wd λv w'=>v=.tuple #[J (T_ x).1,.bool (T_ x).2]/\Same [] w0 w'):=by
  refine Fa func99 O ntmps99 Ib (Zc _) ?_;have hF:=FR.start w0 [];refine Ja (Ga ?_);refine Df hF O ?_;intro b1 w hb1 hF hE;refine Ca (Uc O) (Ca (Ic O) ?_);refine Gb (Ia ?_);refine Ja (Ja ?_);refine Ga (Rc (Rf eZ tZ O hF.F 0 O O) ?_);refine Hb hF (JF x hl _) (Ra WY O O) ?_;intro w hF;refine Ca (Jm O) (Ca (Fe O) ?_);refine Bf (d:=10) O (λhg0=>?_) (λhg0=>?_)
  ·
   refine Qa (Qa ?_);refine Qa (Ca (Dd O O) ?_);refine Ca (Fe O) (Qa ?_);refine Qa (Qa ?_);refine Qa (Qa ?_);refine Qa (Qa ?_);refine Ca (Dd O O) (Gb ?_);refine Ia (Le O ?_);refine Ja (Ga ?_);refine Ca (Uc O) (Ca (Ic O) ?_);refine Gb (Ia ?_);refine Cc (Bc (Ua (Th (v:=J 0) (x:=.bool false) O O O) ?_));refine⟨?_,hF.same⟩
   first
   | (have hn:¬(Dh x=false\/x.exp<0\/19<(x.digits.length:Int)+x.exp):=by (refine not_or.2 ⟨by simp_all,not_or.2 ⟨by omega,by omega⟩⟩)
      rw[En,if_neg hn];simp_all;done)
   | (rw[En];simp_all;done)
  refine Ca (Zb Qq O) (Rc (Wr aZ O hF.F 0 O O) ?_);refine Ca (An O O) (Ca (Ae O O) ?_);refine Ca (Fe O) (Jd (d:=15) O (λhg1=>?_) (λhg1=>?_))
  ·
   refine Qa (Qa ?_);refine Qa (Qa ?_);refine Qa (Qa ?_);refine Qa (Ca (Dd O O) ?_);refine Gb (Ia ?_);refine Le O (Ja ?_);refine Ga (Ca (Uc O) ?_);refine Ca (Ic O) (Gb ?_);refine Ia (Cc (Bc (Ua (Th (v:=J 0) (x:=.bool false) O O O) ?_)));refine⟨?_,hF.same⟩
   first
   | (have hn:¬(Dh x=false\/x.exp<0\/19<(x.digits.length:Int)+x.exp):=by (refine not_or.2 ⟨by simp_all,not_or.2 ⟨by omega,by omega⟩⟩)
      rw[En,if_neg hn];simp_all;done)
   | (rw[En];simp_all;done)
  refine Ca (Zb Xz O) (Rc (Iy fZ O hF.F 0 O O) ?_);refine Ca (WG kX O) (Ca (Zb Qq O) ?_);refine Rc (Wr aZ O hF.F 0 O O) ?_;refine Ka (v:=J ((x.digits.length:Int)+x.exp)) (X0 O O (Ss (by have:=Ze (x:=x) (by simp_all);omega) (by have:=Ze (x:=x) (by simp_all);omega))) ?_;refine Ca (AB O O) (Ca (Ae O O) ?_);refine Gb (Ia ?_);refine Nc O O (λhc0=>?_) (λhc0=>?_)
  ·
   refine Ja (Ga ?_);refine Ca (Uc O) (Ca (Ic O) ?_);refine Gb (Ia ?_);refine Cc (Bc (Ua (Th (v:=J 0) (x:=.bool false) O O O) ?_));refine⟨?_,hF.same⟩
   first
   | (have hn:¬(Dh x=false\/x.exp<0\/19<(x.digits.length:Int)+x.exp):=by (refine not_or.2 ⟨by simp_all,not_or.2 ⟨by omega,by omega⟩⟩)
      rw[En,if_neg hn];simp_all;done)
   | (rw[En];simp_all;done)
  refine Wa (Ia ?_);refine Ja (Ig (zs:=.of []) (bQ [0,1,2,3] (.act 4 (.free 5 (.free 6 .nil)))) hF ?_);intro w hF;refine Cb O (Zb Xz O) (Vi O (Iy fZ O C0 0 O O) ?_);refine Cb O (Zb Qq O) (Vi O (Wr aZ O C0 0 O O) ?_);refine Lj hF (FD x.exp sX sX _) O (Ya FP O O O) ?_;intro w hF;refine⟨hF,?_⟩;refine Pa rfl (v:=I ((x.digits)++(Lib.repeatL [48] x.exp.toNat))) (λw hC=>Zt rfl rfl (by have:=Ox 48 x.exp.toNat;have:=Ze (x:=x) (by simp_all);first|omega|(simp only[dQ,kQ,List.length_nil];omega))) ?_;refine Cb O (Dn O) (Fc ?_);refine Ia (Ja ?_);refine Ok (λσ w=>AllEq σ [(4,I (N2 x))]/\FR w0 [] [(b1,.cells #[.bool (x.neg),I (x.digits),J (x.exp)] 75)] w) ?_ ?_
  ·
   refine Ja (Ga ?_);refine Ca (Zb EQ O) (Rc (ZK cZ O hF.F 0 O O) ?_);refine Gb (Ia ?_);refine Ng O O (λhc1=>?_) (λhc1=>?_)
   ·
    have eT:[45]++(x.digits++Lib.repeatL [48] x.exp.toNat)=N2 x:=by unfold N2;rw[if_pos (by assumption)];rfl
    refine Ga (Ca (Hh O) ?_);refine Ka (v:=I (N2 x)) (by rw[<-eT];exact Zt rfl rfl (by have:=Ox 48 x.exp.toNat;have:=Ze (x:=x) (by simp_all);first|omega|(simp only[dQ,kQ,List.length_nil];omega))) ?_;refine Ca (Dn O) (Gb ?_);exact Dc ⟨ae1,hF⟩
   have eT:x.digits++Lib.repeatL [48] x.exp.toNat=N2 x:=by unfold N2;rw[if_neg (by simp_all)]
   rw[eT];refine Wa ?_;exact Dc ⟨ae1,hF⟩
  rintro σ w ⟨hs,hF⟩;refine Eg.slots hs ?_;clear hs;intro σ;have hT:(N2 x).length<=1020:=by have:=Ox 48 x.exp.toNat;have:=Ze (x:=x) (by simp_all);unfold N2;split <;> simp only[dQ,kQ] <;> omega
  refine Ia (Ja ?_);refine Ja (Ga ?_);refine Ca (Hh O) (Ca (GL O O) ?_);refine Gb (Ia ?_);refine Nc O O (λhc2=>?_) (λhc2=>?_)
  ·
   refine Ja (Ga ?_);refine Ca (Uc O) (Ca (Ic O) ?_);refine Gb (Ia ?_);refine Cc (Bc (Ua (Th (v:=J 0) (x:=.bool true) O O O) ?_));refine⟨?_,hF.same⟩
   first
   | (have hn:¬(Dh x=false\/x.exp<0\/19<(x.digits.length:Int)+x.exp):=by (refine not_or.2 ⟨by simp_all,not_or.2 ⟨by omega,by omega⟩⟩)
      rw[En,if_neg hn];simp_all;done)
   | (rw[En];simp_all;done)
  refine Wa (Ia ?_);refine Ja (Ga ?_);refine Ca (Hh O) (Fb (RO (N2 x) sX (hG.ext hF.same)) (Kc en_129 O O O O) ?_);rintro _ w ⟨e,rfl,he,hE⟩;have hF:=hF.ext hE;refine Ca (Bo O) (Ca (Fv O O) ?_);refine Ca (yxu O O) (Ca (Uc O) ?_);refine Ca (C3) (Gb ?_);refine Ia (Ja ?_);refine Ja (Ga ?_);refine Ca (Pt) (Ka (v:=.bool (!(pI (N2 x)).2)) (PT (underlying157) he O O) ?_);refine Gb (Ia ?_);refine Ng O O (λhc3=>?_) (λhc3=>?_)
  ·
   refine Ja (Ga ?_);refine Ca (Uc O) (Ca (Ic O) ?_);refine Gb (Ia ?_);refine Cc (Bc (Ua (Th (v:=J 0) (x:=.bool false) O O O) ?_));refine⟨?_,hF.same⟩
   first
   | (have hn:¬(Dh x=false\/x.exp<0\/19<(x.digits.length:Int)+x.exp):=by (refine not_or.2 ⟨by simp_all,not_or.2 ⟨by omega,by omega⟩⟩)
      rw[En,if_neg hn];simp_all;done)
   | (rw[En];simp_all;done)
  refine Wa (Ia ?_);refine Ja (Ga ?_);refine Ca (Qb O) (Ca (Uc O) ?_);refine Ca (Ic O) (Gb ?_);refine Ia (Cc (Bc (Ua (Th (v:=J ((pI (N2 x)).1)) (x:=.bool true) O O O) ?_)));refine⟨?_,hF.same⟩
  first
  | (have hn:¬(Dh x=false\/x.exp<0\/19<(x.digits.length:Int)+x.exp):=by (refine not_or.2 ⟨by simp_all,not_or.2 ⟨by omega,by omega⟩⟩)
     rw[En,if_neg hn];simp_all;done)
  | (rw[En];simp_all;done)
end Go.Scarf
