/- A part of the proof. -/
import Derived.Test.YtgkmigdopohcnaaGreatDoorW1
import Derived.Lib.SmallJoins
set_option linter.all false
set_option maxHeartbeats 8000000
set_option maxRecDepth 10000
namespace Go.Scarf
open Go.RowKit Go.Proofs Go.Proofs.Tryz
theorem ZG(s:Str):(Nb s).1.whole.length<=s.length/\(Nb s).1.rest.length<=s.length/\(Nb s).1.exp.length<=s.length:=by
  have h1:=Pg [101,69] (Lib.trimPrefix s [45]);have h2:=Sg s [45];have h3:=Pg [46] (Pa [101,69] (Lib.trimPrefix s [45])).1;have h4:=Sg (Pa [101,69] (Lib.trimPrefix s [45])).2.1 [45];have h5:=Sg (Lib.trimPrefix (Pa [101,69] (Lib.trimPrefix s [45])).2.1 [45]) [43];unfold Nb;simp only
  repeat' split
  all_goals (refine⟨?_,?_,?_⟩ <;> simp only[Oe,List.length_nil] <;> omega)
def Jv(s:Str):Int:=if (Nb s).1.low then-Ih (Lib.trimLeftB (Nb s).1.exp 48) else Ih (Lib.trimLeftB (Nb s).1.exp 48)
theorem Ml(s:Str):Oc s=if (Nb s).2=false then (Num.zero,2) else
  if 1000<(Nb s).1.whole.length+(Nb s).1.rest.length then (Num.zero,3) else
  if 9<(Lib.trimLeftB (Nb s).1.exp 48).length then (Num.zero,4) else
  if Lib.trimLeftB ((Nb s).1.whole++(Nb s).1.rest) 48=[] then (Num.zero,0) else
  if Ie (⟨(Nb s).1.neg,Lib.trimRightB (Lib.trimLeftB ((Nb s).1.whole++(Nb s).1.rest) 48) 48,Jv s-(Nb s).1.rest.length+(Lib.trimLeftB ((Nb s).1.whole++(Nb s).1.rest) 48).length-(Lib.trimRightB (Lib.trimLeftB ((Nb s).1.whole++(Nb s).1.rest) 48) 48).length⟩)=false then (Num.zero,4) else
  (⟨(Nb s).1.neg,Lib.trimRightB (Lib.trimLeftB ((Nb s).1.whole++(Nb s).1.rest) 48) 48,Jv s-(Nb s).1.rest.length+(Lib.trimLeftB ((Nb s).1.whole++(Nb s).1.rest) 48).length-(Lib.trimRightB (Lib.trimLeftB ((Nb s).1.whole++(Nb s).1.rest) 48) 48).length⟩,0):=rfl
theorem QL{s:Str}{q:Nat}(h:q<s.length)(ha:s.all Hi=true):(Utf8.decode (bs s) q).1=s[q].toNat/\(Utf8.decode (bs s) q).2=1/\48<=s[q].toNat/\s[q].toNat<=57:=by
  have hd:=List.all_eq_true.1 ha s[q] (eQ h);have:=Q8 s q h hd;rw[this];unfold Hi at hd;simp only[Bool.and_eq_true,decide_eq_true_eq]at hd;exact⟨O,O,hd.1,hd.2⟩
theorem AU{f:UInt8->Bool}{s:Str}(q:Nat)(h:s.all f=true):(s.take q).all f=true:=by
  rw[List.all_eq_true]at h ⊢;exact λx hx=>h x (List.mem_of_mem_take hx)
theorem Zv(s:Str)(hl:s.length<=140737488355328)(w0:World):Calls prog 71 #[I s] w0 (Pc λv w'=>v=.tuple #[Lm (Oc s).1,J (Oc s).2]/\Same [] w0 w'):=by
 have hls:=ZG s;have ht0:=Bu (Nb s).1.exp 48;have ht1:=Bu ((Nb s).1.whole++(Nb s).1.rest) 48;rw[dQ]at ht1;have ht2:=T0 (Lib.trimLeftB ((Nb s).1.whole++(Nb s).1.rest) 48) 48;refine Ea func71 O ntmps71 Db (Rb _) ?_;have hF:=FR.start w0 [];refine Da (Jc (cs:=#[.bool false,I [],J 0]) hF pX O ?_);rintro b1 w hb1 hF -;refine Aa (Lb O) (Qb (Aa (Md O) ?_));refine Oa hF (read_c s hl _) (Ma en_110 O O) ?_;intro w hF;refine Aa (Ri O) (Aa (Dq O O) (Aa (Jl O O) ?_));refine Ye hF zeroValue163 kZ O ?_;rintro b2 w hb2 hF -;refine Aa (Jb O) (Qb (Aa (Ob Ew O) (Tb (Rm iZ O hF.F 0 O O) ?_)));refine Oa hF (Yy (Nb s).1.exp _) (Ra UT O O O) ?_;intro w hF;refine Aa (Rf O) (Ca (Fa (Va (Da (Aa (Dc O) (Aa (Oh O) (Aa (Jb O) (Ca ?_))))))));refine Fe O O (λhc0=>?_) (λhc0=>?_);refine Da (Ja (w':=w) (v:=.agg #[.bool false,I [],J 0]) Ib ?_);refine Xd hF qZ O O Mr ?_;rintro w hF -;refine Aa (Lb O) (Ca ?_);refine Ab (Za (Ka (Ic O (l:=[.bool false,I [],J 0]) O gZ qZ O (hF.cellsAll 1 O) (v:=J 2) O) ?_));exact⟨by rw[Ml,if_pos (by simpa using hc0)];rfl,hF.same⟩;refine Da (Aa (Ob As O) (Tb (Rm iZ O hF.F 0 O O) (Aa (Qr iX O) (Aa (Ob Up O) (Tb (Rm iZ O hF.F 0 O O) (Aa (Qr iX O) (Aa (Il O O) (Aa (Gz O O) (Aa (Jb O) (Ca ?_))))))))));refine Pb O O (λhc1=>?_) (λhc1=>?_);refine Da (Ja (w':=w) (v:=.agg #[.bool false,I [],J 0]) Ib ?_);refine Xd hF qZ O O Mr ?_;rintro w hF -;refine Aa (Lb O) (Ca ?_);refine Ab (Za (Ka (Ic O (l:=[.bool false,I [],J 0]) O gZ qZ O (hF.cellsAll 1 O) (v:=J 3) O) ?_));exact⟨by rw[Ml,if_neg (by simpa using hc0),if_pos Ba];rfl,hF.same⟩;refine Da (Aa (Md O) (Aa (Qr iX O) (Aa (Gz O O) (Aa (Jb O) (Ca ?_)))));refine Pb O O (λhc2=>?_) (λhc2=>?_);refine Da (Ja (w':=w) (v:=.agg #[.bool false,I [],J 0]) Ib ?_);refine Xd hF qZ O O Mr ?_;rintro w hF -;refine Aa (Lb O) (Ca ?_);refine Ab (Za (Ka (Ic O (l:=[.bool false,I [],J 0]) O gZ qZ O (hF.cellsAll 1 O) (v:=J 4) O) ?_))
 exact⟨by rw[Ml,if_neg (by simpa using hc0),if_neg Ba,if_pos Ba];rfl,hF.same⟩;refine Na (Cb (Ga (Da (Aa (Lb O) (Ca (Fa (Da (Aa (Md O) ?_))))))));refine Wv (str:=(Lib.trimLeftB (Nb s).1.exp 48)) hF iX O ?_;rintro b3 w hb3 hF -;refine Ca (Va ?_);have hall:(Lib.trimLeftB (Nb s).1.exp 48).all Hi=true:=Du (NM (by simp_all));refine Tc (λμ σ w=>∃(q:Nat),μ=(Lib.trimLeftB (Nb s).1.exp 48).length-q/\(q<=(Lib.trimLeftB (Nb s).1.exp 48).length)/\AllEq σ [(2,V b1),(4,V b2),(7,J (Ih ((Lib.trimLeftB (Nb s).1.exp 48).take q))),(41,V b3)]/\FR w0 [] [(b3,.stringIter (bs ((Lib.trimLeftB (Nb s).1.exp 48))) (q)),(b2,.cells #[.bool ((Nb s).1.neg),.bool ((Nb s).1.low),I ((Nb s).1.whole),I ((Nb s).1.rest),I ((Nb s).1.exp)] 163),(b1,.cells #[.bool false,I [],J 0] 86)] w) _ ⟨0,O,(Nat.zero_le _),Nr,hF⟩ ?_;rintro μ σ w ⟨q,rfl,hq,hs,hF⟩;refine Cg.slots hs ?_;clear hs;intro σ;refine Da ?_;by_cases hn0:(q)<((Lib.trimLeftB (Nb s).1.exp 48):Str).length;refine Yz 0 (p:=q) (str:=(Lib.trimLeftB (Nb s).1.exp 48)) hF O O hn0 ?_;rintro w hF -;refine Aa (Jl O O) (Ca (Fa (Fd O (Na (Ga (Va (Da (Aa (Gj O O) (Aa (Lb O) (Ca ?_))))))))));refine Ha (Aa (Gb O) ?_);have hv:=QL (s:=(Lib.trimLeftB (Nb s).1.exp 48)) (q:=q) Ba hall;have hb:=B6 ((Lib.trimLeftB (Nb s).1.exp 48).take q) (AU q hall) (by rw[List.length_take];omega);refine Ja (v:=J (10*Ih ((Lib.trimLeftB (Nb s).1.exp 48).take q))) (PE O O (Cl Ba Ba Ba)) (Aa (Gb O) ?_);refine Ja (v:=.int .i32 (((Utf8.decode (bs (Lib.trimLeftB (Nb s).1.exp 48)) q).1:Int)-48)) (R1 O O (by rw[IntKind.wrap_i32];omega)) ?_;refine Ja (v:=J (((Utf8.decode (bs (Lib.trimLeftB (Nb s).1.exp 48)) q).1:Int)-48)) (Ze wZ zZ O (Sm Ba Ba)) ?_;refine Ja (v:=J (Ih ((Lib.trimLeftB (Nb s).1.exp 48).take (q+1)))) (Iw O O (by rw[Bz _ q Ba,hv.1];exact Sm Ba Ba)) ?_;refine Aa (Lb O) (Ua (Cb ?_))
 rw[hv.2.1]at hF;refine Xb ⟨_,?_,q+1,O,Ba,Nr,hF⟩;omega;refine Lq 0 (p:=q) (str:=(Lib.trimLeftB (Nb s).1.exp 48)) hF O O hn0 (Aa (Jl O O) (Ca (Fa (We O ?_))));refine Kc (Ec O ?_);refine Ga ?_;have eT:(Lib.trimLeftB (Nb s).1.exp 48).take q=(Lib.trimLeftB (Nb s).1.exp 48):=List.take_of_length_le Ba;have hb:=B6 (Lib.trimLeftB (Nb s).1.exp 48) hall Ba;have hE:-1000000000<Jv s/\Jv s<1000000000:=by unfold Jv;split <;> omega
 refine Fa (Dn (λσ w=>AllEq σ [(2,V b1),(4,V b2),(7,J (Jv s))]/\FR w0 [] [(b3,.stringIter (bs ((Lib.trimLeftB (Nb s).1.exp 48))) (q)),(b2,.cells #[.bool ((Nb s).1.neg),.bool ((Nb s).1.low),I ((Nb s).1.whole),I ((Nb s).1.rest),I ((Nb s).1.exp)] 163),(b1,.cells #[.bool false,I [],J 0] 86)] w) ?_ ?_);refine Da (Aa (Ob V0 O) (Tb (D6 eZ O hF.F 1 O O) (Ca ?_)));refine Fe O O (λhc4=>?_) (λhc4=>?_);have eE:Jv s = - Ih (Lib.trimLeftB (Nb s).1.exp 48):=by unfold Jv;rw[if_pos (by assumption)]
 refine Ha (Aa (Gb O) ?_);refine Ja (v:=J (Jv s)) (BZ O (by rw[eT,eE];exact Cl Ba Ba Ba)) ?_;refine Aa (Lb O) (Ua ?_);exact Xb ⟨O_,hF⟩;have eE:Jv s=Ih (Lib.trimLeftB (Nb s).1.exp 48):=by unfold Jv;rw[if_neg (by simp_all)]
 rw[eT,<-eE];refine Na ?_;exact Xb ⟨O_,hF⟩;rintro σ w ⟨hs,hF⟩;refine Eg.slots hs ?_;clear hs;intro σ;refine Ga (Da (Aa (Ob As O) (Tb (Rm iZ O hF.F 1 O O) (Aa (Ob Up O) (Tb (Rm iZ O hF.F 1 O O) (Ja (v:=I (((Nb s).1.whole)++((Nb s).1.rest))) (Iu O O Ba) ?_))))));refine Oa hF (Yy ((Nb s).1.whole++(Nb s).1.rest) _) (Ra UT O O O) ?_;intro w hF;refine Aa (Rf O) (Ca (Fa (Da (Aa (Md O) (Aa (L4 O O) (Ca ?_))))));refine Pb O O (λhc5=>?_) (λhc5=>?_);refine Da (Ja (w':=w) (v:=.agg #[.bool false,I [],J 0]) Ib ?_);refine Xd hF qZ O O Rw ?_;rintro w hF -;refine Aa (Lb O) (Ca ?_);refine Ab (Za (Ka (Ic O (l:=[.bool false,I [],J 0]) O gZ qZ O (hF.cellsAll 2 O) (v:=J 0) O) ?_));exact⟨by rw[Ml,if_neg (by simpa using hc0),if_neg Ba,if_neg Ba,if_pos hc5];rfl,hF.same⟩;refine Na (Ga (Da (Aa (Md O) ?_)));refine Oa hF (U8 (Lib.trimLeftB ((Nb s).1.whole++(Nb s).1.rest) 48) _ Ba) (Ra en_112 O O O) ?_;intro w hF;refine Aa (Rf O) (Qb (Aa (Ob ZE O) (Tb (D6 eZ O hF.F 1 O O) (Aa (Md O) (Aa (Gb O) (Aa (Ob Up O) (Tb (Rm iZ O hF.F 1 O O) (Aa (Qr iX O) (Aa (WV O O) (Aa (Md O) ?_))))))))));refine Aa (Qr iX O) (Aa (Il O O) (Aa (Md O) (Aa (Qr iX O) (Aa (WV O O) ?_))));refine Ja (w':=w) (v:=.agg #[.bool ((Nb s).1.neg),I ((Lib.trimRightB (Lib.trimLeftB ((Nb s).1.whole++(Nb s).1.rest) 48) 48)),J ((((Jv s:Int)-((((Nb s).1.rest):Str).length:Int):Int)+((((Lib.trimLeftB ((Nb s).1.whole++(Nb s).1.rest) 48)):Str).length:Int):Int)-((((Lib.trimRightB (Lib.trimLeftB ((Nb s).1.whole++(Nb s).1.rest) 48) 48)):Str).length:Int))]) Ib (Ye hF pX qZ O ?_);rintro b4 w hb4 hF -;refine Ca (Fa (Da (Tb (He gZ qZ O hF.F 0 O O) ?_)));refine Oa hF (Pv (⟨(Nb s).1.neg,(Lib.trimRightB (Lib.trimLeftB ((Nb s).1.whole++(Nb s).1.rest) 48) 48),Jv s-(Nb s).1.rest.length+(Lib.trimLeftB ((Nb s).1.whole++(Nb s).1.rest) 48).length-(Lib.trimRightB (Lib.trimLeftB ((Nb s).1.whole++(Nb s).1.rest) 48) 48).length⟩) (by show (Lib.trimRightB (Lib.trimLeftB ((Nb s).1.whole++(Nb s).1.rest) 48) 48).length<=_;omega) _) (Ma MB O O) ?_
 intro w hF;refine Aa (Oh O) (Ca ?_);refine Fe O O (λhc6=>?_) (λhc6=>?_);refine Da (Ja (w':=w) (v:=.agg #[.bool false,I [],J 0]) Ib ?_);refine Xd hF qZ O O U1 ?_;rintro w hF -;refine Aa (Lb O) (Ca ?_);refine Ab (Za (Ka (Ic O (l:=[.bool false,I [],J 0]) O gZ qZ O (hF.cellsAll 3 O) (v:=J 4) O) ?_));exact⟨by rw[Ml,if_neg (by simpa using hc0),if_neg Ba,if_neg Ba,if_neg hc5,if_pos (by simpa using hc6)];rfl,hF.same⟩;refine Na (Ga (Da (Tb (He gZ qZ O hF.F 0 O O) ?_)));refine Xd hF qZ O O U1 ?_;rintro w hF -;refine Aa (Lb O) (Ca ?_);refine Ab (Za (Ka (Ic O (l:=[.bool ((Nb s).1.neg),I ((Lib.trimRightB (Lib.trimLeftB ((Nb s).1.whole++(Nb s).1.rest) 48) 48)),J ((((Jv s:Int)-((((Nb s).1.rest):Str).length:Int):Int)+((((Lib.trimLeftB ((Nb s).1.whole++(Nb s).1.rest) 48)):Str).length:Int):Int)-((((Lib.trimRightB (Lib.trimLeftB ((Nb s).1.whole++(Nb s).1.rest) 48) 48)):Str).length:Int))]) O gZ qZ O (hF.cellsAll 3 O) (v:=J 0) O) ?_));exact⟨by rw[Ml,if_neg (by simpa using hc0),if_neg Ba,if_neg Ba,if_neg hc5,if_neg (by simpa using hc6)];rfl,hF.same⟩
def Vg(x:Num):Int:=if x.digits=[] then 0 else if x.neg then -1 else 1
def IK:List Int->Int|[]=>0|x::r=>if x≠0 then x else IK r
theorem FC:∀{l:List Int},(∀x∈l,x=0)->IK l=0
  | [],_=>rfl
  | x::r,h=>by unfold IK;rw[if_neg (by simp[h x La])];exact FC (λy hy=>h y (by simp[hy]))
theorem UQ:∀{l:List Int}{j:Nat}(h:j<l.length),(∀x∈l.take j,x=0)->l[j]≠0->IK l=l[j]
  | [],_,h,_,_=>absurd h La
  | x :: r, 0, _, _, hn => by
    have hn':x≠0:=hn;unfold IK;rw[if_pos hn'];rfl
  | x :: r, j + 1, h, hz, hn => by
    unfold IK;rw[if_neg (by simp[hz x La]),UQ (j:=j) (by simpa using h) (λy hy=>hz y (by simp[hy])) (by simpa using hn)];rfl
def I0(x y:Num):Int:=IK [Lib.compareInt (x.digits.length+x.exp) (y.digits.length+y.exp),Lib.compareBytes x.digits y.digits]
def Rv(x y:Num):Int :=
  if Ie x=false then (if Ie y=false then 0 else -1) else if Ie y=false then 1 else
  if Lib.compareInt (Vg x) (Vg y)≠0 then Lib.compareInt (Vg x) (Vg y) else if Vg x=0 then 0 else Vg x*I0 x y
def M4(n:Int):Num:=(Oc (Lib.itoa n)).1
def pI(s:Str):Int × Bool:=match Lib.parseIntB 64 s with|.ok v=>(v,true)|.range=>(Lib.intSat 64 s,false)|_=>(0,false)
def B4(x:Num):Int × Bool :=
  if Ie x=false\/x.exp<0\/19<(x.digits.length:Int)+x.exp then (0,false) else
  let t:=x.digits++Lib.repeatL [48] x.exp.toNat
  let u:=if x.neg then 45::t else t
  if u=[] then (0,true) else if (pI u).2=false then (0,false) else ((pI u).1,true)
def M6(e:Value)(b:Bool):Prop:=if b then ∃tp q,e=.iface tp q else e=.nilIface
theorem NO{P:Program}{ρ:Operand->Value}{w:World}{dst:Option Nat}{ty:TypeId}{pos:String}{aft:Array Edge}{g:Option (Nat × Bool)}{t t':TypeId}{x:Operand}{e:Value}{b:Bool}(ht:P.underlying t=some (.interface (P.methodsAt t)))(he:M6 e b)(hx:ρ x=e)(hy:ρ (.const .nilIface)=.nilIface) :
    (execOp ρ ⟨dst,.binOp .neq t x (.const .nilIface) t',ty,pos,aft,g⟩).run P w=.ok (.value (.bool b)) w:=by
  unfold M6 at he;cases b
  ·simp only[Bool.false_eq_true,if_false]at he;subst he;exact PM ht hx hy
  simp only[if_true]at he;obtain⟨tp,q,rfl⟩:=he;exact GA ht hx hy
theorem Oz(w:World)(e:TypeId)(s:ByteArray):Same [] w (Lib.bytesWorld w e s) :=
  .of_below (Joins.below_bytesWorld _ w e s (gQ _))
theorem BH(s:Str)(hl:s.length<=140737488355328){w:World}(hG:Gl w):Calls prog 198 #[I s,J 10,J 64] w (Pc λv w'=>∃e,v=.tuple #[J (pI s).1,e]/\M6 e (!(pI s).2)/\Same [] w w'):=by
  cases h:Lib.parseIntB 64 s with
  | ok n =>
    refine (strconv_ParseInt_10_at64_ok (bs s) (by rw[Pm];omega) n h w).mono ?_;rintro e w' ⟨rfl,hw⟩;refine⟨_,O,.nilIface,by simp[pI,h],by simp[pI,h,M6],?_⟩;rcases hw with rfl|⟨t,rfl⟩
    ·exact Same.refl _ _
    exact Oz w 5 t
  | range =>
    obtain⟨tp,q,hv⟩:=hG.err;refine (strconv_ParseInt_10_at64_range_var (bs s) (by rw[Pm];omega) h tp q w hv).mono ?_;rintro e w' ⟨N,rfl,-,-,hb⟩;exact⟨_,O,.iface 288 (V N),by simp only[pI,h],by simp[pI,h,M6],.of_below hb⟩
  | _ =>
    obtain⟨tp,q,hv⟩:=hG.serr;refine (Any.strconv_ParseInt_10_at64_syntax_var laysC174 (bs s) (by rw[Pm];omega) h tp q w hv).mono ?_;rintro e w' ⟨N,rfl,-,-,hb⟩;exact⟨_,O,.iface 288 (V N),(by simp[pI,h];rfl),by simp[pI,h,M6],.of_below hb⟩
theorem S7(c:Int)(h0:0<=c)(h1:c<=19)(w:World):Calls prog 197 #[I [48],J c] w (Pc λv w'=>v=I (Lib.repeatL [48] c.toNat)/\Same [] w w'):=by
  have h:=strings_Repeat (bs [48]) c.toNat w Ba (by rw[Pm];simp;omega);rw[Int.toNat_of_nonneg h0]at h;exact Ht h
theorem CM{w:World}{ad:Addr}{a b:Int}(h:∀j (hj:j<[Value.int .i64 a,Value.int .i64 b].length),w.cell? (ad.add j)=some [Value.int .i64 a,Value.int .i64 b][j]) :
    ∀j (hj:j<[a,b].length),w.cell? (ad.add j)=some (.int .i64 [a,b][j])
  | 0,_=>h 0 La
  | 1,_=>h 1 La
  | j+2,hj=>absurd hj La
theorem N5{w:World}{ad:Addr}{a b c:Int}(h:∀j (hj:j<[Value.int .i64 a,Value.int .i64 b,Value.int .i64 c].length),w.cell? (ad.add j)=some [Value.int .i64 a,Value.int .i64 b,Value.int .i64 c][j]) :
    ∀j (hj:j<[a,b,c].length),w.cell? (ad.add j)=some (.int .i64 [a,b,c][j])
  | 0,_=>h 0 La
  | 1,_=>h 1 La
  | 2,_=>h 2 La
  | j+3,hj=>absurd hj La
theorem Zy(x:Num):Vg x=0\/Vg x=1\/Vg x = -1:=by
  unfold Vg;split
  ·simp
  split <;> simp
theorem Ey(x y:Int):Lib.compareInt x y=0\/Lib.compareInt x y=1\/Lib.compareInt x y = -1:=by
  unfold Lib.compareInt;split
  ·simp
  split <;> simp
theorem Ck:∀(x y:Str),Lib.compareBytes x y=0\/Lib.compareBytes x y=1\/Lib.compareBytes x y = -1
  | [],[]=>by simp[Lib.compareBytes]
  | [],_::_=>by simp[Lib.compareBytes]
  | _::_,[]=>by simp[Lib.compareBytes]
  | a :: r, b :: q => by
    have:=Ck r q;unfold Lib.compareBytes;split
    ·simp
    split
    ·simp
    exact this
theorem E3(x y:Num):I0 x y=0\/I0 x y=1\/I0 x y = -1:=by
  unfold I0 IK;split
  ·exact Ey _ _
  unfold IK;split
  ·exact Ck _ _
  left;rfl
theorem take_zero{l:List Int}{j:Nat}(h:j<l.length)(hz:∀x∈l.take j,x=0)(hn:l[j]=0):∀x∈l.take (j+1),x=0:=by
  rw[iQ h];intro c hc;rcases mQ.1 hc with hc|hc
  ·exact hz c hc
  simp only[pQ]at hc;rw[hc];exact hn
theorem Xr(x:Num)(w0:World):Calls prog 127 #[Lm x] w0 (Pc λv w'=>v=J (Vg x)/\Same [] w0 w'):=by
 refine Ea func127 O ntmps127 Db (Rb _) ?_;have hF:=FR.start w0 [];refine Da (Le hF O ?_);rintro b1 w hb1 hF -;refine Aa (Lb O) (Ca (Fa (Va (Da (Aa (Ob Vl O) (Tb (Rm iZ O hF.F 0 O O) (Aa (L4 O O) (Aa (Jb O) (Ca ?_)))))))));refine Pb O O (λhc0=>?_) (λhc0=>?_);refine Da (Aa (Lb O) (Ca ?_));refine Hc (v:=J 0) O O ?_;exact⟨by simp_all[Vg],hF.same⟩;refine Da (Aa (Ob T9 O) (Tb (D6 eZ O hF.F 0 O O) (Aa (Jb O) (Ca ?_))));refine Fe O O (λhc1=>?_) (λhc1=>?_);refine Da (Aa (Lb O) (Ca ?_));refine Hc (v:=J ((-1))) O O ?_;exact⟨by simp_all[Vg],hF.same⟩;refine Na (Cb (Ga (Da (Aa (Lb O) (Ca ?_)))));refine Hc (v:=J 1) O O ?_;exact⟨by simp_all[Vg],hF.same⟩
theorem or_c(l:List Int)(ad:Addr)(c:Nat)(hlen:l.length<=140737488355328)(w0:World)(hc:∀j (h:j<l.length),w0.cell? (ad.add j)=some (J l[j])):Calls prog 83 #[.slice (some ad) l.length c] w0 (Pc λv w'=>v=J (IK l)/\Same [] w0 w'):=by
 refine Ea func83 O ntmps83 Db (Rb _) ?_;have hF:=FR.start w0 [];refine Da (Aa (Lb O) (Qb (Aa (Lb O) (Ca (Fa (Da (Aa (Wd O) ?_)))))));refine Aa (Ug fX O) (Aa (Gb O) (Ca (Va ?_)));refine Tc (λμ σ w=>∃(j:Nat),μ=l.length-j/\(j<=l.length)/\(∀x∈l.take j,x=0)/\AllEq σ [(3,J 0),(6,.slice (some ad) (l.length) (c)),(7,J ((l.length:Nat))),(8,J ((j:Int)))]/\FR w0 [] [] w) _ ⟨0,O,(Nat.zero_le _),La,Nr,hF⟩ ?_;rintro μ σ w ⟨j,rfl,hj,hz,hs,hF⟩;refine Cg.slots hs ?_;clear hs;intro σ;refine Da (Aa (Sl O O) (Ca (Fa ?_)));refine Pb O O (λhc0=>?_) (λhc0=>?_);refine Na (Ga (Fa (Va (Da (Ja (v:=.pointer (some (ad.add (j*1)))) (Sa (i:=(j:Int)) R7 O O O Ba Ba) ?_)))));have hcj:w0.cell? (ad.add (j*1))=some (J l[j]):=by rw[Nat.mul_one];exact hc j Ba
 refine Ja (v:=J (l[j])) (Ad dZ O (hF.cell0 hcj)) (Aa (Lb O) (Qb (Aa (Gb O) (Aa (Gb O) (Aa (Om O O) (Ca ?_))))));refine Pb O O (λhc1=>?_) (λhc1=>?_);refine Da (Aa (Gb O) (Aa (Lb O) (Ca ?_)));refine Hc (v:=J (l[j])) O O ?_;exact⟨by rw[UQ Ba hz (by simpa using hc1)],hF.same⟩;refine Na (Cb (Ga (Ha (Aa (Il O O) (Aa (Gb O) (Ua ?_))))));refine Xb ⟨_,?_,j+1,O,Ba,(take_zero Ba hz (by simpa using hc1)),Nr,hF⟩;omega;refine Kc (Ec O ?_);refine Ga (Da (Aa (Gb O) (Aa (Lb O) (Ca ?_))));refine Hc (v:=J 0) O O ?_;have e:l.take j=l:=List.take_of_length_le Ba;rw[e]at hz;exact⟨by rw[FC hz],hF.same⟩
theorem WY(x y:Num)(hx:Ie x=true)(hy:Ie y=true)(w0:World):Calls prog 128 #[Lm x,Lm y] w0 (Pc λv w'=>v=J (I0 x y)/\Same [] w0 w'):=by
 have h1:=Gd hx;have h2:=Gd hy;refine Ea func128 O ntmps128 Db (Lc _ _) ?_;have hF:=FR.start w0 [];refine Da (Le hF O ?_);rintro b1 w hb1 hF -;refine Le hF O ?_;rintro b2 w hb2 hF -;refine Aa (Lb O) (Qb (Aa (Ob Vl O) (Tb (Rm iZ O hF.F 1 O O) (Aa (Qr iX O) (Aa (Ob El O) (Tb (Yi dZ O hF.F 1 O O) (Aa (Il O O) (Aa (Ob Vl O) (Tb (Rm iZ O hF.F 0 O O) (Aa (Qr iX O) ?_))))))))));refine Aa (Ob El O) (Tb (Yi dZ O hF.F 0 O O) (Aa (Il O O) ?_));refine Oa hF (Ts (x.digits.length+x.exp) (y.digits.length+y.exp) _) (Ra OD O O O) ?_;intro w hF;refine Aa (Lb O) (Qb (Aa (Gb O) (Aa (Ob Vl O) (Tb (Rm iZ O hF.F 1 O O) (Aa (Ob Vl O) (Tb (Rm iZ O hF.F 0 O O) ?_))))));refine Oa hF (Ao x.digits y.digits _) (Ra OB O O O) ?_;intro w hF;refine Ek 2 hF (Eb (cs:=#[J (Lib.compareInt (x.digits.length+x.exp) (y.digits.length+y.exp)),J (Lib.compareBytes x.digits y.digits)]) fX sizeOf3 mX Ta Ta Ib) ?_;rintro b3 w hb3 hF -;refine Oa hF (or_c [Lib.compareInt (x.digits.length+x.exp) (y.digits.length+y.exp),Lib.compareBytes x.digits y.digits] _ 2 La _ (CM (hF.cellsAll 0 O))) (Ma EU O O) ?_;intro w hF;refine Aa (Lb O) (Ca ?_);refine Hc (v:=J (I0 x y)) O O ?_;exact⟨O,hF.same⟩
theorem U7(x y:Num)(hx:x.digits.length<=140737488355328)(hy:y.digits.length<=140737488355328)(w0:World):Calls prog 82 #[Lm x,Lm y] w0 (Pc λv w'=>v=J (Rv x y)/\Same [] w0 w'):=by
 refine Ea func82 O ntmps82 Db (Lc _ _) ?_;have hF:=FR.start w0 [];refine Da (Le hF O ?_);rintro b1 w hb1 hF -;refine Le hF O ?_;rintro b2 w hb2 hF -;refine Aa (Lb O) (Ca (Fa ?_));refine Zc (zs:=.of []) (.free 0 (.free 2 (.act 1 (.act 3 (.free 4 (.free 5 .nil)))))) hF ?_;intro w hF;refine Sf O (He gZ qZ O C0 1 O O) (Sf O (He gZ qZ O C0 0 O O) ?_);refine Sc hF (Pv x hx _) O (Ma MB O O) ?_;intro w hF;refine⟨hF,?_⟩;refine Sc hF (Pv y hy _) O (Ma MB O O) ?_;intro w hF;refine⟨hF,?_⟩;refine Fb O (Jb O) (Fb O (Jb O) (Ac (Ga (Fa (Va (Da (Aa (Dc O) (Aa (Oh O) (Aa (Dc O) ?_)))))))));refine Rc (d:=15) O (λhg0=>?_) (λhg0=>?_);refine Aa (Dc O) (Aa (Oh O) (Aa (Yb O O) (Aa (Jb O) (Ca ?_))));refine Fe O O (λhc0=>?_) (λhc0=>?_);refine Da (Aa (Lb O) (Ca ?_));refine Hc (v:=J 0) O O ?_;exact⟨by simp_all[Rv],hF.same⟩;refine Da (Aa (Dc O) (Aa (Oh O) (Aa (Jb O) (Ca ?_))));refine Fe O O (λhc1=>?_) (λhc1=>?_);refine Da (Aa (Lb O) (Ca ?_));refine Hc (v:=J ((-1))) O O ?_;exact⟨by simp_all[Rv],hF.same⟩;refine Da (Aa (Dc O) (Aa (Oh O) (Aa (Jb O) (Ca ?_))));refine Fe O O (λhc2=>?_) (λhc2=>?_);refine Da (Aa (Lb O) (Ca ?_));refine Hc (v:=J 1) O O ?_;exact⟨by simp_all[Rv],hF.same⟩;refine Na (Cb (Ga (Fa (Fa ?_))));refine Zc (zs:=.of []) (.free 0 (.free 2 (cQ [1,3,4] (.free 5 .nil)))) hF ?_;intro w hF;refine Sf O (He gZ qZ O C0 1 O O) (Sf O (He gZ qZ O C0 0 O O) ?_);refine Sc hF (Xr x _) O (Ma Xs O O) ?_;intro w hF;refine⟨hF,?_⟩;refine Sc hF (Xr y _) O (Ma Xs O O) ?_;intro w hF;refine⟨hF,?_⟩;refine Sc hF (Ts (Vg x) (Vg y) _) O (Ra OD O O O) ?_;intro w hF;refine⟨hF,?_⟩;refine Fb O (Lb O) (Ac (Ga (Da (Aa (Gb O) (Aa (Om O O) (Aa (Dc O) ?_))))));refine Wb (d:=32) O (λhg1=>?_) (λhg1=>?_);refine Ia (Ia (Ia (Aa (Yb O O) (Ca (Fd O (Da (Aa (Gb O) (Aa (Lb O) (Ca ?_)))))))))
 refine Hc (v:=J (Lib.compareInt (Vg x) (Vg y))) O O ?_;exact⟨by simp_all[Rv],hF.same⟩;refine Tb (He gZ qZ O hF.F 1 O O) (Oa hF (Xr x _) (Ma Xs O O) ?_);intro w hF;refine Aa (Yh O O) (Aa (Bc O O) (Ca ?_));refine Pb O O (λhc3=>?_) (λhc3=>?_);refine Da (Aa (Gb O) (Aa (Lb O) (Ca ?_)));refine Hc (v:=J (Lib.compareInt (Vg x) (Vg y))) O O ?_;exact⟨by simp_all[Rv],hF.same⟩;refine Na (Ga (Fa ?_));refine Zc (zs:=.of []) (bQ [0,2,3] (.act 1 (.act 4 (.free 5 (.free 6 .nil))))) hF ?_;intro w hF;refine Sf O (He gZ qZ O C0 1 O O) (Sf O (He gZ qZ O C0 1 O O) (Sf O (He gZ qZ O C0 0 O O) ?_));refine Sc hF (Xr x _) O (Ma Xs O O) ?_;intro w hF;refine⟨hF,?_⟩;refine Sc hF (WY x y (by simp_all) (by simp_all) _) O (Ra PS O O O) ?_;intro w hF;refine⟨hF,?_⟩;refine Bb rfl (v:=J (Vg x*I0 x y)) (λw hC=>PE rfl rfl (by rcases Zy x with h|h|h <;> rcases E3 x y with h'|h'|h' <;> rw[h,h'] <;> decide)) ?_;refine Fb O (Lb O) (Ac (Ga ?_));refine Hc (v:=J (Vg x*I0 x y)) O O ?_;exact⟨by simp_all[Rv],hF.same⟩;refine Ia (Ia (Aa (Bc O O) (Aa (Jb O) (Ca (We O (Da (Aa (Dc O) (Aa (Oh O) (Aa (Jb O) (Ca ?_))))))))));refine Fe O O (λhc1=>?_) (λhc1=>?_);refine Da (Aa (Lb O) (Ca ?_));refine Hc (v:=J ((-1))) O O ?_;exact⟨by simp_all[Rv],hF.same⟩;refine Da (Aa (Dc O) (Aa (Oh O) (Aa (Jb O) (Ca ?_))));refine Fe O O (λhc2=>?_) (λhc2=>?_);refine Da (Aa (Lb O) (Ca ?_));refine Hc (v:=J 1) O O ?_;exact⟨by simp_all[Rv],hF.same⟩;refine Na (Cb (Ga (Fa (Fa ?_))));refine Zc (zs:=.of []) (.free 0 (.free 2 (cQ [1,3,4] (.free 5 .nil)))) hF ?_;intro w hF;refine Sf O (He gZ qZ O C0 1 O O) (Sf O (He gZ qZ O C0 0 O O) ?_);refine Sc hF (Xr x _) O (Ma Xs O O) ?_;intro w hF;refine⟨hF,?_⟩;refine Sc hF (Xr y _) O (Ma Xs O O) ?_;intro w hF;refine⟨hF,?_⟩;refine Sc hF (Ts (Vg x) (Vg y) _) O (Ra OD O O O) ?_
 intro w hF;refine⟨hF,?_⟩;refine Fb O (Lb O) (Ac (Ga (Da (Aa (Gb O) (Aa (Om O O) (Aa (Dc O) ?_))))));refine Wb (d:=32) O (λhg2=>?_) (λhg2=>?_);refine Ia (Ia (Ia (Aa (Yb O O) (Ca (Fd O (Da (Aa (Gb O) (Aa (Lb O) (Ca ?_)))))))));refine Hc (v:=J (Lib.compareInt (Vg x) (Vg y))) O O ?_;exact⟨by simp_all[Rv],hF.same⟩;refine Tb (He gZ qZ O hF.F 1 O O) (Oa hF (Xr x _) (Ma Xs O O) ?_);intro w hF;refine Aa (Yh O O) (Aa (Bc O O) (Ca ?_));refine Pb O O (λhc3=>?_) (λhc3=>?_);refine Da (Aa (Gb O) (Aa (Lb O) (Ca ?_)));refine Hc (v:=J (Lib.compareInt (Vg x) (Vg y))) O O ?_;exact⟨by simp_all[Rv],hF.same⟩;refine Na (Ga (Fa ?_));refine Zc (zs:=.of []) (bQ [0,2,3] (.act 1 (.act 4 (.free 5 (.free 6 .nil))))) hF ?_;intro w hF;refine Sf O (He gZ qZ O C0 1 O O) (Sf O (He gZ qZ O C0 1 O O) (Sf O (He gZ qZ O C0 0 O O) ?_));refine Sc hF (Xr x _) O (Ma Xs O O) ?_;intro w hF;refine⟨hF,?_⟩;refine Sc hF (WY x y (by simp_all) (by simp_all) _) O (Ra PS O O O) ?_;intro w hF;refine⟨hF,?_⟩;refine Bb rfl (v:=J (Vg x*I0 x y)) (λw hC=>PE rfl rfl (by rcases Zy x with h|h|h <;> rcases E3 x y with h'|h'|h' <;> rw[h,h'] <;> decide)) ?_;refine Fb O (Lb O) (Ac (Ga ?_));refine Hc (v:=J (Vg x*I0 x y)) O O ?_;exact⟨by simp_all[Rv],hF.same⟩
theorem KI(n:Int)(h1:-9223372036854775808<=n)(h2:n<=9223372036854775807)(w0:World)(hG:Gl w0):Calls prog 47 #[J n] w0 (Pc λv w'=>v=Lm (M4 n)/\Same [] w0 w'):=by
 refine Ea func47 O ntmps47 Db (Rb _) ?_;have hF:=FR.start w0 [];refine Da (Jc (cs:=#[.bool false,I [],J 0]) hF pX O ?_);rintro b1 w hb1 hF -;refine Qb (Aa (Gb O) ?_);refine Oa hF (DG n h1 h2 (hG.ext hF.same)) (Ma IU O O) ?_;intro w hF;refine Oa hF (Zv (Lib.itoa n) (by have:=Lib.itoa_length_le n h1 h2;omega) _) (Ma IA O O) ?_;intro w hF;refine Aa (Ri O) (Aa (Dq O O) (Aa (Gj O O) ?_));refine Ye hF pX qZ O ?_;rintro b2 w hb2 hF -;refine Aa (Lb O) (Qb (Tb (He gZ qZ O hF.F 0 O O) ?_));refine Xd hF qZ O O Mr ?_;rintro w hF -;refine Ca (Ab (Za (Ka (Uh O (l:=[.bool ((M4 n).neg),I ((M4 n).digits),J ((M4 n).exp)]) O gZ qZ O (hF.cellsAll 1 O)) ?_)));exact⟨O,hF.same⟩
def Cw(x:Num):Str:=if x.neg then 45::(x.digits++Lib.repeatL [48] x.exp.toNat) else x.digits++Lib.repeatL [48] x.exp.toNat
theorem Vj(x:Num):B4 x=if Ie x=false\/x.exp<0\/19<(x.digits.length:Int)+x.exp then (0,false) else if Cw x=[] then (0,true) else if (pI (Cw x)).2=false then (0,false) else ((pI (Cw x)).1,true):=rfl
theorem Bs(c:UInt8)(n:Nat):(Lib.repeatL [c] n).length=n:=by
  induction n with
  | zero=>rfl
  | succ n ih=>unfold Lib.repeatL;simp[ih];try omega
theorem XC(x:Num)(hl:x.digits.length<=140737488355328)(w0:World)(hG:Gl w0):Calls prog 169 #[Lm x] w0 (Pc λv w'=>v=.tuple #[J (B4 x).1,.bool (B4 x).2]/\Same [] w0 w'):=by
  refine Ea func169 O ntmps169 Db (Rb _) ?_;have hF:=FR.start w0 [];refine Fa (Ha ?_);refine Le hF O ?_;intro b1 w hb1 hF hE;refine Aa (Lb O) (Aa (Jb O) ?_);refine Ua (Ga ?_);refine Fa (Fa ?_);refine Ha (Tb (He gZ qZ O hF.F 0 O O) ?_);refine Oa hF (Pv x hl _) (Ma MB O O) ?_;intro w hF;refine Aa (Oh O) (Aa (Dc O) ?_);refine Rc (d:=10) O (λhg0=>?_) (λhg0=>?_)
  ·
   refine Ia (Ia ?_);refine Ia (Aa (Yb O O) ?_);refine Aa (Dc O) (Ia ?_);refine Ia (Ia ?_);refine Ia (Ia ?_);refine Ia (Ia ?_);refine Aa (Yb O O) (Ua ?_);refine Ga (Fd O ?_);refine Fa (Ha ?_);refine Aa (Lb O) (Aa (Jb O) ?_);refine Ua (Ga ?_);refine Ab (Za (Ka (Vc (v:=J 0) (x:=.bool false) O O O) ?_));refine⟨?_,hF.same⟩
   first
   | (have hn:¬(Ie x=false\/x.exp<0\/19<(x.digits.length:Int)+x.exp):=by (refine not_or.2 ⟨by simp_all,not_or.2 ⟨by omega,by omega⟩⟩)
      rw[Vj,if_neg hn];simp_all;done)
   | (rw[Vj];simp_all;done)
  refine Aa (Ob El O) (Tb (Yi dZ O hF.F 0 O O) ?_);refine Aa (Sl O O) (Aa (Bc O O) ?_);refine Aa (Dc O) (Wb (d:=15) O (λhg1=>?_) (λhg1=>?_))
  ·
   refine Ia (Ia ?_);refine Ia (Ia ?_);refine Ia (Ia ?_);refine Ia (Aa (Yb O O) ?_);refine Ua (Ga ?_);refine Fd O (Fa ?_);refine Ha (Aa (Lb O) ?_);refine Aa (Jb O) (Ua ?_);refine Ga (Ab (Za (Ka (Vc (v:=J 0) (x:=.bool false) O O O) ?_)));refine⟨?_,hF.same⟩
   first
   | (have hn:¬(Ie x=false\/x.exp<0\/19<(x.digits.length:Int)+x.exp):=by (refine not_or.2 ⟨by simp_all,not_or.2 ⟨by omega,by omega⟩⟩)
      rw[Vj,if_neg hn];simp_all;done)
   | (rw[Vj];simp_all;done)
  refine Aa (Ob Vl O) (Tb (Rm iZ O hF.F 0 O O) ?_);refine Aa (Qr iX O) (Aa (Ob El O) ?_);refine Tb (Yi dZ O hF.F 0 O O) ?_;refine Ja (v:=J ((x.digits.length:Int)+x.exp)) (Iw O O (Sm (by have:=Gd (x:=x) (by simp_all);omega) (by have:=Gd (x:=x) (by simp_all);omega))) ?_;refine Aa (Gz O O) (Aa (Bc O O) ?_);refine Ua (Ga ?_);refine Pb O O (λhc0=>?_) (λhc0=>?_)
  ·
   refine Fa (Ha ?_);refine Aa (Lb O) (Aa (Jb O) ?_);refine Ua (Ga ?_);refine Ab (Za (Ka (Vc (v:=J 0) (x:=.bool false) O O O) ?_));refine⟨?_,hF.same⟩
   first
   | (have hn:¬(Ie x=false\/x.exp<0\/19<(x.digits.length:Int)+x.exp):=by (refine not_or.2 ⟨by simp_all,not_or.2 ⟨by omega,by omega⟩⟩)
      rw[Vj,if_neg hn];simp_all;done)
   | (rw[Vj];simp_all;done)
  refine Na (Ga ?_);refine Fa (Zc (zs:=.of []) (bQ [0,1,2,3] (.act 4 (.free 5 (.free 6 .nil)))) hF ?_);intro w hF;refine Fb O (Ob Vl O) (Sf O (Rm iZ O C0 0 O O) ?_);refine Fb O (Ob El O) (Sf O (Yi dZ O C0 0 O O) ?_);refine Sc hF (S7 x.exp Ba Ba _) O (Ra FG O O O) ?_;intro w hF;refine⟨hF,?_⟩;refine Bb rfl (v:=I ((x.digits)++(Lib.repeatL [48] x.exp.toNat))) (λw hC=>Iu rfl rfl (by have:=Bs 48 x.exp.toNat;have:=Gd (x:=x) (by simp_all);first|omega|(simp only[dQ,kQ,List.length_nil];omega))) ?_;refine Fb O (Rf O) (Ac ?_);refine Ga (Fa ?_);refine Dn (λσ w=>AllEq σ [(4,I (Cw x))]/\FR w0 [] [(b1,.cells #[.bool (x.neg),I (x.digits),J (x.exp)] 86)] w) ?_ ?_
  ·
   refine Fa (Ha ?_);refine Aa (Ob T9 O) (Tb (D6 eZ O hF.F 0 O O) ?_);refine Ua (Ga ?_);refine Fe O O (λhc1=>?_) (λhc1=>?_)
   ·
    have eT:[45]++(x.digits++Lib.repeatL [48] x.exp.toNat)=Cw x:=by unfold Cw;rw[if_pos (by assumption)];rfl
    refine Ha (Aa (Md O) ?_);refine Ja (v:=I (Cw x)) (by rw[<-eT];exact Iu rfl rfl (by have:=Bs 48 x.exp.toNat;have:=Gd (x:=x) (by simp_all);first|omega|(simp only[dQ,kQ,List.length_nil];omega))) ?_;refine Aa (Rf O) (Ua ?_);exact Xb ⟨ae1,hF⟩
   have eT:x.digits++Lib.repeatL [48] x.exp.toNat=Cw x:=by unfold Cw;rw[if_neg (by simp_all)]
   rw[eT];refine Na ?_;exact Xb ⟨ae1,hF⟩
  rintro σ w ⟨hs,hF⟩;refine Eg.slots hs ?_;clear hs;intro σ;have hT:(Cw x).length<=1020:=by have:=Bs 48 x.exp.toNat;have:=Gd (x:=x) (by simp_all);unfold Cw;split <;> simp only[dQ,kQ] <;> omega
  refine Ga (Fa ?_);refine Fa (Ha ?_);refine Aa (Md O) (Aa (L4 O O) ?_);refine Ua (Ga ?_);refine Pb O O (λhc2=>?_) (λhc2=>?_)
  ·
   refine Fa (Ha ?_);refine Aa (Lb O) (Aa (Jb O) ?_);refine Ua (Ga ?_);refine Ab (Za (Ka (Vc (v:=J 0) (x:=.bool true) O O O) ?_));refine⟨?_,hF.same⟩
   first
   | (have hn:¬(Ie x=false\/x.exp<0\/19<(x.digits.length:Int)+x.exp):=by (refine not_or.2 ⟨by simp_all,not_or.2 ⟨by omega,by omega⟩⟩)
      rw[Vj,if_neg hn];simp_all;done)
   | (rw[Vj];simp_all;done)
  refine Na (Ga ?_);refine Fa (Ha ?_);refine Aa (Md O) (Ya (BH (Cw x) Ba (hG.ext hF.same)) (Te en_198 O O O O) ?_);rintro _ w ⟨e,rfl,he,hE⟩;have hF:=hF.ext hE;refine Aa (Ri O) (Aa (Gj O O) ?_);refine Aa (yxu O O) (Aa (Lb O) ?_);refine Aa (Px) (Ua ?_);refine Ga (Fa ?_);refine Fa (Ha ?_);refine Aa (Pr) (Ja (v:=.bool (!(pI (Cw x)).2)) (NO (underlying178) he O O) ?_);refine Ua (Ga ?_);refine Fe O O (λhc3=>?_) (λhc3=>?_)
  ·
   refine Fa (Ha ?_);refine Aa (Lb O) (Aa (Jb O) ?_);refine Ua (Ga ?_);refine Ab (Za (Ka (Vc (v:=J 0) (x:=.bool false) O O O) ?_));refine⟨?_,hF.same⟩
   first
   | (have hn:¬(Ie x=false\/x.exp<0\/19<(x.digits.length:Int)+x.exp):=by (refine not_or.2 ⟨by simp_all,not_or.2 ⟨by omega,by omega⟩⟩)
      rw[Vj,if_neg hn];simp_all;done)
   | (rw[Vj];simp_all;done)
  refine Na (Ga ?_);refine Fa (Ha ?_);refine Aa (Gb O) (Aa (Lb O) ?_);refine Aa (Jb O) (Ua ?_);refine Ga (Ab (Za (Ka (Vc (v:=J ((pI (Cw x)).1)) (x:=.bool true) O O O) ?_)));refine⟨?_,hF.same⟩
  first
  | (have hn:¬(Ie x=false\/x.exp<0\/19<(x.digits.length:Int)+x.exp):=by (refine not_or.2 ⟨by simp_all,not_or.2 ⟨by omega,by omega⟩⟩)
     rw[Vj,if_neg hn];simp_all;done)
  | (rw[Vj];simp_all;done)
end Go.Scarf
