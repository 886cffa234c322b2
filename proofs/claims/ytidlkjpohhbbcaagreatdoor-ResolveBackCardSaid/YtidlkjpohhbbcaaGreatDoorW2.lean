/- A part of the proof. -/
import Derived.Test.YtidlkjpohhbbcaaGreatDoorW1
import Derived.Lib.SmallJoins
set_option linter.all false
set_option maxHeartbeats 8000000
set_option maxRecDepth 10000
namespace Go.Scarf
open Go.RowKit Go.Proofs Go.Proofs.Tryz
theorem NL(s:Str):(Vb s).1.whole.length<=s.length/\(Vb s).1.rest.length<=s.length/\(Vb s).1.exp.length<=s.length:=by
  have h1:=Kj [101,69] (Lib.trimPrefix s [45]);have h2:=Rj s [45];have h3:=Kj [46] (Pb [101,69] (Lib.trimPrefix s [45])).1;have h4:=Rj (Pb [101,69] (Lib.trimPrefix s [45])).2.1 [45];have h5:=Rj (Lib.trimPrefix (Pb [101,69] (Lib.trimPrefix s [45])).2.1 [45]) [43];unfold Vb;simp only
  repeat' split
  all_goals (refine⟨?_,?_,?_⟩ <;> simp only[Sm,List.length_nil] <;> omega)
def Wz(s:Str):Int:=if (Vb s).1.low then-Zh (Lib.trimLeftB (Vb s).1.exp 48) else Zh (Lib.trimLeftB (Vb s).1.exp 48)
theorem Jm(s:Str):Uc s=if (Vb s).2=false then (Num.zero,2) else
  if 1000<(Vb s).1.whole.length+(Vb s).1.rest.length then (Num.zero,3) else
  if 9<(Lib.trimLeftB (Vb s).1.exp 48).length then (Num.zero,4) else
  if Lib.trimLeftB ((Vb s).1.whole++(Vb s).1.rest) 48=[] then (Num.zero,0) else
  if Fe (⟨(Vb s).1.neg,Lib.trimRightB (Lib.trimLeftB ((Vb s).1.whole++(Vb s).1.rest) 48) 48,Wz s-(Vb s).1.rest.length+(Lib.trimLeftB ((Vb s).1.whole++(Vb s).1.rest) 48).length-(Lib.trimRightB (Lib.trimLeftB ((Vb s).1.whole++(Vb s).1.rest) 48) 48).length⟩)=false then (Num.zero,4) else
  (⟨(Vb s).1.neg,Lib.trimRightB (Lib.trimLeftB ((Vb s).1.whole++(Vb s).1.rest) 48) 48,Wz s-(Vb s).1.rest.length+(Lib.trimLeftB ((Vb s).1.whole++(Vb s).1.rest) 48).length-(Lib.trimRightB (Lib.trimLeftB ((Vb s).1.whole++(Vb s).1.rest) 48) 48).length⟩,0):=rfl
theorem UR{s:Str}{q:Nat}(h:q<s.length)(ha:s.all Bi=true):(Utf8.decode (bs s) q).1=s[q].toNat/\(Utf8.decode (bs s) q).2=1/\48<=s[q].toNat/\s[q].toNat<=57:=by
  have hd:=List.all_eq_true.1 ha s[q] (eQ h);have:=ID s q h hd;rw[this];unfold Bi at hd;simp only[Bool.and_eq_true,decide_eq_true_eq]at hd;exact⟨O,O,hd.1,hd.2⟩
theorem GZ{f:UInt8->Bool}{s:Str}(q:Nat)(h:s.all f=true):(s.take q).all f=true:=by
  rw[List.all_eq_true]at h ⊢;exact λx hx=>h x (List.mem_of_mem_take hx)
theorem Yz(s:Str)(hl:s.length<=140737488355328)(w0:World):Calls prog 100 #[I s] w0 (Oc λv w'=>v=.tuple #[Co (Uc s).1,J (Uc s).2]/\Same [] w0 w'):=by
 have hls:=NL s;have ht0:=Hw (Vb s).1.exp 48;have ht1:=Hw ((Vb s).1.whole++(Vb s).1.rest) 48;rw[dQ]at ht1;have ht2:=Q4 (Lib.trimLeftB ((Vb s).1.whole++(Vb s).1.rest) 48) 48;refine Ea func100 O ntmps100 Bb (Tb _) ?_;have hF:=FR.start w0 [];refine Da (Gc (cs:=#[.bool false,I [],J 0]) hF wX O ?_);rintro b1 w hb1 hF -;refine Ba (Gb O) (Ob (Ba (Pd O) ?_));refine Qa hF (read_c s hl _) (Ma en_154 O O) ?_;intro w hF;refine Ba (Aj O) (Ba (Ru O O) (Ba (Xn O O) ?_));refine Hf hF zeroValue176 mZ O ?_;rintro b2 w hb2 hF -;refine Ba (Kb O) (Ob (Ba (Rb HF O) (Yb (Tn fZ O hF.F 0 O O) ?_)));refine Qa hF (B2 (Vb s).1.exp _) (Ua en_155 O O O) ?_;intro w hF;refine Ba (Xf O) (Ca (Fa (Sa (Da (Ba (Sc O) (Ba (Wi O) (Ba (Kb O) (Ca ?_))))))));refine He O O (λhc0=>?_) (λhc0=>?_);refine Da (Ia (w':=w) (v:=.agg #[.bool false,I [],J 0]) Ib ?_);refine Ke hF tZ O O Tr ?_;rintro w hF -;refine Ba (Gb O) (Ca ?_);refine Xa (Va (Ka (Ae O (l:=[.bool false,I [],J 0]) O gZ tZ O (hF.cellsAll 1 O) (v:=J 2) O) ?_));exact⟨by rw[Jm,if_pos (by simpa using hc0)];rfl,hF.same⟩;refine Da (Ba (Rb D5 O) (Yb (Tn fZ O hF.F 0 O O) (Ba (Rp oX O) (Ba (Rb Nz O) (Yb (Tn fZ O hF.F 0 O O) (Ba (Rp oX O) (Ba (Fm O O) (Ba (Yx O O) (Ba (Kb O) (Ca ?_))))))))));refine Lb O O (λhc1=>?_) (λhc1=>?_);refine Da (Ia (w':=w) (v:=.agg #[.bool false,I [],J 0]) Ib ?_);refine Ke hF tZ O O Tr ?_;rintro w hF -;refine Ba (Gb O) (Ca ?_);refine Xa (Va (Ka (Ae O (l:=[.bool false,I [],J 0]) O gZ tZ O (hF.cellsAll 1 O) (v:=J 3) O) ?_));exact⟨by rw[Jm,if_neg (by simpa using hc0),if_pos Aa];rfl,hF.same⟩;refine Da (Ba (Pd O) (Ba (Rp oX O) (Ba (Yx O O) (Ba (Kb O) (Ca ?_)))));refine Lb O O (λhc2=>?_) (λhc2=>?_);refine Da (Ia (w':=w) (v:=.agg #[.bool false,I [],J 0]) Ib ?_);refine Ke hF tZ O O Tr ?_;rintro w hF -;refine Ba (Gb O) (Ca ?_)
 refine Xa (Va (Ka (Ae O (l:=[.bool false,I [],J 0]) O gZ tZ O (hF.cellsAll 1 O) (v:=J 4) O) ?_));exact⟨by rw[Jm,if_neg (by simpa using hc0),if_neg Aa,if_pos Aa];rfl,hF.same⟩;refine Na (Wa (Ga (Da (Ba (Gb O) (Ca (Fa (Da (Ba (Pd O) ?_))))))));refine Gr (str:=(Lib.trimLeftB (Vb s).1.exp 48)) hF oX O ?_;rintro b3 w hb3 hF -;refine Ca (Sa ?_);have hall:(Lib.trimLeftB (Vb s).1.exp 48).all Bi=true:=Qw (VT (by simp_all));refine Rc (λμ σ w=>∃(q:Nat),μ=(Lib.trimLeftB (Vb s).1.exp 48).length-q/\(q<=(Lib.trimLeftB (Vb s).1.exp 48).length)/\AllEq σ [(2,V b1),(4,V b2),(7,J (Zh ((Lib.trimLeftB (Vb s).1.exp 48).take q))),(41,V b3)]/\FR w0 [] [(b3,.stringIter (bs ((Lib.trimLeftB (Vb s).1.exp 48))) (q)),(b2,.cells #[.bool ((Vb s).1.neg),.bool ((Vb s).1.low),I ((Vb s).1.whole),I ((Vb s).1.rest),I ((Vb s).1.exp)] 176),(b1,.cells #[.bool false,I [],J 0] 90)] w) _ ⟨0,O,(Nat.zero_le _),Ur,hF⟩ ?_;rintro μ σ w ⟨q,rfl,hq,hs,hF⟩;refine Cg.slots hs ?_;clear hs;intro σ;refine Da ?_;by_cases hn0:(q)<((Lib.trimLeftB (Vb s).1.exp 48):Str).length;refine Yv 0 (p:=q) (str:=(Lib.trimLeftB (Vb s).1.exp 48)) hF O O hn0 ?_;rintro w hF -;refine Ba (Xn O O) (Ca (Fa (Od O (Na (Ga (Sa (Da (Ba (Nh O O) (Ba (Gb O) (Ca ?_))))))))));refine Ja (Ba (Cb O) ?_);have hv:=UR (s:=(Lib.trimLeftB (Vb s).1.exp 48)) (q:=q) Aa hall;have hb:=G_ ((Lib.trimLeftB (Vb s).1.exp 48).take q) (GZ q hall) (by rw[List.length_take];omega);refine Ia (v:=J (10*Zh ((Lib.trimLeftB (Vb s).1.exp 48).take q))) (DA O O (Tl Aa Aa Aa)) (Ba (Cb O) ?_);refine Ia (v:=.int .i32 (((Utf8.decode (bs (Lib.trimLeftB (Vb s).1.exp 48)) q).1:Int)-48)) (Ws O O (by rw[IntKind.wrap_i32];omega)) ?_;refine Ia (v:=J (((Utf8.decode (bs (Lib.trimLeftB (Vb s).1.exp 48)) q).1:Int)-48)) (Yd cX gX O (Do Aa Aa)) ?_;refine Ia (v:=J (Zh ((Lib.trimLeftB (Vb s).1.exp 48).take (q+1)))) (Kr O O (by rw[I2 _ q Aa,hv.1];exact Do Aa Aa)) ?_
 refine Ba (Gb O) (Eb (Wa ?_));rw[hv.2.1]at hF;refine Qb ⟨_,?_,q+1,O,Aa,Ur,hF⟩;omega;refine Dm 0 (p:=q) (str:=(Lib.trimLeftB (Vb s).1.exp 48)) hF O O hn0 (Ba (Xn O O) (Ca (Fa (Te O ?_))));refine Ic (Ec O ?_);refine Ga ?_;have eT:(Lib.trimLeftB (Vb s).1.exp 48).take q=(Lib.trimLeftB (Vb s).1.exp 48):=List.take_of_length_le Aa;have hb:=G_ (Lib.trimLeftB (Vb s).1.exp 48) hall Aa;have hE:-1000000000<Wz s/\Wz s<1000000000:=by unfold Wz;split <;> omega
 refine Fa (Eh (λσ w=>AllEq σ [(2,V b1),(4,V b2),(7,J (Wz s))]/\FR w0 [] [(b3,.stringIter (bs ((Lib.trimLeftB (Vb s).1.exp 48))) (q)),(b2,.cells #[.bool ((Vb s).1.neg),.bool ((Vb s).1.low),I ((Vb s).1.whole),I ((Vb s).1.rest),I ((Vb s).1.exp)] 176),(b1,.cells #[.bool false,I [],J 0] 90)] w) ?_ ?_);refine Da (Ba (Rb V7 O) (Yb (OE cZ O hF.F 1 O O) (Ca ?_)));refine He O O (λhc4=>?_) (λhc4=>?_);have eE:Wz s = - Zh (Lib.trimLeftB (Vb s).1.exp 48):=by unfold Wz;rw[if_pos (by assumption)]
 refine Ja (Ba (Cb O) ?_);refine Ia (v:=J (Wz s)) (x_neg O (by rw[eT,eE];exact Tl Aa Aa Aa)) ?_;refine Ba (Gb O) (Eb ?_);exact Qb ⟨Tu,hF⟩;have eE:Wz s=Zh (Lib.trimLeftB (Vb s).1.exp 48):=by unfold Wz;rw[if_neg (by simp_all)]
 rw[eT,<-eE];refine Na ?_;exact Qb ⟨Tu,hF⟩;rintro σ w ⟨hs,hF⟩;refine Eg.slots hs ?_;clear hs;intro σ;refine Ga (Da (Ba (Rb D5 O) (Yb (Tn fZ O hF.F 1 O O) (Ba (Rb Nz O) (Yb (Tn fZ O hF.F 1 O O) (Ia (v:=I (((Vb s).1.whole)++((Vb s).1.rest))) (Pw O O Aa) ?_))))));refine Qa hF (B2 ((Vb s).1.whole++(Vb s).1.rest) _) (Ua en_155 O O O) ?_;intro w hF;refine Ba (Xf O) (Ca (Fa (Da (Ba (Pd O) (Ba (yes O O) (Ca ?_))))));refine Lb O O (λhc5=>?_) (λhc5=>?_);refine Da (Ia (w':=w) (v:=.agg #[.bool false,I [],J 0]) Ib ?_);refine Ke hF tZ O O B0 ?_;rintro w hF -;refine Ba (Gb O) (Ca ?_);refine Xa (Va (Ka (Ae O (l:=[.bool false,I [],J 0]) O gZ tZ O (hF.cellsAll 2 O) (v:=J 0) O) ?_));exact⟨by rw[Jm,if_neg (by simpa using hc0),if_neg Aa,if_neg Aa,if_pos hc5];rfl,hF.same⟩;refine Na (Ga (Da (Ba (Pd O) ?_)));refine Qa hF (IB (Lib.trimLeftB ((Vb s).1.whole++(Vb s).1.rest) 48) _ Aa) (Ua en_156 O O O) ?_;intro w hF;refine Ba (Xf O) (Ob (Ba (Rb XF O) (Yb (OE cZ O hF.F 1 O O) (Ba (Pd O) (Ba (Cb O) (Ba (Rb Nz O) (Yb (Tn fZ O hF.F 1 O O) (Ba (Rp oX O) (Ba (ysb1 O O) (Ba (Pd O) ?_))))))))));refine Ba (Rp oX O) (Ba (Fm O O) (Ba (Pd O) (Ba (Rp oX O) (Ba (ysb1 O O) ?_))));refine Ia (w':=w) (v:=.agg #[.bool ((Vb s).1.neg),I ((Lib.trimRightB (Lib.trimLeftB ((Vb s).1.whole++(Vb s).1.rest) 48) 48)),J ((((Wz s:Int)-((((Vb s).1.rest):Str).length:Int):Int)+((((Lib.trimLeftB ((Vb s).1.whole++(Vb s).1.rest) 48)):Str).length:Int):Int)-((((Lib.trimRightB (Lib.trimLeftB ((Vb s).1.whole++(Vb s).1.rest) 48) 48)):Str).length:Int))]) Ib (Hf hF wX tZ O ?_);rintro b4 w hb4 hF -;refine Ca (Fa (Da (Yb (Ig gZ tZ O hF.F 0 O O) ?_)));refine Qa hF (Xy (⟨(Vb s).1.neg,(Lib.trimRightB (Lib.trimLeftB ((Vb s).1.whole++(Vb s).1.rest) 48) 48),Wz s-(Vb s).1.rest.length+(Lib.trimLeftB ((Vb s).1.whole++(Vb s).1.rest) 48).length-(Lib.trimRightB (Lib.trimLeftB ((Vb s).1.whole++(Vb s).1.rest) 48) 48).length⟩) (by show (Lib.trimRightB (Lib.trimLeftB ((Vb s).1.whole++(Vb s).1.rest) 48) 48).length<=_;omega) _) (Ma DJ O O) ?_
 intro w hF;refine Ba (Wi O) (Ca ?_);refine He O O (λhc6=>?_) (λhc6=>?_);refine Da (Ia (w':=w) (v:=.agg #[.bool false,I [],J 0]) Ib ?_);refine Ke hF tZ O O H8 ?_;rintro w hF -;refine Ba (Gb O) (Ca ?_);refine Xa (Va (Ka (Ae O (l:=[.bool false,I [],J 0]) O gZ tZ O (hF.cellsAll 3 O) (v:=J 4) O) ?_));exact⟨by rw[Jm,if_neg (by simpa using hc0),if_neg Aa,if_neg Aa,if_neg hc5,if_pos (by simpa using hc6)];rfl,hF.same⟩;refine Na (Ga (Da (Yb (Ig gZ tZ O hF.F 0 O O) ?_)));refine Ke hF tZ O O H8 ?_;rintro w hF -;refine Ba (Gb O) (Ca ?_);refine Xa (Va (Ka (Ae O (l:=[.bool ((Vb s).1.neg),I ((Lib.trimRightB (Lib.trimLeftB ((Vb s).1.whole++(Vb s).1.rest) 48) 48)),J ((((Wz s:Int)-((((Vb s).1.rest):Str).length:Int):Int)+((((Lib.trimLeftB ((Vb s).1.whole++(Vb s).1.rest) 48)):Str).length:Int):Int)-((((Lib.trimRightB (Lib.trimLeftB ((Vb s).1.whole++(Vb s).1.rest) 48) 48)):Str).length:Int))]) O gZ tZ O (hF.cellsAll 3 O) (v:=J 0) O) ?_));exact⟨by rw[Jm,if_neg (by simpa using hc0),if_neg Aa,if_neg Aa,if_neg hc5,if_neg (by simpa using hc6)];rfl,hF.same⟩
def Fh(x:Num):Int:=if x.digits=[] then 0 else if x.neg then -1 else 1
def VO:List Int->Int|[]=>0|x::r=>if x≠0 then x else VO r
theorem GJ:∀{l:List Int},(∀x∈l,x=0)->VO l=0
  | [],_=>rfl
  | x::r,h=>by unfold VO;rw[if_neg (by simp[h x La])];exact GJ (λy hy=>h y (by simp[hy]))
theorem DW:∀{l:List Int}{j:Nat}(h:j<l.length),(∀x∈l.take j,x=0)->l[j]≠0->VO l=l[j]
  | [],_,h,_,_=>absurd h La
  | x :: r, 0, _, _, hn => by
    have hn':x≠0:=hn;unfold VO;rw[if_pos hn'];rfl
  | x :: r, j + 1, h, hz, hn => by
    unfold VO;rw[if_neg (by simp[hz x La]),DW (j:=j) (by simpa using h) (λy hy=>hz y (by simp[hy])) (by simpa using hn)];rfl
def UC(x y:Num):Int:=VO [Lib.compareInt (x.digits.length+x.exp) (y.digits.length+y.exp),Lib.compareBytes x.digits y.digits]
def VE(x y:Num):Int :=
  if Fe x=false then (if Fe y=false then 0 else -1) else if Fe y=false then 1 else
  if Lib.compareInt (Fh x) (Fh y)≠0 then Lib.compareInt (Fh x) (Fh y) else if Fh x=0 then 0 else Fh x*UC x y
def Q8(n:Int):Num:=(Uc (Lib.itoa n)).1
def pI(s:Str):Int × Bool:=match Lib.parseIntB 64 s with|.ok v=>(v,true)|.range=>(Lib.intSat 64 s,false)|_=>(0,false)
def B8(x:Num):Int × Bool :=
  if Fe x=false\/x.exp<0\/19<(x.digits.length:Int)+x.exp then (0,false) else
  let t:=x.digits++Lib.repeatL [48] x.exp.toNat
  let u:=if x.neg then 45::t else t
  if u=[] then (0,true) else if (pI u).2=false then (0,false) else ((pI u).1,true)
def YA(e:Value)(b:Bool):Prop:=if b then ∃tp q,e=.iface tp q else e=.nilIface
theorem AS{P:Program}{ρ:Operand->Value}{w:World}{dst:Option Nat}{ty:TypeId}{pos:String}{aft:Array Edge}{g:Option (Nat × Bool)}{t t':TypeId}{x:Operand}{e:Value}{b:Bool}(ht:P.underlying t=some (.interface (P.methodsAt t)))(he:YA e b)(hx:ρ x=e)(hy:ρ (.const .nilIface)=.nilIface) :
    (execOp ρ ⟨dst,.binOp .neq t x (.const .nilIface) t',ty,pos,aft,g⟩).run P w=.ok (.value (.bool b)) w:=by
  unfold YA at he;cases b
  ·simp only[Bool.false_eq_true,if_false]at he;subst he;exact KA ht hx hy
  simp only[if_true]at he;obtain⟨tp,q,rfl⟩:=he;exact M2 ht hx hy
theorem Ys(w:World)(e:TypeId)(s:ByteArray):Same [] w (Lib.bytesWorld w e s) :=
  .of_below (Joins.below_bytesWorld _ w e s (gQ _))
theorem JM(s:Str)(hl:s.length<=140737488355328){w:World}(hG:Gl w):Calls prog 255 #[I s,J 10,J 64] w (Oc λv w'=>∃e,v=.tuple #[J (pI s).1,e]/\YA e (!(pI s).2)/\Same [] w w'):=by
  cases h:Lib.parseIntB 64 s with
  | ok n =>
    refine (strconv_ParseInt_10_at64_ok (bs s) (by rw[Zn];omega) n h w).mono ?_;rintro e w' ⟨rfl,hw⟩;refine⟨_,O,.nilIface,by simp[pI,h],by simp[pI,h,YA],?_⟩;rcases hw with rfl|⟨t,rfl⟩
    ·exact Same.refl _ _
    exact Ys w 5 t
  | range =>
    obtain⟨tp,q,hv⟩:=hG.err;refine (strconv_ParseInt_10_at64_range_var (bs s) (by rw[Zn];omega) h tp q w hv).mono ?_;rintro e w' ⟨N,rfl,-,-,hb⟩;exact⟨_,O,.iface 304 (V N),by simp only[pI,h],by simp[pI,h,YA],.of_below hb⟩
  | _ =>
    obtain⟨tp,q,hv⟩:=hG.serr;refine (Any.strconv_ParseInt_10_at64_syntax_var laysC174 (bs s) (by rw[Zn];omega) h tp q w hv).mono ?_;rintro e w' ⟨N,rfl,-,-,hb⟩;exact⟨_,O,.iface 304 (V N),(by simp[pI,h];rfl),by simp[pI,h,YA],.of_below hb⟩
theorem AA(c:Int)(h0:0<=c)(h1:c<=19)(w:World):Calls prog 254 #[I [48],J c] w (Oc λv w'=>v=I (Lib.repeatL [48] c.toNat)/\Same [] w w'):=by
  have h:=strings_Repeat (bs [48]) c.toNat w Aa (by rw[Zn];simp;omega);rw[Int.toNat_of_nonneg h0]at h;exact Kv h
theorem TS{w:World}{ad:Addr}{a b:Int}(h:∀j (hj:j<[Value.int .i64 a,Value.int .i64 b].length),w.cell? (ad.add j)=some [Value.int .i64 a,Value.int .i64 b][j]) :
    ∀j (hj:j<[a,b].length),w.cell? (ad.add j)=some (.int .i64 [a,b][j])
  | 0,_=>h 0 La
  | 1,_=>h 1 La
  | j+2,hj=>absurd hj La
theorem K9{w:World}{ad:Addr}{a b c:Int}(h:∀j (hj:j<[Value.int .i64 a,Value.int .i64 b,Value.int .i64 c].length),w.cell? (ad.add j)=some [Value.int .i64 a,Value.int .i64 b,Value.int .i64 c][j]) :
    ∀j (hj:j<[a,b,c].length),w.cell? (ad.add j)=some (.int .i64 [a,b,c][j])
  | 0,_=>h 0 La
  | 1,_=>h 1 La
  | 2,_=>h 2 La
  | j+3,hj=>absurd hj La
theorem DI(x:Num):Fh x=0\/Fh x=1\/Fh x = -1:=by
  unfold Fh;split
  ·simp
  split <;> simp
theorem N0(x y:Int):Lib.compareInt x y=0\/Lib.compareInt x y=1\/Lib.compareInt x y = -1:=by
  unfold Lib.compareInt;split
  ·simp
  split <;> simp
theorem Xk:∀(x y:Str),Lib.compareBytes x y=0\/Lib.compareBytes x y=1\/Lib.compareBytes x y = -1
  | [],[]=>by simp[Lib.compareBytes]
  | [],_::_=>by simp[Lib.compareBytes]
  | _::_,[]=>by simp[Lib.compareBytes]
  | a :: r, b :: q => by
    have:=Xk r q;unfold Lib.compareBytes;split
    ·simp
    split
    ·simp
    exact this
theorem CK(x y:Num):UC x y=0\/UC x y=1\/UC x y = -1:=by
  unfold UC VO;split
  ·exact N0 _ _
  unfold VO;split
  ·exact Xk _ _
  left;rfl
theorem take_zero{l:List Int}{j:Nat}(h:j<l.length)(hz:∀x∈l.take j,x=0)(hn:l[j]=0):∀x∈l.take (j+1),x=0:=by
  rw[iQ h];intro c hc;rcases mQ.1 hc with hc|hc
  ·exact hz c hc
  simp only[pQ]at hc;rw[hc];exact hn
theorem FC(x:Num)(w0:World):Calls prog 196 #[Co x] w0 (Oc λv w'=>v=J (Fh x)/\Same [] w0 w'):=by
 refine Ea func196 O ntmps196 Bb (Tb _) ?_;have hF:=FR.start w0 [];refine Da (Df hF O ?_);rintro b1 w hb1 hF -;refine Ba (Gb O) (Ca (Fa (Sa (Da (Ba (Rb Vm O) (Yb (Tn fZ O hF.F 0 O O) (Ba (yes O O) (Ba (Kb O) (Ca ?_)))))))));refine Lb O O (λhc0=>?_) (λhc0=>?_);refine Da (Ba (Gb O) (Ca ?_));refine Lc (v:=J 0) O O ?_;exact⟨by simp_all[Fh],hF.same⟩;refine Da (Ba (Rb NE O) (Yb (OE cZ O hF.F 0 O O) (Ba (Kb O) (Ca ?_))));refine He O O (λhc1=>?_) (λhc1=>?_);refine Da (Ba (Gb O) (Ca ?_));refine Lc (v:=J ((-1))) O O ?_;exact⟨by simp_all[Fh],hF.same⟩;refine Na (Wa (Ga (Da (Ba (Gb O) (Ca ?_)))));refine Lc (v:=J 1) O O ?_;exact⟨by simp_all[Fh],hF.same⟩
theorem or_c(l:List Int)(ad:Addr)(c:Nat)(hlen:l.length<=140737488355328)(w0:World)(hc:∀j (h:j<l.length),w0.cell? (ad.add j)=some (J l[j])):Calls prog 133 #[.slice (some ad) l.length c] w0 (Oc λv w'=>v=J (VO l)/\Same [] w0 w'):=by
 refine Ea func133 O ntmps133 Bb (Tb _) ?_;have hF:=FR.start w0 [];refine Da (Ba (Gb O) (Ob (Ba (Gb O) (Ca (Fa (Da (Ba (Qe O) ?_)))))));refine Ba (Qg lX O) (Ba (Cb O) (Ca (Sa ?_)));refine Rc (λμ σ w=>∃(j:Nat),μ=l.length-j/\(j<=l.length)/\(∀x∈l.take j,x=0)/\AllEq σ [(3,J 0),(6,.slice (some ad) (l.length) (c)),(7,J ((l.length:Nat))),(8,J ((j:Int)))]/\FR w0 [] [] w) _ ⟨0,O,(Nat.zero_le _),La,Ur,hF⟩ ?_;rintro μ σ w ⟨j,rfl,hj,hz,hs,hF⟩;refine Cg.slots hs ?_;clear hs;intro σ;refine Da (Ba (Dl O O) (Ca (Fa ?_)));refine Lb O O (λhc0=>?_) (λhc0=>?_);refine Na (Ga (Fa (Sa (Da (Ia (v:=.pointer (some (ad.add (j*1)))) (Ra (i:=(j:Int)) H_ O O O Aa Aa) ?_)))));have hcj:w0.cell? (ad.add (j*1))=some (J l[j]):=by rw[Nat.mul_one];exact hc j Aa
 refine Ia (v:=J (l[j])) (Yc xQ O (hF.cell0 hcj)) (Ba (Gb O) (Ob (Ba (Cb O) (Ba (Cb O) (Ba (Sn O O) (Ca ?_))))));refine Lb O O (λhc1=>?_) (λhc1=>?_);refine Da (Ba (Cb O) (Ba (Gb O) (Ca ?_)));refine Lc (v:=J (l[j])) O O ?_;exact⟨by rw[DW Aa hz (by simpa using hc1)],hF.same⟩;refine Na (Wa (Ga (Ja (Ba (Fm O O) (Ba (Cb O) (Eb ?_))))));refine Qb ⟨_,?_,j+1,O,Aa,(take_zero Aa hz (by simpa using hc1)),Ur,hF⟩;omega;refine Ic (Ec O ?_);refine Ga (Da (Ba (Cb O) (Ba (Gb O) (Ca ?_))));refine Lc (v:=J 0) O O ?_;have e:l.take j=l:=List.take_of_length_le Aa;rw[e]at hz;exact⟨by rw[GJ hz],hF.same⟩
theorem far_c(x y:Num)(hx:Fe x=true)(hy:Fe y=true)(w0:World):Calls prog 197 #[Co x,Co y] w0 (Oc λv w'=>v=J (UC x y)/\Same [] w0 w'):=by
 have h1:=Xd hx;have h2:=Xd hy;refine Ea func197 O ntmps197 Bb (Nc _ _) ?_;have hF:=FR.start w0 [];refine Da (Df hF O ?_);rintro b1 w hb1 hF -;refine Df hF O ?_;rintro b2 w hb2 hF -;refine Ba (Gb O) (Ob (Ba (Rb Vm O) (Yb (Tn fZ O hF.F 1 O O) (Ba (Rp oX O) (Ba (Rb Ql O) (Yb (Pi xQ O hF.F 1 O O) (Ba (Fm O O) (Ba (Rb Vm O) (Yb (Tn fZ O hF.F 0 O O) (Ba (Rp oX O) ?_))))))))));refine Ba (Rb Ql O) (Yb (Pi xQ O hF.F 0 O O) (Ba (Fm O O) ?_));refine Qa hF (Yy (x.digits.length+x.exp) (y.digits.length+y.exp) _) (Ua CE O O O) ?_;intro w hF;refine Ba (Gb O) (Ob (Ba (Cb O) (Ba (Rb Vm O) (Yb (Tn fZ O hF.F 1 O O) (Ba (Rb Vm O) (Yb (Tn fZ O hF.F 0 O O) ?_))))));refine Qa hF (Cp x.digits y.digits _) (Ua ZF O O O) ?_;intro w hF;refine Ck 2 hF (Fb (cs:=#[J (Lib.compareInt (x.digits.length+x.exp) (y.digits.length+y.exp)),J (Lib.compareBytes x.digits y.digits)]) lX sizeOf3 rX Oa Oa Ib) ?_;rintro b3 w hb3 hF -;refine Qa hF (or_c [Lib.compareInt (x.digits.length+x.exp) (y.digits.length+y.exp),Lib.compareBytes x.digits y.digits] _ 2 La _ (TS (hF.cellsAll 0 O))) (Ma QK O O) ?_;intro w hF;refine Ba (Gb O) (Ca ?_);refine Lc (v:=J (UC x y)) O O ?_;exact⟨O,hF.same⟩
theorem FE(x y:Num)(hx:x.digits.length<=140737488355328)(hy:y.digits.length<=140737488355328)(w0:World):Calls prog 132 #[Co x,Co y] w0 (Oc λv w'=>v=J (VE x y)/\Same [] w0 w'):=by
 refine Ea func132 O ntmps132 Bb (Nc _ _) ?_;have hF:=FR.start w0 [];refine Da (Df hF O ?_);rintro b1 w hb1 hF -;refine Df hF O ?_;rintro b2 w hb2 hF -;refine Ba (Gb O) (Ca (Fa ?_));refine Be (zs:=.of []) (.free 0 (.free 2 (.act 1 (.act 3 (.free 4 (.free 5 .nil)))))) hF ?_;intro w hF;refine Nf O (Ig gZ tZ O C0 1 O O) (Nf O (Ig gZ tZ O C0 0 O O) ?_);refine Vd hF (Xy x hx _) O (Ma DJ O O) ?_;intro w hF;refine⟨hF,?_⟩;refine Vd hF (Xy y hy _) O (Ma DJ O O) ?_;intro w hF;refine⟨hF,?_⟩;refine Hb O (Kb O) (Hb O (Kb O) (d_nil (Ga (Fa (Sa (Fa ?_))))));refine Eh (λσ w=>∃(bd:Bool),(bd=(!Fe x && !Fe y))/\AllEq σ [(2,V b1),(3,V b2),(5,.bool (Fe x)),(6,.bool (Fe y)),(12,.bool (bd))]/\FR w0 [] [(b2,.cells #[.bool (y.neg),I (y.digits),J (y.exp)] 90),(b1,.cells #[.bool (x.neg),I (x.digits),J (x.exp)] 90)] w) ?_ ?_;refine Ja (Ba (Sc O) (Ba (Wi O) (Ba (Sc O) ?_)));refine Je (d:=15) O (λhg0=>?_) (λhg0=>?_);refine Ba (Sc O) (Ba (Wi O) (Ba (Fc O O) (Ba (Kb O) (Eb ?_))));exact Qb ⟨(!(Fe y)),(by simp_all),U7,hF⟩;refine Ha (Ha (Ba (Pc O O) (Ba (Kb O) (Eb ?_))));exact Qb ⟨(false),(by simp_all),U7,hF⟩;rintro σ w ⟨bd,hbd,hs,hF⟩;refine Eg.slots hs ?_;clear hs;intro σ;refine Ga (He O O (λhc0=>?_) (λhc0=>?_));refine Da (Ba (Gb O) (Ca ?_));refine Lc (v:=J 0) O O ?_;exact⟨by simp_all[VE],hF.same⟩;refine Da (Ba (Sc O) (Ba (Wi O) (Ba (Kb O) (Ca ?_))));refine He O O (λhc1=>?_) (λhc1=>?_);refine Da (Ba (Gb O) (Ca ?_));refine Lc (v:=J ((-1))) O O ?_;exact⟨by simp_all[VE],hF.same⟩;refine Da (Ba (Sc O) (Ba (Wi O) (Ba (Kb O) (Ca ?_))));refine He O O (λhc2=>?_) (λhc2=>?_);refine Da (Ba (Gb O) (Ca ?_));refine Lc (v:=J 1) O O ?_;exact⟨by simp_all[VE],hF.same⟩;refine Na (Wa (Ga (Fa (Fa ?_))));refine Be (zs:=.of []) (.free 0 (.free 2 (cQ [1,3,4] (.free 5 .nil)))) hF ?_;intro w hF;refine Nf O (Ig gZ tZ O C0 1 O O) (Nf O (Ig gZ tZ O C0 0 O O) ?_)
 refine Vd hF (FC x _) O (Ma GE O O) ?_;intro w hF;refine⟨hF,?_⟩;refine Vd hF (FC y _) O (Ma GE O O) ?_;intro w hF;refine⟨hF,?_⟩;refine Vd hF (Yy (Fh x) (Fh y) _) O (Ua CE O O O) ?_;intro w hF;refine⟨hF,?_⟩;refine Hb O (Gb O) (d_nil (Ga (Fa ?_)));refine Eh (λσ w=>∃(be:Bool),(be=(decide (Lib.compareInt (Fh x) (Fh y)≠0) || decide (Fh x=0)))/\AllEq σ [(2,V b1),(3,V b2),(7,J (Lib.compareInt (Fh x) (Fh y))),(36,.bool (be))]/\FR w0 [] [(b2,.cells #[.bool (y.neg),I (y.digits),J (y.exp)] 90),(b1,.cells #[.bool (x.neg),I (x.digits),J (x.exp)] 90)] w) ?_ ?_;refine Ja (Ba (Cb O) (Ba (Sn O O) (Ba (Sc O) ?_)));refine Wb (d:=32) O (λhg1=>?_) (λhg1=>?_);refine Ha (Ha (Ha (Ba (Fc O O) (Eb ?_))));exact Qb ⟨(true),(by simp_all),Ur,hF⟩;refine Yb (Ig gZ tZ O hF.F 1 O O) (Qa hF (FC x _) (Ma GE O O) ?_);intro w hF;refine Ba (Xh O O) (Ba (Pc O O) (Eb ?_));exact Qb ⟨(decide ((Fh x:Int)=(0:Int))),(by simp_all),Ur,hF⟩;rintro σ w ⟨be,hbe,hs,hF⟩;refine Eg.slots hs ?_;clear hs;intro σ;refine Ga (He O O (λhc3=>?_) (λhc3=>?_));refine Da (Ba (Cb O) (Ba (Gb O) (Ca ?_)));refine Lc (v:=J (Lib.compareInt (Fh x) (Fh y))) O O ?_;have hb2:¬Lib.compareInt (Fh x) (Fh y)=0\/Fh x=0:=by simpa[hbe]using hc3
 exact⟨by clear hbe hF hbd;by_cases h:Lib.compareInt (Fh x) (Fh y)=0 <;> simp_all[VE],hF.same⟩;refine Na (Ga (Fa ?_));refine Be (zs:=.of []) (bQ [0,2,3] (.act 1 (.act 4 (.free 5 (.free 6 .nil))))) hF ?_;intro w hF;refine Nf O (Ig gZ tZ O C0 1 O O) (Nf O (Ig gZ tZ O C0 1 O O) (Nf O (Ig gZ tZ O C0 0 O O) ?_));refine Vd hF (FC x _) O (Ma GE O O) ?_;intro w hF;refine⟨hF,?_⟩;refine Vd hF (far_c x y (by simp_all) (by simp_all) _) O (Ua en_197 O O O) ?_;intro w hF;refine⟨hF,?_⟩;refine Ab rfl (v:=J (Fh x*UC x y)) (λw hC=>DA rfl rfl (by rcases DI x with h|h|h <;> rcases CK x y with h'|h'|h' <;> rw[h,h'] <;> decide)) ?_;refine Hb O (Gb O) (d_nil (Ga ?_));refine Lc (v:=J (Fh x*UC x y)) O O ?_;exact⟨by simp_all[VE],hF.same⟩
theorem ZP(n:Int)(h1:-9223372036854775808<=n)(h2:n<=9223372036854775807)(w0:World)(hG:Gl w0):Calls prog 66 #[J n] w0 (Oc λv w'=>v=Co (Q8 n)/\Same [] w0 w'):=by
 refine Ea func66 O ntmps66 Bb (Tb _) ?_;have hF:=FR.start w0 [];refine Da (Gc (cs:=#[.bool false,I [],J 0]) hF wX O ?_);rintro b1 w hb1 hF -;refine Ob (Ba (Cb O) ?_);refine Qa hF (VN n h1 h2 (hG.ext hF.same)) (Ma EV O O) ?_;intro w hF;refine Qa hF (Yz (Lib.itoa n) (by have:=Lib.itoa_length_le n h1 h2;omega) _) (Ma H4 O O) ?_;intro w hF;refine Ba (Aj O) (Ba (Ru O O) (Ba (Nh O O) ?_));refine Hf hF wX tZ O ?_;rintro b2 w hb2 hF -;refine Ba (Gb O) (Ob (Yb (Ig gZ tZ O hF.F 0 O O) ?_));refine Ke hF tZ O O Tr ?_;rintro w hF -;refine Ca (Xa (Va (Ka (Ni O (l:=[.bool ((Q8 n).neg),I ((Q8 n).digits),J ((Q8 n).exp)]) O gZ tZ O (hF.cellsAll 1 O)) ?_)));exact⟨O,hF.same⟩
def Qy(x:Num):Str:=if x.neg then 45::(x.digits++Lib.repeatL [48] x.exp.toNat) else x.digits++Lib.repeatL [48] x.exp.toNat
theorem Qk(x:Num):B8 x=if Fe x=false\/x.exp<0\/19<(x.digits.length:Int)+x.exp then (0,false) else if Qy x=[] then (0,true) else if (pI (Qy x)).2=false then (0,false) else ((pI (Qy x)).1,true):=rfl
theorem Eu(c:UInt8)(n:Nat):(Lib.repeatL [c] n).length=n:=by
  induction n with
  | zero=>rfl
  | succ n ih=>unfold Lib.repeatL;simp[ih];try omega
theorem FH(x:Num)(hl:x.digits.length<=140737488355328)(w0:World)(hG:Gl w0):Calls prog 222 #[Co x] w0 (Oc λv w'=>v=.tuple #[J (B8 x).1,.bool (B8 x).2]/\Same [] w0 w'):=by
 refine Ea func222 O ntmps222 Bb (Tb _) ?_;have hF:=FR.start w0 [];refine Da (Df hF O ?_);rintro b1 w hb1 hF -;refine Ba (Gb O) (Ba (Kb O) (Ca (Fa (Da (Yb (Ig gZ tZ O hF.F 0 O O) ?_)))));refine Qa hF (Xy x hl _) (Ma DJ O O) ?_;intro w hF;refine Ba (Wi O) (Ba (Sc O) ?_);refine Je (d:=10) O (λhg0=>?_) (λhg0=>?_)
 ·
  refine Ha (Ha (Ha (Ba (Fc O O) (Ba (Sc O) (Ha (Ha (Ha (Ha (Ha (Ha (Ha (Ba (Fc O O) (Eb ?_)))))))))))));refine Ga (Od O (Da (Ba (Gb O) (Ba (Kb O) (Ca ?_)))));refine Xa (Va (Ka (Jc (v:=J 0) (x:=.bool false) O O O) ?_));refine⟨?_,hF.same⟩
  first
  | (have hn:¬(Fe x=false\/x.exp<0\/19<(x.digits.length:Int)+x.exp):=by (refine not_or.2 ⟨by simp_all,not_or.2 ⟨by omega,by omega⟩⟩)
     rw[Qk,if_neg hn];simp_all;done)
  | (rw[Qk];simp_all;done)
 refine Ba (Rb Ql O) (Yb (Pi xQ O hF.F 0 O O) (Ba (Dl O O) (Ba (Pc O O) (Ba (Sc O) ?_))));refine Wb (d:=15) O (λhg1=>?_) (λhg1=>?_)
 ·
  refine Ha (Ha (Ha (Ha (Ha (Ha (Ha (Ba (Fc O O) (Ca (Od O (Da (Ba (Gb O) ?_)))))))))));refine Ba (Kb O) (Ca ?_);refine Xa (Va (Ka (Jc (v:=J 0) (x:=.bool false) O O O) ?_));refine⟨?_,hF.same⟩
  first
  | (have hn:¬(Fe x=false\/x.exp<0\/19<(x.digits.length:Int)+x.exp):=by (refine not_or.2 ⟨by simp_all,not_or.2 ⟨by omega,by omega⟩⟩)
     rw[Qk,if_neg hn];simp_all;done)
  | (rw[Qk];simp_all;done)
 refine Ba (Rb Vm O) (Yb (Tn fZ O hF.F 0 O O) (Ba (Rp oX O) (Ba (Rb Ql O) (Yb (Pi xQ O hF.F 0 O O) ?_))));refine Ia (v:=J ((x.digits.length:Int)+x.exp)) (Kr O O (Do (by have:=Xd (x:=x) (by simp_all);omega) (by have:=Xd (x:=x) (by simp_all);omega))) ?_;refine Ba (Yx O O) (Ba (Pc O O) (Ca ?_));refine Lb O O (λhc0=>?_) (λhc0=>?_)
 ·
  refine Da (Ba (Gb O) (Ba (Kb O) (Ca ?_)));refine Xa (Va (Ka (Jc (v:=J 0) (x:=.bool false) O O O) ?_));refine⟨?_,hF.same⟩
  first
  | (have hn:¬(Fe x=false\/x.exp<0\/19<(x.digits.length:Int)+x.exp):=by (refine not_or.2 ⟨by simp_all,not_or.2 ⟨by omega,by omega⟩⟩)
     rw[Qk,if_neg hn];simp_all;done)
  | (rw[Qk];simp_all;done)
 refine Na (Ga (Fa ?_));refine Be (zs:=.of []) (bQ [0,1,2,3] (.act 4 (.free 5 (.free 6 .nil)))) hF ?_;intro w hF;refine Hb O (Rb Vm O) (Nf O (Tn fZ O C0 0 O O) (Hb O (Rb Ql O) (Nf O (Pi xQ O C0 0 O O) ?_)));refine Vd hF (AA x.exp Aa Aa _) O (Ua KN O O O) ?_;intro w hF;refine⟨hF,?_⟩;refine Ab rfl (v:=I ((x.digits)++(Lib.repeatL [48] x.exp.toNat))) (λw hC=>Pw rfl rfl (by have:=Eu 48 x.exp.toNat;have:=Xd (x:=x) (by simp_all);first|omega|(simp only[dQ,kQ,List.length_nil];omega))) ?_;refine Hb O (Xf O) (d_nil (Ga (Fa ?_)));refine Eh (λσ w=>AllEq σ [(4,I (Qy x))]/\FR w0 [] [(b1,.cells #[.bool (x.neg),I (x.digits),J (x.exp)] 90)] w) ?_ ?_
 ·
  refine Da (Ba (Rb NE O) (Yb (OE cZ O hF.F 0 O O) (Ca ?_)));refine He O O (λhc1=>?_) (λhc1=>?_)
  ·
   have eT:[45]++(x.digits++Lib.repeatL [48] x.exp.toNat)=Qy x:=by unfold Qy;rw[if_pos (by assumption)];rfl
   refine Ja (Ba (Pd O) ?_);refine Ia (v:=I (Qy x)) (by rw[<-eT];exact Pw rfl rfl (by have:=Eu 48 x.exp.toNat;have:=Xd (x:=x) (by simp_all);first|omega|(simp only[dQ,kQ,List.length_nil];omega))) ?_;refine Ba (Xf O) (Eb ?_);exact Qb ⟨ae1,hF⟩
  have eT:x.digits++Lib.repeatL [48] x.exp.toNat=Qy x:=by unfold Qy;rw[if_neg (by simp_all)]
  rw[eT];refine Na ?_;exact Qb ⟨ae1,hF⟩
 rintro σ w ⟨hs,hF⟩;refine Eg.slots hs ?_;clear hs;intro σ;have hT:(Qy x).length<=1020:=by have:=Eu 48 x.exp.toNat;have:=Xd (x:=x) (by simp_all);unfold Qy;split <;> simp only[dQ,kQ] <;> omega
 refine Ga (Fa (Da (Ba (Pd O) (Ba (yes O O) (Ca ?_)))));refine Lb O O (λhc2=>?_) (λhc2=>?_)
 ·
  refine Da (Ba (Gb O) (Ba (Kb O) (Ca ?_)));refine Xa (Va (Ka (Jc (v:=J 0) (x:=.bool true) O O O) ?_));refine⟨?_,hF.same⟩
  first
  | (have hn:¬(Fe x=false\/x.exp<0\/19<(x.digits.length:Int)+x.exp):=by (refine not_or.2 ⟨by simp_all,not_or.2 ⟨by omega,by omega⟩⟩)
     rw[Qk,if_neg hn];simp_all;done)
  | (rw[Qk];simp_all;done)
 refine Na (Ga (Da (Ba (Pd O) ?_)));refine Ta (JM (Qy x) Aa (hG.ext hF.same)) (De en_255 O O O O) ?_;rintro _ w ⟨e,rfl,he,hE⟩;have hF:=hF.ext hE;refine Ba (Aj O) (Ba (Nh O O) (Ba (yxu O O) (Ba (Gb O) (Ba (Yr) (Ca (Fa (Da (Ba (Vp) (Ia (v:=.bool (!(pI (Qy x)).2)) (AS (zZ) he O O) (Ca ?_))))))))));refine He O O (λhc3=>?_) (λhc3=>?_)
 ·
  refine Da (Ba (Gb O) (Ba (Kb O) (Ca ?_)));refine Xa (Va (Ka (Jc (v:=J 0) (x:=.bool false) O O O) ?_));refine⟨?_,hF.same⟩
  first
  | (have hn:¬(Fe x=false\/x.exp<0\/19<(x.digits.length:Int)+x.exp):=by (refine not_or.2 ⟨by simp_all,not_or.2 ⟨by omega,by omega⟩⟩)
     rw[Qk,if_neg hn];simp_all;done)
  | (rw[Qk];simp_all;done)
 refine Na (Ga (Da (Ba (Cb O) (Ba (Gb O) (Ba (Kb O) (Ca ?_))))));refine Xa (Va (Ka (Jc (v:=J ((pI (Qy x)).1)) (x:=.bool true) O O O) ?_));refine⟨?_,hF.same⟩
 first
 | (have hn:¬(Fe x=false\/x.exp<0\/19<(x.digits.length:Int)+x.exp):=by (refine not_or.2 ⟨by simp_all,not_or.2 ⟨by omega,by omega⟩⟩)
    rw[Qk,if_neg hn];simp_all;done)
 | (rw[Qk];simp_all;done)
end Go.Scarf
