/- A part of the proof. -/
import Derived.Test.YthnkjgpjdbdchaaGreatDoorW1
import Derived.Lib.SmallJoins
set_option linter.all false
set_option maxHeartbeats 8000000
set_option maxRecDepth 10000
namespace Go.Scarf
open Go.RowKit Go.Proofs Go.Proofs.Tryz
theorem YN(s:Str):(Fc s).1.whole.length<=s.length/\(Fc s).1.rest.length<=s.length/\(Fc s).1.exp.length<=s.length:=by
  have h1:=Ui [101,69] (Lib.trimPrefix s [45]);have h2:=Ti s [45];have h3:=Ui [46] (Wa [101,69] (Lib.trimPrefix s [45])).1;have h4:=Ti (Wa [101,69] (Lib.trimPrefix s [45])).2.1 [45];have h5:=Ti (Lib.trimPrefix (Wa [101,69] (Lib.trimPrefix s [45])).2.1 [45]) [43];unfold Fc;simp only
  repeat' split
  all_goals (refine⟨?_,?_,?_⟩ <;> simp only[Uf,List.length_nil] <;> omega)
def U2(s:Str):Int:=if (Fc s).1.low then-Jj (Lib.trimLeftB (Fc s).1.exp 48) else Jj (Lib.trimLeftB (Fc s).1.exp 48)
theorem Cp(s:Str):Hf s=if (Fc s).2=false then (Num.zero,2) else
  if 1000<(Fc s).1.whole.length+(Fc s).1.rest.length then (Num.zero,3) else
  if 9<(Lib.trimLeftB (Fc s).1.exp 48).length then (Num.zero,4) else
  if Lib.trimLeftB ((Fc s).1.whole++(Fc s).1.rest) 48=[] then (Num.zero,0) else
  if Mh (⟨(Fc s).1.neg,Lib.trimRightB (Lib.trimLeftB ((Fc s).1.whole++(Fc s).1.rest) 48) 48,U2 s-(Fc s).1.rest.length+(Lib.trimLeftB ((Fc s).1.whole++(Fc s).1.rest) 48).length-(Lib.trimRightB (Lib.trimLeftB ((Fc s).1.whole++(Fc s).1.rest) 48) 48).length⟩)=false then (Num.zero,4) else
  (⟨(Fc s).1.neg,Lib.trimRightB (Lib.trimLeftB ((Fc s).1.whole++(Fc s).1.rest) 48) 48,U2 s-(Fc s).1.rest.length+(Lib.trimLeftB ((Fc s).1.whole++(Fc s).1.rest) 48).length-(Lib.trimRightB (Lib.trimLeftB ((Fc s).1.whole++(Fc s).1.rest) 48) 48).length⟩,0):=rfl
theorem GX{s:Str}{q:Nat}(h:q<s.length)(ha:s.all Ko=true):(Utf8.decode (bs s) q).1=s[q].toNat/\(Utf8.decode (bs s) q).2=1/\48<=s[q].toNat/\s[q].toNat<=57:=by
  have hd:=List.all_eq_true.1 ha s[q] (eQ h);have:=IH s q h hd;rw[this];unfold Ko at hd;simp only[Bool.and_eq_true,decide_eq_true_eq]at hd;exact⟨O,O,hd.1,hd.2⟩
theorem all_take{f:UInt8->Bool}{s:Str}(q:Nat)(h:s.all f=true):(s.take q).all f=true:=by
  rw[List.all_eq_true]at h ⊢;exact λx hx=>h x (List.mem_of_mem_take hx)
theorem UH(s:Str)(hl:s.length<=140737488355328)(w0:World):Calls prog 77 #[I s] w0 (Be λv w'=>v=.tuple #[Yu (Hf s).1,J (Hf s).2]/\Same [] w0 w'):=by
 have hls:=YN s;have ht0:=Oz (Fc s).1.exp 48;have ht1:=Oz ((Fc s).1.whole++(Fc s).1.rest) 48;rw[dQ]at ht1;have ht2:=PB (Lib.trimLeftB ((Fc s).1.whole++(Fc s).1.rest) 48) 48;refine Ga func77 O ntmps77 Ib (Id _) ?_;have hF:=FR.start w0 [];refine Ia (Td (cs:=#[.bool false,I [],J 0]) hF qX O ?_);rintro b1 w hb1 hF -;refine Ca (Yc O) (Lc (Ca (Dh O) ?_));refine Hb hF (read_c s hl _) (Ra en_102 O O) ?_;intro w hF;refine Ca (So O) (Ca (Zz O O) (Ca (Tq O O) ?_));refine Qg hF zeroValue130 jZ O ?_;rintro b2 w hb2 hF -;refine Ca (Jc O) (Lc (Ca (Bc X1 O) (Sc (Zy fZ O hF.F 0 O O) ?_)));refine Hb hF (Z6 (Fc s).1.exp _) (Xa KZ O O O) ?_;intro w hF;refine Ca (Cn O) (Ea (Ja (Za (Ia (Ca (Hd O) (Ca (Fk O) (Ca (Jc O) (Ea ?_))))))));refine Jg O O (λhc0=>?_) (λhc0=>?_);refine Ia (Ma (w':=w) (v:=.agg #[.bool false,I [],J 0]) Ob ?_);refine Pf hF uZ O O Yt ?_;rintro w hF -;refine Ca (Yc O) (Ea ?_);refine Ec (Dc (Ua (He O (l:=[.bool false,I [],J 0]) O eZ uZ O (hF.cellsAll 1 O) (v:=J 2) O) ?_));exact⟨by rw[Cp,if_pos (by simpa using hc0)];rfl,hF.same⟩;refine Ia (Ca (Bc Gx O) (Sc (Zy fZ O hF.F 0 O O) (Ca (UM kX O) (Ca (Bc Nu O) (Sc (Zy fZ O hF.F 0 O O) (Ca (UM kX O) (Ca (Bo O O) (Ca (W6 O O) (Ca (Jc O) (Ea ?_))))))))));refine Rc O O (λhc1=>?_) (λhc1=>?_);refine Ia (Ma (w':=w) (v:=.agg #[.bool false,I [],J 0]) Ob ?_);refine Pf hF uZ O O Yt ?_;rintro w hF -;refine Ca (Yc O) (Ea ?_);refine Ec (Dc (Ua (He O (l:=[.bool false,I [],J 0]) O eZ uZ O (hF.cellsAll 1 O) (v:=J 3) O) ?_));exact⟨by rw[Cp,if_neg (by simpa using hc0),if_pos tX];rfl,hF.same⟩;refine Ia (Ca (Dh O) (Ca (UM kX O) (Ca (W6 O O) (Ca (Jc O) (Ea ?_)))));refine Rc O O (λhc2=>?_) (λhc2=>?_);refine Ia (Ma (w':=w) (v:=.agg #[.bool false,I [],J 0]) Ob ?_);refine Pf hF uZ O O Yt ?_;rintro w hF -;refine Ca (Yc O) (Ea ?_);refine Ec (Dc (Ua (He O (l:=[.bool false,I [],J 0]) O eZ uZ O (hF.cellsAll 1 O) (v:=J 4) O) ?_))
 exact⟨by rw[Cp,if_neg (by simpa using hc0),if_neg tX,if_pos tX];rfl,hF.same⟩;refine Va (Fb (Ha (Ia (Ca (Yc O) (Ea (Ja (Ia (Ca (Dh O) ?_))))))));refine O1 (str:=(Lib.trimLeftB (Fc s).1.exp 48)) hF kX O ?_;rintro b3 w hb3 hF -;refine Ea (Za ?_);have hall:(Lib.trimLeftB (Fc s).1.exp 48).all Ko=true:=Jz (YW (by simp_all));refine Fd (λμ σ w=>∃(q:Nat),μ=(Lib.trimLeftB (Fc s).1.exp 48).length-q/\(q<=(Lib.trimLeftB (Fc s).1.exp 48).length)/\AllEq σ [(2,V b1),(4,V b2),(7,J (Jj ((Lib.trimLeftB (Fc s).1.exp 48).take q))),(41,V b3)]/\FR w0 [] [(b3,.stringIter (bs ((Lib.trimLeftB (Fc s).1.exp 48))) (q)),(b2,.cells #[.bool ((Fc s).1.neg),.bool ((Fc s).1.low),I ((Fc s).1.whole),I ((Fc s).1.rest),I ((Fc s).1.exp)] 130),(b1,.cells #[.bool false,I [],J 0] 75)] w) _ ⟨0,O,(Nat.zero_le _),Uu,hF⟩ ?_;rintro μ σ w ⟨q,rfl,hq,hs,hF⟩;refine Cg.slots hs ?_;clear hs;intro σ;refine Ia ?_;by_cases hn0:(q)<((Lib.trimLeftB (Fc s).1.exp 48):Str).length;refine E8 0 (p:=q) (str:=(Lib.trimLeftB (Fc s).1.exp 48)) hF O O hn0 ?_;rintro w hF -;refine Ca (Tq O O) (Ea (Ja (Se O (Va (Ha (Za (Ia (Ca (Sy O O) (Ca (Yc O) (Ea ?_))))))))));refine Fa (Ca (Vb O) ?_);have hv:=GX (s:=(Lib.trimLeftB (Fc s).1.exp 48)) (q:=q) tX hall;have hb:=YE ((Lib.trimLeftB (Fc s).1.exp 48).take q) (all_take q hall) (by rw[List.length_take];omega);refine Ma (v:=J (10*Jj ((Lib.trimLeftB (Fc s).1.exp 48).take q))) (FM O O (Im tX tX tX)) (Ca (Vb O) ?_);refine Ma (v:=.int .i32 (((Utf8.decode (bs (Lib.trimLeftB (Fc s).1.exp 48)) q).1:Int)-48)) (D7 O O (by rw[IntKind.wrap_i32];omega)) ?_;refine Ma (v:=J (((Utf8.decode (bs (Lib.trimLeftB (Fc s).1.exp 48)) q).1:Int)-48)) (Nj underlying21 fX O (Pt tX tX)) ?_;refine Ma (v:=J (Jj ((Lib.trimLeftB (Fc s).1.exp 48).take (q+1)))) (G7 O O (by rw[C7 _ q tX,hv.1];exact Pt tX tX)) ?_;refine Ca (Yc O) (Gb (Fb ?_))
 rw[hv.2.1]at hF;refine Cc ⟨_,?_,q+1,O,tX,Uu,hF⟩;omega;refine Hv 0 (p:=q) (str:=(Lib.trimLeftB (Fc s).1.exp 48)) hF O O hn0 (Ca (Tq O O) (Ea (Ja (Bg O ?_))));refine Wc (Vc O ?_);refine Ha ?_;have eT:(Lib.trimLeftB (Fc s).1.exp 48).take q=(Lib.trimLeftB (Fc s).1.exp 48):=List.take_of_length_le tX;have hb:=YE (Lib.trimLeftB (Fc s).1.exp 48) hall tX;have hE:-1000000000<U2 s/\U2 s<1000000000:=by unfold U2;split <;> omega
 refine Ja (Mj (λσ w=>AllEq σ [(2,V b1),(4,V b2),(7,J (U2 s))]/\FR w0 [] [(b3,.stringIter (bs ((Lib.trimLeftB (Fc s).1.exp 48))) (q)),(b2,.cells #[.bool ((Fc s).1.neg),.bool ((Fc s).1.low),I ((Fc s).1.whole),I ((Fc s).1.rest),I ((Fc s).1.exp)] 130),(b1,.cells #[.bool false,I [],J 0] 75)] w) ?_ ?_);refine Ia (Ca (Bc GB O) (Sc (TI cZ O hF.F 1 O O) (Ea ?_)));refine Jg O O (λhc4=>?_) (λhc4=>?_);have eE:U2 s = - Jj (Lib.trimLeftB (Fc s).1.exp 48):=by unfold U2;rw[if_pos (by assumption)]
 refine Fa (Ca (Vb O) ?_);refine Ma (v:=J (U2 s)) (x_neg O (by rw[eT,eE];exact Im tX tX tX)) ?_;refine Ca (Yc O) (Gb ?_);exact Cc ⟨GM,hF⟩;have eE:U2 s=Jj (Lib.trimLeftB (Fc s).1.exp 48):=by unfold U2;rw[if_neg (by simp_all)]
 rw[eT,<-eE];refine Va ?_;exact Cc ⟨GM,hF⟩;rintro σ w ⟨hs,hF⟩;refine Eg.slots hs ?_;clear hs;intro σ;refine Ha (Ia (Ca (Bc Gx O) (Sc (Zy fZ O hF.F 1 O O) (Ca (Bc Nu O) (Sc (Zy fZ O hF.F 1 O O) (Ma (v:=I (((Fc s).1.whole)++((Fc s).1.rest))) (Tu O O tX) ?_))))));refine Hb hF (Z6 ((Fc s).1.whole++(Fc s).1.rest) _) (Xa KZ O O O) ?_;intro w hF;refine Ca (Cn O) (Ea (Ja (Ia (Ca (Dh O) (Ca (BL O O) (Ea ?_))))));refine Rc O O (λhc5=>?_) (λhc5=>?_);refine Ia (Ma (w':=w) (v:=.agg #[.bool false,I [],J 0]) Ob ?_);refine Pf hF uZ O O D4 ?_;rintro w hF -;refine Ca (Yc O) (Ea ?_);refine Ec (Dc (Ua (He O (l:=[.bool false,I [],J 0]) O eZ uZ O (hF.cellsAll 2 O) (v:=J 0) O) ?_));exact⟨by rw[Cp,if_neg (by simpa using hc0),if_neg tX,if_neg tX,if_pos hc5];rfl,hF.same⟩;refine Va (Ha (Ia (Ca (Dh O) ?_)));refine Hb hF (OH (Lib.trimLeftB ((Fc s).1.whole++(Fc s).1.rest) 48) _ tX) (Xa en_104 O O O) ?_;intro w hF;refine Ca (Cn O) (Lc (Ca (Bc PM O) (Sc (TI cZ O hF.F 1 O O) (Ca (Dh O) (Ca (Vb O) (Ca (Bc Nu O) (Sc (Zy fZ O hF.F 1 O O) (Ca (UM kX O) (Ca (Ez O O) (Ca (Dh O) ?_))))))))));refine Ca (UM kX O) (Ca (Bo O O) (Ca (Dh O) (Ca (UM kX O) (Ca (Ez O O) ?_))));refine Ma (w':=w) (v:=.agg #[.bool ((Fc s).1.neg),I ((Lib.trimRightB (Lib.trimLeftB ((Fc s).1.whole++(Fc s).1.rest) 48) 48)),J ((((U2 s:Int)-((((Fc s).1.rest):Str).length:Int):Int)+((((Lib.trimLeftB ((Fc s).1.whole++(Fc s).1.rest) 48)):Str).length:Int):Int)-((((Lib.trimRightB (Lib.trimLeftB ((Fc s).1.whole++(Fc s).1.rest) 48) 48)):Str).length:Int))]) Ob (Qg hF qX uZ O ?_);rintro b4 w hb4 hF -;refine Ea (Ja (Ia (Sc (Of eZ uZ O hF.F 0 O O) ?_)));refine Hb hF (HI (⟨(Fc s).1.neg,(Lib.trimRightB (Lib.trimLeftB ((Fc s).1.whole++(Fc s).1.rest) 48) 48),U2 s-(Fc s).1.rest.length+(Lib.trimLeftB ((Fc s).1.whole++(Fc s).1.rest) 48).length-(Lib.trimRightB (Lib.trimLeftB ((Fc s).1.whole++(Fc s).1.rest) 48) 48).length⟩) (by show (Lib.trimRightB (Lib.trimLeftB ((Fc s).1.whole++(Fc s).1.rest) 48) 48).length<=_;omega) _) (Ra en_75 O O) ?_
 intro w hF;refine Ca (Fk O) (Ea ?_);refine Jg O O (λhc6=>?_) (λhc6=>?_);refine Ia (Ma (w':=w) (v:=.agg #[.bool false,I [],J 0]) Ob ?_);refine Pf hF uZ O O B8 ?_;rintro w hF -;refine Ca (Yc O) (Ea ?_);refine Ec (Dc (Ua (He O (l:=[.bool false,I [],J 0]) O eZ uZ O (hF.cellsAll 3 O) (v:=J 4) O) ?_));exact⟨by rw[Cp,if_neg (by simpa using hc0),if_neg tX,if_neg tX,if_neg hc5,if_pos (by simpa using hc6)];rfl,hF.same⟩;refine Va (Ha (Ia (Sc (Of eZ uZ O hF.F 0 O O) ?_)));refine Pf hF uZ O O B8 ?_;rintro w hF -;refine Ca (Yc O) (Ea ?_);refine Ec (Dc (Ua (He O (l:=[.bool ((Fc s).1.neg),I ((Lib.trimRightB (Lib.trimLeftB ((Fc s).1.whole++(Fc s).1.rest) 48) 48)),J ((((U2 s:Int)-((((Fc s).1.rest):Str).length:Int):Int)+((((Lib.trimLeftB ((Fc s).1.whole++(Fc s).1.rest) 48)):Str).length:Int):Int)-((((Lib.trimRightB (Lib.trimLeftB ((Fc s).1.whole++(Fc s).1.rest) 48) 48)):Str).length:Int))]) O eZ uZ O (hF.cellsAll 3 O) (v:=J 0) O) ?_));exact⟨by rw[Cp,if_neg (by simpa using hc0),if_neg tX,if_neg tX,if_neg hc5,if_neg (by simpa using hc6)];rfl,hF.same⟩
def TD(n:Int):Num:=(Hf (Lib.itoa n)).1
def pI(s:Str):Int × Bool:=match Lib.parseIntB 64 s with|.ok v=>(v,true)|.range=>(Lib.intSat 64 s,false)|_=>(0,false)
def KB(x:Num):Int × Bool :=
  if Mh x=false\/x.exp<0\/19<(x.digits.length:Int)+x.exp then (0,false) else
  let t:=x.digits++Lib.repeatL [48] x.exp.toNat
  let u:=if x.neg then 45::t else t
  if u=[] then (0,true) else if (pI u).2=false then (0,false) else ((pI u).1,true)
def OE(e:Value)(b:Bool):Prop:=if b then ∃tp q,e=.iface tp q else e=.nilIface
theorem MW{P:Program}{ρ:Operand->Value}{w:World}{dst:Option Nat}{ty:TypeId}{pos:String}{aft:Array Edge}{g:Option (Nat × Bool)}{t t':TypeId}{x:Operand}{e:Value}{b:Bool}(ht:P.underlying t=some (.interface (P.methodsAt t)))(he:OE e b)(hx:ρ x=e)(hy:ρ (.const .nilIface)=.nilIface) :
    (execOp ρ ⟨dst,.binOp .neq t x (.const .nilIface) t',ty,pos,aft,g⟩).run P w=.ok (.value (.bool b)) w:=by
  unfold OE at he;cases b
  ·simp only[Bool.false_eq_true,if_false]at he;subst he;exact FX ht hx hy
  simp only[if_true]at he;obtain⟨tp,q,rfl⟩:=he;exact NL ht hx hy
theorem T7(w:World)(e:TypeId)(s:ByteArray):Same [] w (Lib.bytesWorld w e s) :=
  .of_below (Joins.below_bytesWorld _ w e s (gQ _))
theorem RP(s:Str)(hl:s.length<=140737488355328){w:World}(hG:Gl w):Calls prog 129 #[I s,J 10,J 64] w (Be λv w'=>∃e,v=.tuple #[J (pI s).1,e]/\OE e (!(pI s).2)/\Same [] w w'):=by
  cases h:Lib.parseIntB 64 s with
  | ok n =>
    refine (strconv_ParseInt_10_at64_ok (bs s) (by rw[Ws];omega) n h w).mono ?_;rintro e w' ⟨rfl,hw⟩;refine⟨_,O,.nilIface,by simp[pI,h],by simp[pI,h,OE],?_⟩;rcases hw with rfl|⟨t,rfl⟩
    ·exact Same.refl _ _
    exact T7 w 5 t
  | range =>
    obtain⟨tp,q,hv⟩:=hG.err;refine (strconv_ParseInt_10_at64_range_var (bs s) (by rw[Ws];omega) h tp q w hv).mono ?_;rintro e w' ⟨N,rfl,-,-,hb⟩;exact⟨_,O,.iface 255 (V N),by simp only[pI,h],by simp[pI,h,OE],.of_below hb⟩
  | _ =>
    obtain⟨tp,q,hv⟩:=hG.serr;refine (Any.strconv_ParseInt_10_at64_syntax_var laysC174 (bs s) (by rw[Ws];omega) h tp q w hv).mono ?_;rintro e w' ⟨N,rfl,-,-,hb⟩;exact⟨_,O,.iface 255 (V N),(by simp[pI,h];rfl),by simp[pI,h,OE],.of_below hb⟩
theorem BD(c:Int)(h0:0<=c)(h1:c<=19)(w:World):Calls prog 128 #[I [48],J c] w (Be λv w'=>v=I (Lib.repeatL [48] c.toNat)/\Same [] w w'):=by
  have h:=strings_Repeat (bs [48]) c.toNat w tX (by rw[Ws];simp;omega);rw[Int.toNat_of_nonneg h0]at h;exact Ky h
theorem take_zero{l:List Int}{j:Nat}(h:j<l.length)(hz:∀x∈l.take j,x=0)(hn:l[j]=0):∀x∈l.take (j+1),x=0:=by
  rw[iQ h];intro c hc;rcases mQ.1 hc with hc|hc
  ·exact hz c hc
  simp only[pQ]at hc;rw[hc];exact hn
theorem BU(n:Int)(h1:-9223372036854775808<=n)(h2:n<=9223372036854775807)(w0:World)(hG:Gl w0):Calls prog 43 #[J n] w0 (Be λv w'=>v=Yu (TD n)/\Same [] w0 w'):=by
 refine Ga func43 O ntmps43 Ib (Id _) ?_;have hF:=FR.start w0 [];refine Ia (Td (cs:=#[.bool false,I [],J 0]) hF qX O ?_);rintro b1 w hb1 hF -;refine Lc (Ca (Vb O) ?_);refine Hb hF (E1 n h1 h2 (hG.ext hF.same)) (Ra XA O O) ?_;intro w hF;refine Hb hF (UH (Lib.itoa n) (by have:=Lib.itoa_length_le n h1 h2;omega) _) (Ra en_77 O O) ?_;intro w hF;refine Ca (So O) (Ca (Zz O O) (Ca (Sy O O) ?_));refine Qg hF qX uZ O ?_;rintro b2 w hb2 hF -;refine Ca (Yc O) (Lc (Sc (Of eZ uZ O hF.F 0 O O) ?_));refine Pf hF uZ O O Yt ?_;rintro w hF -;refine Ea (Ec (Dc (Ua (Ug O (l:=[.bool ((TD n).neg),I ((TD n).digits),J ((TD n).exp)]) O eZ uZ O (hF.cellsAll 1 O)) ?_)));exact⟨O,hF.same⟩
def G3(x:Num):Str:=if x.neg then 45::(x.digits++Lib.repeatL [48] x.exp.toNat) else x.digits++Lib.repeatL [48] x.exp.toNat
theorem Dn(x:Num):KB x=if Mh x=false\/x.exp<0\/19<(x.digits.length:Int)+x.exp then (0,false) else if G3 x=[] then (0,true) else if (pI (G3 x)).2=false then (0,false) else ((pI (G3 x)).1,true):=rfl
theorem Nx(c:UInt8)(n:Nat):(Lib.repeatL [c] n).length=n:=by
  induction n with
  | zero=>rfl
  | succ n ih=>unfold Lib.repeatL;simp[ih];try omega
theorem BM(x:Num)(hl:x.digits.length<=140737488355328)(w0:World)(hG:Gl w0):Calls prog 99 #[Yu x] w0 (Be λv w'=>v=.tuple #[J (KB x).1,.bool (KB x).2]/\Same [] w0 w'):=by
  refine Ga func99 O ntmps99 Ib (Id _) ?_;have hF:=FR.start w0 [];refine Ja (Fa ?_);refine Bf hF O ?_;intro b1 w hb1 hF hE;refine Ca (Yc O) (Ca (Jc O) ?_);refine Gb (Ha ?_);refine Ja (Ja ?_);refine Fa (Sc (Of eZ uZ O hF.F 0 O O) ?_);refine Hb hF (HI x hl _) (Ra en_75 O O) ?_;intro w hF;refine Ca (Fk O) (Ca (Hd O) ?_);refine Zd (d:=10) O (λhg0=>?_) (λhg0=>?_)
  ·
   refine Ka (Ka ?_);refine Ka (Ca (Kc O O) ?_);refine Ca (Hd O) (Ka ?_);refine Ka (Ka ?_);refine Ka (Ka ?_);refine Ka (Ka ?_);refine Ca (Kc O O) (Gb ?_);refine Ha (Se O ?_);refine Ja (Fa ?_);refine Ca (Yc O) (Ca (Jc O) ?_);refine Gb (Ha ?_);refine Ec (Dc (Ua (Wh (v:=J 0) (x:=.bool false) O O O) ?_));refine⟨?_,hF.same⟩
   first
   | (have hn:¬(Mh x=false\/x.exp<0\/19<(x.digits.length:Int)+x.exp):=by (refine not_or.2 ⟨by simp_all,not_or.2 ⟨by omega,by omega⟩⟩)
      rw[Dn,if_neg hn];simp_all;done)
   | (rw[Dn];simp_all;done)
  refine Ca (Bc Dr O) (Sc (Zq aZ O hF.F 0 O O) ?_);refine Ca (Hn O O) (Ca (Ld O O) ?_);refine Ca (Hd O) (Tc (d:=15) O (λhg1=>?_) (λhg1=>?_))
  ·
   refine Ka (Ka ?_);refine Ka (Ka ?_);refine Ka (Ka ?_);refine Ka (Ca (Kc O O) ?_);refine Gb (Ha ?_);refine Se O (Ja ?_);refine Fa (Ca (Yc O) ?_);refine Ca (Jc O) (Gb ?_);refine Ha (Ec (Dc (Ua (Wh (v:=J 0) (x:=.bool false) O O O) ?_)));refine⟨?_,hF.same⟩
   first
   | (have hn:¬(Mh x=false\/x.exp<0\/19<(x.digits.length:Int)+x.exp):=by (refine not_or.2 ⟨by simp_all,not_or.2 ⟨by omega,by omega⟩⟩)
      rw[Dn,if_neg hn];simp_all;done)
   | (rw[Dn];simp_all;done)
  refine Ca (Bc R1 O) (Sc (Zy fZ O hF.F 0 O O) ?_);refine Ca (UM kX O) (Ca (Bc Dr O) ?_);refine Sc (Zq aZ O hF.F 0 O O) ?_;refine Ma (v:=J ((x.digits.length:Int)+x.exp)) (G7 O O (Pt (by have:=Df (x:=x) (by simp_all);omega) (by have:=Df (x:=x) (by simp_all);omega))) ?_;refine Ca (W6 O O) (Ca (Ld O O) ?_);refine Gb (Ha ?_);refine Rc O O (λhc0=>?_) (λhc0=>?_)
  ·
   refine Ja (Fa ?_);refine Ca (Yc O) (Ca (Jc O) ?_);refine Gb (Ha ?_);refine Ec (Dc (Ua (Wh (v:=J 0) (x:=.bool false) O O O) ?_));refine⟨?_,hF.same⟩
   first
   | (have hn:¬(Mh x=false\/x.exp<0\/19<(x.digits.length:Int)+x.exp):=by (refine not_or.2 ⟨by simp_all,not_or.2 ⟨by omega,by omega⟩⟩)
      rw[Dn,if_neg hn];simp_all;done)
   | (rw[Dn];simp_all;done)
  refine Va (Ha ?_);refine Ja (Xg (zs:=.of []) (bQ [0,1,2,3] (.act 4 (.free 5 (.free 6 .nil)))) hF ?_);intro w hF;refine Cb O (Bc R1 O) (Wj O (Zy fZ O C0 0 O O) ?_);refine Cb O (Bc Dr O) (Wj O (Zq aZ O C0 0 O O) ?_);refine Sj hF (BD x.exp tX tX _) O (Xa YO O O O) ?_;intro w hF;refine⟨hF,?_⟩;refine Qa rfl (v:=I ((x.digits)++(Lib.repeatL [48] x.exp.toNat))) (λw hC=>Tu rfl rfl (by have:=Nx 48 x.exp.toNat;have:=Df (x:=x) (by simp_all);first|omega|(simp only[dQ,kQ,List.length_nil];omega))) ?_;refine Cb O (Cn O) (Hc ?_);refine Ha (Ja ?_);refine Mj (λσ w=>AllEq σ [(4,I (G3 x))]/\FR w0 [] [(b1,.cells #[.bool (x.neg),I (x.digits),J (x.exp)] 75)] w) ?_ ?_
  ·
   refine Ja (Fa ?_);refine Ca (Bc qQq O) (Sc (TI cZ O hF.F 0 O O) ?_);refine Gb (Ha ?_);refine Jg O O (λhc1=>?_) (λhc1=>?_)
   ·
    have eT:[45]++(x.digits++Lib.repeatL [48] x.exp.toNat)=G3 x:=by unfold G3;rw[if_pos (by assumption)];rfl
    refine Fa (Ca (Dh O) ?_);refine Ma (v:=I (G3 x)) (by rw[<-eT];exact Tu rfl rfl (by have:=Nx 48 x.exp.toNat;have:=Df (x:=x) (by simp_all);first|omega|(simp only[dQ,kQ,List.length_nil];omega))) ?_;refine Ca (Cn O) (Gb ?_);exact Cc ⟨ae1,hF⟩
   have eT:x.digits++Lib.repeatL [48] x.exp.toNat=G3 x:=by unfold G3;rw[if_neg (by simp_all)]
   rw[eT];refine Va ?_;exact Cc ⟨ae1,hF⟩
  rintro σ w ⟨hs,hF⟩;refine Eg.slots hs ?_;clear hs;intro σ;have hT:(G3 x).length<=1020:=by have:=Nx 48 x.exp.toNat;have:=Df (x:=x) (by simp_all);unfold G3;split <;> simp only[dQ,kQ] <;> omega
  refine Ha (Ja ?_);refine Ja (Fa ?_);refine Ca (Dh O) (Ca (BL O O) ?_);refine Gb (Ha ?_);refine Rc O O (λhc2=>?_) (λhc2=>?_)
  ·
   refine Ja (Fa ?_);refine Ca (Yc O) (Ca (Jc O) ?_);refine Gb (Ha ?_);refine Ec (Dc (Ua (Wh (v:=J 0) (x:=.bool true) O O O) ?_));refine⟨?_,hF.same⟩
   first
   | (have hn:¬(Mh x=false\/x.exp<0\/19<(x.digits.length:Int)+x.exp):=by (refine not_or.2 ⟨by simp_all,not_or.2 ⟨by omega,by omega⟩⟩)
      rw[Dn,if_neg hn];simp_all;done)
   | (rw[Dn];simp_all;done)
  refine Va (Ha ?_);refine Ja (Fa ?_);refine Ca (Dh O) (Db (RP (G3 x) tX (hG.ext hF.same)) (Oc en_129 O O O O) ?_);rintro _ w ⟨e,rfl,he,hE⟩;have hF:=hF.ext hE;refine Ca (So O) (Ca (Sy O O) ?_);refine Ca (yxu O O) (Ca (Yc O) ?_);refine Ca (C4) (Gb ?_);refine Ha (Ja ?_);refine Ja (Fa ?_);refine Ca (Zt) (Ma (v:=.bool (!(pI (G3 x)).2)) (MW (underlying157) he O O) ?_);refine Gb (Ha ?_);refine Jg O O (λhc3=>?_) (λhc3=>?_)
  ·
   refine Ja (Fa ?_);refine Ca (Yc O) (Ca (Jc O) ?_);refine Gb (Ha ?_);refine Ec (Dc (Ua (Wh (v:=J 0) (x:=.bool false) O O O) ?_));refine⟨?_,hF.same⟩
   first
   | (have hn:¬(Mh x=false\/x.exp<0\/19<(x.digits.length:Int)+x.exp):=by (refine not_or.2 ⟨by simp_all,not_or.2 ⟨by omega,by omega⟩⟩)
      rw[Dn,if_neg hn];simp_all;done)
   | (rw[Dn];simp_all;done)
  refine Va (Ha ?_);refine Ja (Fa ?_);refine Ca (Vb O) (Ca (Yc O) ?_);refine Ca (Jc O) (Gb ?_);refine Ha (Ec (Dc (Ua (Wh (v:=J ((pI (G3 x)).1)) (x:=.bool true) O O O) ?_)));refine⟨?_,hF.same⟩
  first
  | (have hn:¬(Mh x=false\/x.exp<0\/19<(x.digits.length:Int)+x.exp):=by (refine not_or.2 ⟨by simp_all,not_or.2 ⟨by omega,by omega⟩⟩)
     rw[Dn,if_neg hn];simp_all;done)
  | (rw[Dn];simp_all;done)
end Go.Scarf
