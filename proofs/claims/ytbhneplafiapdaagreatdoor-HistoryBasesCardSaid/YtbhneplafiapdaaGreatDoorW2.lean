/- A part of the proof. -/
import Derived.Test.YtbhneplafiapdaaGreatDoorW1
import Derived.Lib.SmallJoins
set_option linter.all false
set_option maxHeartbeats 8000000
set_option maxRecDepth 10000
namespace Go.Scarf
open Go.RowKit Go.Proofs Go.Proofs.Tryz
theorem O5(s:Str):(Xa s).1.whole.length<=s.length/\(Xa s).1.rest.length<=s.length/\(Xa s).1.exp.length<=s.length:=by
  have h1:=Ee [101,69] (Lib.trimPrefix s [45]);have h2:=Fe s [45];have h3:=Ee [46] (Ga [101,69] (Lib.trimPrefix s [45])).1;have h4:=Fe (Ga [101,69] (Lib.trimPrefix s [45])).2.1 [45];have h5:=Fe (Lib.trimPrefix (Ga [101,69] (Lib.trimPrefix s [45])).2.1 [45]) [43];unfold Xa;simp only
  repeat' split
  all_goals (refine⟨?_,?_,?_⟩ <;> simp only[Ad,List.length_nil] <;> omega)
def Bq(s:Str):Int:=if (Xa s).1.low then-Pe (Lib.trimLeftB (Xa s).1.exp 48) else Pe (Lib.trimLeftB (Xa s).1.exp 48)
theorem Jh(s:Str):Md s=if (Xa s).2=false then (Num.zero,2) else
  if 1000<(Xa s).1.whole.length+(Xa s).1.rest.length then (Num.zero,3) else
  if 9<(Lib.trimLeftB (Xa s).1.exp 48).length then (Num.zero,4) else
  if Lib.trimLeftB ((Xa s).1.whole++(Xa s).1.rest) 48=[] then (Num.zero,0) else
  if Ae (⟨(Xa s).1.neg,Lib.trimRightB (Lib.trimLeftB ((Xa s).1.whole++(Xa s).1.rest) 48) 48,Bq s-(Xa s).1.rest.length+(Lib.trimLeftB ((Xa s).1.whole++(Xa s).1.rest) 48).length-(Lib.trimRightB (Lib.trimLeftB ((Xa s).1.whole++(Xa s).1.rest) 48) 48).length⟩)=false then (Num.zero,4) else
  (⟨(Xa s).1.neg,Lib.trimRightB (Lib.trimLeftB ((Xa s).1.whole++(Xa s).1.rest) 48) 48,Bq s-(Xa s).1.rest.length+(Lib.trimLeftB ((Xa s).1.whole++(Xa s).1.rest) 48).length-(Lib.trimRightB (Lib.trimLeftB ((Xa s).1.whole++(Xa s).1.rest) 48) 48).length⟩,0):=rfl
theorem J_{s:Str}{q:Nat}(h:q<s.length)(ha:s.all Lg=true):(Utf8.decode (bs s) q).1=s[q].toNat/\(Utf8.decode (bs s) q).2=1/\48<=s[q].toNat/\s[q].toNat<=57:=by
  have hd:=List.all_eq_true.1 ha s[q] (eQ h);have:=H0 s q h hd;rw[this];unfold Lg at hd;simp only[Bool.and_eq_true,decide_eq_true_eq]at hd;exact⟨O,O,hd.1,hd.2⟩
theorem EE{f:UInt8->Bool}{s:Str}(q:Nat)(h:s.all f=true):(s.take q).all f=true:=by
  rw[List.all_eq_true]at h ⊢;exact λx hx=>h x (List.mem_of_mem_take hx)
theorem O8(s:Str)(hl:s.length<=140737488355328)(w0:World):Calls prog 73 #[I s] w0 (Pd λv w'=>v=.tuple #[Il (Md s).1,J (Md s).2]/\Same [] w0 w'):=by
 have hls:=O5 s;have ht0:=Co (Xa s).1.exp 48;have ht1:=Co ((Xa s).1.whole++(Xa s).1.rest) 48;rw[dQ]at ht1;have ht2:=Hv (Lib.trimLeftB ((Xa s).1.whole++(Xa s).1.rest) 48) 48;refine Ia func73 O ntmps73 Kb (Pc _) ?_;have hF:=FR.start w0 [];refine Ka (De (cs:=#[.bool false,I [],J 0]) hF qZ O ?_);rintro b1 w hb1 hF -;refine Da (Gd O) (Ec (Da (Ue O) ?_));refine Ra hF (NM s hl _) (Ua YK O O) ?_;intro w hF;refine Da (Ct O) (Da (GA O O) (Da (Jp O O) ?_));refine Wl hF zeroValue127 aZ O ?_;rintro b2 w hb2 hF -;refine Da (Ob O) (Ec (Da (Ud Pp O) (Xd (Is zQ O hF.F 0 O O) ?_)));refine Ra hF (Jr (Xa s).1.exp _) (Gb AG O O O) ?_;intro w hF;refine Da (Am O) (Ea (Ha (Wa (Ka (Da (Yd O) (Da (Bi O) (Da (Ob O) (Ea ?_))))))));refine Ke O O (λhc0=>?_) (λhc0=>?_);refine Ka (Oa (w':=w) (v:=.agg #[.bool false,I [],J 0]) Cc ?_);refine Gg hF dZ O O W0 ?_;rintro w hF -;refine Da (Gd O) (Ea ?_);refine Yb (Xb (Va (Kd O (l:=[.bool false,I [],J 0]) O xQ dZ O (hF.cellsAll 1 O) (v:=J 2) O) ?_));exact⟨by rw[Jh,if_pos (by simpa using hc0)];rfl,hF.same⟩;refine Ka (Da (Ud Nm O) (Xd (Is zQ O hF.F 0 O O) (Da (D_ mZ O) (Da (Ud Bk O) (Xd (Is zQ O hF.F 0 O O) (Da (D_ mZ O) (Da (Zl O O) (Da (WA O O) (Da (Ob O) (Ea ?_))))))))));refine Uc O O (λhc1=>?_) (λhc1=>?_);refine Ka (Oa (w':=w) (v:=.agg #[.bool false,I [],J 0]) Cc ?_);refine Gg hF dZ O O W0 ?_;rintro w hF -;refine Da (Gd O) (Ea ?_);refine Yb (Xb (Va (Kd O (l:=[.bool false,I [],J 0]) O xQ dZ O (hF.cellsAll 1 O) (v:=J 3) O) ?_));exact⟨by rw[Jh,if_neg (by simpa using hc0),if_pos Ca];rfl,hF.same⟩;refine Ka (Da (Ue O) (Da (D_ mZ O) (Da (WA O O) (Da (Ob O) (Ea ?_)))));refine Uc O O (λhc2=>?_) (λhc2=>?_);refine Ka (Oa (w':=w) (v:=.agg #[.bool false,I [],J 0]) Cc ?_);refine Gg hF dZ O O W0 ?_;rintro w hF -;refine Da (Gd O) (Ea ?_);refine Yb (Xb (Va (Kd O (l:=[.bool false,I [],J 0]) O xQ dZ O (hF.cellsAll 1 O) (v:=J 4) O) ?_))
 exact⟨by rw[Jh,if_neg (by simpa using hc0),if_neg Ca,if_pos Ca];rfl,hF.same⟩;refine Sa (Qb (Fa (Ka (Da (Gd O) (Ea (Ha (Ka (Da (Ue O) ?_))))))));refine Wv (str:=(Lib.trimLeftB (Xa s).1.exp 48)) hF mZ O ?_;rintro b3 w hb3 hF -;refine Ea (Wa ?_);have hall:(Lib.trimLeftB (Xa s).1.exp 48).all Lg=true:=Bo (QA (by simp_all));refine Xc (λμ σ w=>∃(q:Nat),μ=(Lib.trimLeftB (Xa s).1.exp 48).length-q/\(q<=(Lib.trimLeftB (Xa s).1.exp 48).length)/\AllEq σ [(2,V b1),(4,V b2),(7,J (Pe ((Lib.trimLeftB (Xa s).1.exp 48).take q))),(41,V b3)]/\FR w0 [] [(b3,.stringIter (bs ((Lib.trimLeftB (Xa s).1.exp 48))) (q)),(b2,.cells #[.bool ((Xa s).1.neg),.bool ((Xa s).1.low),I ((Xa s).1.whole),I ((Xa s).1.rest),I ((Xa s).1.exp)] 127),(b1,.cells #[.bool false,I [],J 0] 73)] w) _ ⟨0,O,(Nat.zero_le _),Lp,hF⟩ ?_;rintro μ σ w ⟨q,rfl,hq,hs,hF⟩;refine Cg.slots hs ?_;clear hs;intro σ;refine Ka ?_;by_cases hn0:(q)<((Lib.trimLeftB (Xa s).1.exp 48):Str).length;refine Nz 0 (p:=q) (str:=(Lib.trimLeftB (Xa s).1.exp 48)) hF O O hn0 ?_;rintro w hF -;refine Da (Jp O O) (Ea (Ha (Le O (Sa (Fa (Wa (Ka (Da (Hw O O) (Da (Gd O) (Ea ?_))))))))));refine Ja (Da (Bc O) ?_);have hv:=J_ (s:=(Lib.trimLeftB (Xa s).1.exp 48)) (q:=q) Ca hall;have hb:=Ly ((Lib.trimLeftB (Xa s).1.exp 48).take q) (EE q hall) (by rw[List.length_take];omega);refine Oa (v:=J (10*Pe ((Lib.trimLeftB (Xa s).1.exp 48).take q))) (UO O O (Kn Ca Ca Ca)) (Da (Bc O) ?_);refine Oa (v:=.int .i32 (((Utf8.decode (bs (Lib.trimLeftB (Xa s).1.exp 48)) q).1:Int)-48)) (G_ O O (by rw[IntKind.wrap_i32];omega)) ?_;refine Oa (v:=J (((Utf8.decode (bs (Lib.trimLeftB (Xa s).1.exp 48)) q).1:Int)-48)) (V7 underlying21 kZ O (Dl Ca Ca)) ?_;refine Oa (v:=J (Pe ((Lib.trimLeftB (Xa s).1.exp 48).take (q+1)))) (Xx O O (by rw[Cs _ q Ca,hv.1];exact Dl Ca Ca)) ?_;refine Da (Gd O) (Db (Qb ?_))
 rw[hv.2.1]at hF;refine Dc ⟨_,?_,q+1,O,Ca,Lp,hF⟩;omega;refine Vo 0 (p:=q) (str:=(Lib.trimLeftB (Xa s).1.exp 48)) hF O O hn0 (Da (Jp O O) (Ea (Ha (Kj O ?_))));refine Nc (Fc O ?_);refine Fa ?_;have eT:(Lib.trimLeftB (Xa s).1.exp 48).take q=(Lib.trimLeftB (Xa s).1.exp 48):=List.take_of_length_le Ca;have hb:=Ly (Lib.trimLeftB (Xa s).1.exp 48) hall Ca;have hE:-1000000000<Bq s/\Bq s<1000000000:=by unfold Bq;split <;> omega
 refine Ha (Ol (λσ w=>AllEq σ [(2,V b1),(4,V b2),(7,J (Bq s))]/\FR w0 [] [(b3,.stringIter (bs ((Lib.trimLeftB (Xa s).1.exp 48))) (q)),(b2,.cells #[.bool ((Xa s).1.neg),.bool ((Xa s).1.low),I ((Xa s).1.whole),I ((Xa s).1.rest),I ((Xa s).1.exp)] 127),(b1,.cells #[.bool false,I [],J 0] 73)] w) ?_ ?_);refine Ka (Da (Ud Mu O) (Xd (OH isAgg4 O hF.F 1 O O) (Ea ?_)));refine Ke O O (λhc4=>?_) (λhc4=>?_);have eE:Bq s = - Pe (Lib.trimLeftB (Xa s).1.exp 48):=by unfold Bq;rw[if_pos (by assumption)]
 refine Ja (Da (Bc O) ?_);refine Oa (v:=J (Bq s)) (YO O (by rw[eT,eE];exact Kn Ca Ca Ca)) ?_;refine Da (Gd O) (Db ?_);exact Dc ⟨V4,hF⟩;have eE:Bq s=Pe (Lib.trimLeftB (Xa s).1.exp 48):=by unfold Bq;rw[if_neg (by simp_all)]
 rw[eT,<-eE];refine Sa ?_;exact Dc ⟨V4,hF⟩;rintro σ w ⟨hs,hF⟩;refine Eg.slots hs ?_;clear hs;intro σ;refine Fa (Ka (Da (Ud Nm O) (Xd (Is zQ O hF.F 1 O O) (Da (Ud Bk O) (Xd (Is zQ O hF.F 1 O O) (Oa (v:=I (((Xa s).1.whole)++((Xa s).1.rest))) (Vr O O Ca) ?_))))));refine Ra hF (Jr ((Xa s).1.whole++(Xa s).1.rest) _) (Gb AG O O O) ?_;intro w hF;refine Da (Am O) (Ea (Ha (Ka (Da (Ue O) (Da (G5 O O) (Ea ?_))))));refine Uc O O (λhc5=>?_) (λhc5=>?_);refine Ka (Oa (w':=w) (v:=.agg #[.bool false,I [],J 0]) Cc ?_);refine Gg hF dZ O O ON ?_;rintro w hF -;refine Da (Gd O) (Ea ?_);refine Yb (Xb (Va (Kd O (l:=[.bool false,I [],J 0]) O xQ dZ O (hF.cellsAll 2 O) (v:=J 0) O) ?_));exact⟨by rw[Jh,if_neg (by simpa using hc0),if_neg Ca,if_neg Ca,if_pos hc5];rfl,hF.same⟩;refine Sa (Fa (Ka (Da (Ue O) ?_)));refine Ra hF (Kz (Lib.trimLeftB ((Xa s).1.whole++(Xa s).1.rest) 48) _ Ca) (Gb JM O O O) ?_;intro w hF;refine Da (Am O) (Ec (Da (Ud U2 O) (Xd (OH isAgg4 O hF.F 1 O O) (Da (Ue O) (Da (Bc O) (Da (Ud Bk O) (Xd (Is zQ O hF.F 1 O O) (Da (D_ mZ O) (Da (OI O O) (Da (Ue O) ?_))))))))));refine Da (D_ mZ O) (Da (Zl O O) (Da (Ue O) (Da (D_ mZ O) (Da (OI O O) ?_))));refine Oa (w':=w) (v:=.agg #[.bool ((Xa s).1.neg),I ((Lib.trimRightB (Lib.trimLeftB ((Xa s).1.whole++(Xa s).1.rest) 48) 48)),J ((((Bq s:Int)-((((Xa s).1.rest):Str).length:Int):Int)+((((Lib.trimLeftB ((Xa s).1.whole++(Xa s).1.rest) 48)):Str).length:Int):Int)-((((Lib.trimRightB (Lib.trimLeftB ((Xa s).1.whole++(Xa s).1.rest) 48) 48)):Str).length:Int))]) Cc (Wl hF qZ dZ O ?_);rintro b4 w hb4 hF -;refine Ea (Ha (Ka (Xd (Lj xQ dZ O hF.F 0 O O) ?_)));refine Ra hF (Gz (⟨(Xa s).1.neg,(Lib.trimRightB (Lib.trimLeftB ((Xa s).1.whole++(Xa s).1.rest) 48) 48),Bq s-(Xa s).1.rest.length+(Lib.trimLeftB ((Xa s).1.whole++(Xa s).1.rest) 48).length-(Lib.trimRightB (Lib.trimLeftB ((Xa s).1.whole++(Xa s).1.rest) 48) 48).length⟩) (by show (Lib.trimRightB (Lib.trimLeftB ((Xa s).1.whole++(Xa s).1.rest) 48) 48).length<=_;omega) _) (Ua MD O O) ?_
 intro w hF;refine Da (Bi O) (Ea ?_);refine Ke O O (λhc6=>?_) (λhc6=>?_);refine Ka (Oa (w':=w) (v:=.agg #[.bool false,I [],J 0]) Cc ?_);refine Gg hF dZ O O XJ ?_;rintro w hF -;refine Da (Gd O) (Ea ?_);refine Yb (Xb (Va (Kd O (l:=[.bool false,I [],J 0]) O xQ dZ O (hF.cellsAll 3 O) (v:=J 4) O) ?_));exact⟨by rw[Jh,if_neg (by simpa using hc0),if_neg Ca,if_neg Ca,if_neg hc5,if_pos (by simpa using hc6)];rfl,hF.same⟩;refine Sa (Fa (Ka (Xd (Lj xQ dZ O hF.F 0 O O) ?_)));refine Gg hF dZ O O XJ ?_;rintro w hF -;refine Da (Gd O) (Ea ?_);refine Yb (Xb (Va (Kd O (l:=[.bool ((Xa s).1.neg),I ((Lib.trimRightB (Lib.trimLeftB ((Xa s).1.whole++(Xa s).1.rest) 48) 48)),J ((((Bq s:Int)-((((Xa s).1.rest):Str).length:Int):Int)+((((Lib.trimLeftB ((Xa s).1.whole++(Xa s).1.rest) 48)):Str).length:Int):Int)-((((Lib.trimRightB (Lib.trimLeftB ((Xa s).1.whole++(Xa s).1.rest) 48) 48)):Str).length:Int))]) O xQ dZ O (hF.cellsAll 3 O) (v:=J 0) O) ?_));exact⟨by rw[Jh,if_neg (by simpa using hc0),if_neg Ca,if_neg Ca,if_neg hc5,if_neg (by simpa using hc6)];rfl,hF.same⟩
def FB(n:Int):Num:=(Md (Lib.itoa n)).1
def pI(s:Str):Int × Bool:=match Lib.parseIntB 64 s with|.ok v=>(v,true)|.range=>(Lib.intSat 64 s,false)|_=>(0,false)
def E3(x:Num):Int × Bool :=
  if Ae x=false\/x.exp<0\/19<(x.digits.length:Int)+x.exp then (0,false) else
  let t:=x.digits++Lib.repeatL [48] x.exp.toNat
  let u:=if x.neg then 45::t else t
  if u=[] then (0,true) else if (pI u).2=false then (0,false) else ((pI u).1,true)
def Sx(e:Value)(b:Bool):Prop:=if b then ∃tp q,e=.iface tp q else e=.nilIface
theorem YA{P:Program}{ρ:Operand->Value}{w:World}{dst:Option Nat}{ty:TypeId}{pos:String}{aft:Array Edge}{g:Option (Nat × Bool)}{t t':TypeId}{x:Operand}{e:Value}{b:Bool}(ht:P.underlying t=some (.interface (P.methodsAt t)))(he:Sx e b)(hx:ρ x=e)(hy:ρ (.const .nilIface)=.nilIface) :
    (execOp ρ ⟨dst,.binOp .neq t x (.const .nilIface) t',ty,pos,aft,g⟩).run P w=.ok (.value (.bool b)) w:=by
  unfold Sx at he;cases b
  ·simp only[Bool.false_eq_true,if_false]at he;subst he;exact CA ht hx hy
  simp only[if_true]at he;obtain⟨tp,q,rfl⟩:=he;exact E1 ht hx hy
theorem Ks(w:World)(e:TypeId)(s:ByteArray):Same [] w (Lib.bytesWorld w e s) :=
  .of_below (Joins.below_bytesWorld _ w e s (gQ _))
theorem F7(s:Str)(hl:s.length<=140737488355328){w:World}(hG:Gl w):Calls prog 183 #[I s,J 10,J 64] w (Pd λv w'=>∃e,v=.tuple #[J (pI s).1,e]/\Sx e (!(pI s).2)/\Same [] w w'):=by
  cases h:Lib.parseIntB 64 s with
  | ok n =>
    refine (strconv_ParseInt_10_at64_ok (bs s) (by rw[Bn];omega) n h w).mono ?_;rintro e w' ⟨rfl,hw⟩;refine⟨_,O,.nilIface,by simp[pI,h],by simp[pI,h,Sx],?_⟩;rcases hw with rfl|⟨t,rfl⟩
    ·exact Same.refl _ _
    exact Ks w 5 t
  | range =>
    obtain⟨tp,q,hv⟩:=hG.err;refine (strconv_ParseInt_10_at64_range_var (bs s) (by rw[Bn];omega) h tp q w hv).mono ?_;rintro e w' ⟨N,rfl,-,-,hb⟩;exact⟨_,O,.iface 293 (V N),by simp only[pI,h],by simp[pI,h,Sx],.of_below hb⟩
  | _ =>
    obtain⟨tp,q,hv⟩:=hG.serr;refine (Any.strconv_ParseInt_10_at64_syntax_var laysC174 (bs s) (by rw[Bn];omega) h tp q w hv).mono ?_;rintro e w' ⟨N,rfl,-,-,hb⟩;exact⟨_,O,.iface 293 (V N),(by simp[pI,h];rfl),by simp[pI,h,Sx],.of_below hb⟩
theorem OB(c:Int)(h0:0<=c)(h1:c<=19)(w:World):Calls prog 182 #[I [48],J c] w (Pd λv w'=>v=I (Lib.repeatL [48] c.toNat)/\Same [] w w'):=by
  have h:=strings_Repeat (bs [48]) c.toNat w Ca (by rw[Bn];simp;omega);rw[Int.toNat_of_nonneg h0]at h;exact Tq h
theorem NH(n:Int)(h1:-9223372036854775808<=n)(h2:n<=9223372036854775807)(w0:World)(hG:Gl w0):Calls prog 48 #[J n] w0 (Pd λv w'=>v=Il (FB n)/\Same [] w0 w'):=by
 refine Ia func48 O ntmps48 Kb (Pc _) ?_;have hF:=FR.start w0 [];refine Ka (De (cs:=#[.bool false,I [],J 0]) hF qZ O ?_);rintro b1 w hb1 hF -;refine Ec (Da (Bc O) ?_);refine Ra hF (J5 n h1 h2 (hG.ext hF.same)) (Ua LE O O) ?_;intro w hF;refine Ra hF (O8 (Lib.itoa n) (by have:=Lib.itoa_length_le n h1 h2;omega) _) (Ua AK O O) ?_;intro w hF;refine Da (Ct O) (Da (GA O O) (Da (Hw O O) ?_));refine Wl hF qZ dZ O ?_;rintro b2 w hb2 hF -;refine Da (Gd O) (Ec (Xd (Lj xQ dZ O hF.F 0 O O) ?_));refine Gg hF dZ O O W0 ?_;rintro w hF -;refine Ea (Yb (Xb (Va (Xm O (l:=[.bool ((FB n).neg),I ((FB n).digits),J ((FB n).exp)]) O xQ dZ O (hF.cellsAll 1 O)) ?_)));exact⟨O,hF.same⟩
def Fq(x:Num):Str:=if x.neg then 45::(x.digits++Lib.repeatL [48] x.exp.toNat) else x.digits++Lib.repeatL [48] x.exp.toNat
theorem Uf(x:Num):E3 x=if Ae x=false\/x.exp<0\/19<(x.digits.length:Int)+x.exp then (0,false) else if Fq x=[] then (0,true) else if (pI (Fq x)).2=false then (0,false) else ((pI (Fq x)).1,true):=rfl
theorem Pm(c:UInt8)(n:Nat):(Lib.repeatL [c] n).length=n:=by
  induction n with
  | zero=>rfl
  | succ n ih=>unfold Lib.repeatL;simp[ih];try omega
theorem CD(x:Num)(hl:x.digits.length<=140737488355328)(w0:World)(hG:Gl w0):Calls prog 139 #[Il x] w0 (Pd λv w'=>v=.tuple #[J (E3 x).1,.bool (E3 x).2]/\Same [] w0 w'):=by
  refine Ia func139 O ntmps139 Kb (Pc _) ?_;have hF:=FR.start w0 [];refine Ha (Ja ?_);refine Bg hF O ?_;intro b1 w hb1 hF hE;refine Da (Gd O) (Da (Ob O) ?_);refine Db (Fa ?_);refine Ha (Ha ?_);refine Ja (Xd (Lj xQ dZ O hF.F 0 O O) ?_);refine Ra hF (Gz x hl _) (Ua MD O O) ?_;intro w hF;refine Da (Bi O) (Da (Yd O) ?_);refine Cd (d:=10) O (λhg0=>?_) (λhg0=>?_)
  ·
   refine Ma (Ma ?_);refine Ma (Da (Sc O O) ?_);refine Da (Yd O) (Ma ?_);refine Ma (Ma ?_);refine Ma (Ma ?_);refine Ma (Ma ?_);refine Da (Sc O O) (Db ?_);refine Fa (Le O ?_);refine Ha (Ja ?_);refine Da (Gd O) (Da (Ob O) ?_);refine Db (Fa ?_);refine Yb (Xb (Va (Tk (v:=J 0) (x:=.bool false) O O O) ?_));refine⟨?_,hF.same⟩
   first
   | (have hn:¬(Ae x=false\/x.exp<0\/19<(x.digits.length:Int)+x.exp):=by (refine not_or.2 ⟨by simp_all,not_or.2 ⟨by omega,by omega⟩⟩)
      rw[Uf,if_neg hn];simp_all;done)
   | (rw[Uf];simp_all;done)
  refine Da (Ud Ni O) (Xd (B5 wQ O hF.F 0 O O) ?_);refine Da (Um O O) (Da (Ed O O) ?_);refine Da (Yd O) (Id (d:=15) O (λhg1=>?_) (λhg1=>?_))
  ·
   refine Ma (Ma ?_);refine Ma (Ma ?_);refine Ma (Ma ?_);refine Ma (Da (Sc O O) ?_);refine Db (Fa ?_);refine Le O (Ha ?_);refine Ja (Da (Gd O) ?_);refine Da (Ob O) (Db ?_);refine Fa (Yb (Xb (Va (Tk (v:=J 0) (x:=.bool false) O O O) ?_)));refine⟨?_,hF.same⟩
   first
   | (have hn:¬(Ae x=false\/x.exp<0\/19<(x.digits.length:Int)+x.exp):=by (refine not_or.2 ⟨by simp_all,not_or.2 ⟨by omega,by omega⟩⟩)
      rw[Uf,if_neg hn];simp_all;done)
   | (rw[Uf];simp_all;done)
  refine Da (Ud Dq O) (Xd (Is zQ O hF.F 0 O O) ?_);refine Da (D_ mZ O) (Da (Ud Ni O) ?_);refine Xd (B5 wQ O hF.F 0 O O) ?_;refine Oa (v:=J ((x.digits.length:Int)+x.exp)) (Xx O O (Dl (by have:=Vc (x:=x) (by simp_all);omega) (by have:=Vc (x:=x) (by simp_all);omega))) ?_;refine Da (WA O O) (Da (Ed O O) ?_);refine Db (Fa ?_);refine Uc O O (λhc0=>?_) (λhc0=>?_)
  ·
   refine Ha (Ja ?_);refine Da (Gd O) (Da (Ob O) ?_);refine Db (Fa ?_);refine Yb (Xb (Va (Tk (v:=J 0) (x:=.bool false) O O O) ?_));refine⟨?_,hF.same⟩
   first
   | (have hn:¬(Ae x=false\/x.exp<0\/19<(x.digits.length:Int)+x.exp):=by (refine not_or.2 ⟨by simp_all,not_or.2 ⟨by omega,by omega⟩⟩)
      rw[Uf,if_neg hn];simp_all;done)
   | (rw[Uf];simp_all;done)
  refine Sa (Fa ?_);refine Ha (Nf (zs:=.of []) (bQ [0,1,2,3] (.act 4 (.free 5 (.free 6 .nil)))) hF ?_);intro w hF;refine Hc O (Ud Dq O) (Js O (Is zQ O C0 0 O O) ?_);refine Hc O (Ud Ni O) (Js O (B5 wQ O C0 0 O O) ?_);refine Tf hF (OB x.exp Ca Ca _) O (Gb EM O O O) ?_;intro w hF;refine⟨hF,?_⟩;refine Vb rfl (v:=I ((x.digits)++(Lib.repeatL [48] x.exp.toNat))) (λw hC=>Vr rfl rfl (by have:=Pm 48 x.exp.toNat;have:=Vc (x:=x) (by simp_all);first|omega|(simp only[dQ,kQ,List.length_nil];omega))) ?_;refine Hc O (Am O) (Qd ?_);refine Fa (Ha ?_);refine Ol (λσ w=>AllEq σ [(4,I (Fq x))]/\FR w0 [] [(b1,.cells #[.bool (x.neg),I (x.digits),J (x.exp)] 73)] w) ?_ ?_
  ·
   refine Ha (Ja ?_);refine Da (Ud Q8 O) (Xd (OH isAgg4 O hF.F 0 O O) ?_);refine Db (Fa ?_);refine Ke O O (λhc1=>?_) (λhc1=>?_)
   ·
    have eT:[45]++(x.digits++Lib.repeatL [48] x.exp.toNat)=Fq x:=by unfold Fq;rw[if_pos (by assumption)];rfl
    refine Ja (Da (Ue O) ?_);refine Oa (v:=I (Fq x)) (by rw[<-eT];exact Vr rfl rfl (by have:=Pm 48 x.exp.toNat;have:=Vc (x:=x) (by simp_all);first|omega|(simp only[dQ,kQ,List.length_nil];omega))) ?_;refine Da (Am O) (Db ?_);exact Dc ⟨NP,hF⟩
   have eT:x.digits++Lib.repeatL [48] x.exp.toNat=Fq x:=by unfold Fq;rw[if_neg (by simp_all)]
   rw[eT];refine Sa ?_;exact Dc ⟨NP,hF⟩
  rintro σ w ⟨hs,hF⟩;refine Eg.slots hs ?_;clear hs;intro σ;have hT:(Fq x).length<=1020:=by have:=Pm 48 x.exp.toNat;have:=Vc (x:=x) (by simp_all);unfold Fq;split <;> simp only[dQ,kQ] <;> omega
  refine Fa (Ha ?_);refine Ha (Ja ?_);refine Da (Ue O) (Da (G5 O O) ?_);refine Db (Fa ?_);refine Uc O O (λhc2=>?_) (λhc2=>?_)
  ·
   refine Ha (Ja ?_);refine Da (Gd O) (Da (Ob O) ?_);refine Db (Fa ?_);refine Yb (Xb (Va (Tk (v:=J 0) (x:=.bool true) O O O) ?_));refine⟨?_,hF.same⟩
   first
   | (have hn:¬(Ae x=false\/x.exp<0\/19<(x.digits.length:Int)+x.exp):=by (refine not_or.2 ⟨by simp_all,not_or.2 ⟨by omega,by omega⟩⟩)
      rw[Uf,if_neg hn];simp_all;done)
   | (rw[Uf];simp_all;done)
  refine Sa (Fa ?_);refine Ha (Ja ?_);refine Da (Ue O) (Zb (F7 (Fq x) Ca (hG.ext hF.same)) (Re BL O O O O) ?_);rintro _ w ⟨e,rfl,he,hE⟩;have hF:=hF.ext hE;refine Da (Ct O) (Da (Hw O O) ?_);refine Da (OS O O) (Da (Gd O) ?_);refine Da (GG) (Db ?_);refine Fa (Ha ?_);refine Ha (Ja ?_);refine Da (Jq) (Oa (v:=.bool (!(pI (Fq x)).2)) (YA (underlying213) he O O) ?_);refine Db (Fa ?_);refine Ke O O (λhc3=>?_) (λhc3=>?_)
  ·
   refine Ha (Ja ?_);refine Da (Gd O) (Da (Ob O) ?_);refine Db (Fa ?_);refine Yb (Xb (Va (Tk (v:=J 0) (x:=.bool false) O O O) ?_));refine⟨?_,hF.same⟩
   first
   | (have hn:¬(Ae x=false\/x.exp<0\/19<(x.digits.length:Int)+x.exp):=by (refine not_or.2 ⟨by simp_all,not_or.2 ⟨by omega,by omega⟩⟩)
      rw[Uf,if_neg hn];simp_all;done)
   | (rw[Uf];simp_all;done)
  refine Sa (Fa ?_);refine Ha (Ja ?_);refine Da (Bc O) (Da (Gd O) ?_);refine Da (Ob O) (Db ?_);refine Fa (Yb (Xb (Va (Tk (v:=J ((pI (Fq x)).1)) (x:=.bool true) O O O) ?_)));refine⟨?_,hF.same⟩
  first
  | (have hn:¬(Ae x=false\/x.exp<0\/19<(x.digits.length:Int)+x.exp):=by (refine not_or.2 ⟨by simp_all,not_or.2 ⟨by omega,by omega⟩⟩)
     rw[Uf,if_neg hn];simp_all;done)
  | (rw[Uf];simp_all;done)
end Go.Scarf
