/- A part of the proof. -/
import Derived.Test.YtgkmigdopohcnaaGreatDoorW1
import Derived.Lib.SmallJoins
set_option linter.all false
set_option maxHeartbeats 8000000
set_option maxRecDepth 10000
namespace Go.Scarf
open Go.RowKit Go.Proofs Go.Proofs.Tryz
theorem GK(s:Str):(Mb s).1.whole.length<=s.length/\(Mb s).1.rest.length<=s.length/\(Mb s).1.exp.length<=s.length:=by
  have h1:=Uf [101,69] (Lib.trimPrefix s [45]);have h2:=Lh s [45];have h3:=Uf [46] (Pa [101,69] (Lib.trimPrefix s [45])).1;have h4:=Lh (Pa [101,69] (Lib.trimPrefix s [45])).2.1 [45];have h5:=Lh (Lib.trimPrefix (Pa [101,69] (Lib.trimPrefix s [45])).2.1 [45]) [43];unfold Mb;simp only
  repeat' split
  all_goals (refine⟨?_,?_,?_⟩ <;> simp only[Re,List.length_nil] <;> omega)
def Dj(s:Str):Int:=if (Mb s).1.low then-Ld (Lib.trimLeftB (Mb s).1.exp 48) else Ld (Lib.trimLeftB (Mb s).1.exp 48)
theorem Tg(s:Str):Fc s=if (Mb s).2=false then (Num.zero,2) else
  if 1000<(Mb s).1.whole.length+(Mb s).1.rest.length then (Num.zero,3) else
  if 9<(Lib.trimLeftB (Mb s).1.exp 48).length then (Num.zero,4) else
  if Lib.trimLeftB ((Mb s).1.whole++(Mb s).1.rest) 48=[] then (Num.zero,0) else
  if Rc (⟨(Mb s).1.neg,Lib.trimRightB (Lib.trimLeftB ((Mb s).1.whole++(Mb s).1.rest) 48) 48,Dj s-(Mb s).1.rest.length+(Lib.trimLeftB ((Mb s).1.whole++(Mb s).1.rest) 48).length-(Lib.trimRightB (Lib.trimLeftB ((Mb s).1.whole++(Mb s).1.rest) 48) 48).length⟩)=false then (Num.zero,4) else
  (⟨(Mb s).1.neg,Lib.trimRightB (Lib.trimLeftB ((Mb s).1.whole++(Mb s).1.rest) 48) 48,Dj s-(Mb s).1.rest.length+(Lib.trimLeftB ((Mb s).1.whole++(Mb s).1.rest) 48).length-(Lib.trimRightB (Lib.trimLeftB ((Mb s).1.whole++(Mb s).1.rest) 48) 48).length⟩,0):=rfl
theorem CQ{s:Str}{q:Nat}(h:q<s.length)(ha:s.all Ge=true):(Utf8.decode (bs s) q).1=s[q].toNat/\(Utf8.decode (bs s) q).2=1/\48<=s[q].toNat/\s[q].toNat<=57:=by
  have hd:=List.all_eq_true.1 ha s[q] (eQ h);have:=GB s q h hd;rw[this];unfold Ge at hd;simp only[Bool.and_eq_true,decide_eq_true_eq]at hd;exact⟨O,O,hd.1,hd.2⟩
theorem Fr{f:UInt8->Bool}{s:Str}(q:Nat)(h:s.all f=true):(s.take q).all f=true:=by
  rw[List.all_eq_true]at h ⊢;exact λx hx=>h x (List.mem_of_mem_take hx)
theorem Ly(s:Str)(hl:s.length<=140737488355328)(w0:World):Calls prog 71 #[I s] w0 (Dd λv w'=>v=.tuple #[Hl (Fc s).1,J (Fc s).2]/\Same [] w0 w'):=by
 have hls:=GK s;have ht0:=Qw (Mb s).1.exp 48;have ht1:=Qw ((Mb s).1.whole++(Mb s).1.rest) 48;rw[dQ]at ht1;have ht2:=X7 (Lib.trimLeftB ((Mb s).1.whole++(Mb s).1.rest) 48) 48;refine Ia func71 O ntmps71 Eb (Yb _) ?_;have hF:=FR.start w0 [];refine Ea (Wc (cs:=#[.bool false,I [],J 0]) hF pX O ?_);rintro b1 w hb1 hF -;refine Ba (Gb O) (Rb (Ba (Bc O) ?_));refine Oa hF (read_c s hl _) (Na en_110 O O) ?_;intro w hF;refine Ba (Qk O) (Ba (Iw O O) (Ba (Ao O O) ?_));refine Gg hF zeroValue163 lZ O ?_;rintro b2 w hb2 hF -;refine Ba (Db O) (Rb (Ba (Ob Xy O) (Zb (Pk jZ O hF.F 0 O O) ?_)));refine Oa hF (E3 (Mb s).1.exp _) (Xa IV O O O) ?_;intro w hF;refine Ba (Fd O) (Da (Ga (Qa (Ea (Ba (Vb O) (Ba (Si O) (Ba (Db O) (Da ?_))))))));refine Le O O (λhc0=>?_) (λhc0=>?_);refine Ea (Ka (w':=w) (v:=.agg #[.bool false,I [],J 0]) Ub ?_);refine Ie hF rZ O O Js ?_;rintro w hF -;refine Ba (Gb O) (Da ?_);refine Va (Ua (Ja (Nc O (l:=[.bool false,I [],J 0]) O iZ rZ O (hF.cellsAll 1 O) (v:=J 2) O) ?_));exact⟨by rw[Tg,if_pos (by simpa using hc0)];rfl,hF.same⟩;refine Ea (Ba (Ob Ou O) (Zb (Pk jZ O hF.F 0 O O) (Ba (Fj jX O) (Ba (Ob Wq O) (Zb (Pk jZ O hF.F 0 O O) (Ba (Fj jX O) (Ba (Nl O O) (Ba (Ho O O) (Ba (Db O) (Da ?_))))))))));refine Ib O O (λhc1=>?_) (λhc1=>?_);refine Ea (Ka (w':=w) (v:=.agg #[.bool false,I [],J 0]) Ub ?_);refine Ie hF rZ O O Js ?_;rintro w hF -;refine Ba (Gb O) (Da ?_);refine Va (Ua (Ja (Nc O (l:=[.bool false,I [],J 0]) O iZ rZ O (hF.cellsAll 1 O) (v:=J 3) O) ?_));exact⟨by rw[Tg,if_neg (by simpa using hc0),if_pos Aa];rfl,hF.same⟩;refine Ea (Ba (Bc O) (Ba (Fj jX O) (Ba (Ho O O) (Ba (Db O) (Da ?_)))));refine Ib O O (λhc2=>?_) (λhc2=>?_);refine Ea (Ka (w':=w) (v:=.agg #[.bool false,I [],J 0]) Ub ?_);refine Ie hF rZ O O Js ?_;rintro w hF -;refine Ba (Gb O) (Da ?_);refine Va (Ua (Ja (Nc O (l:=[.bool false,I [],J 0]) O iZ rZ O (hF.cellsAll 1 O) (v:=J 4) O) ?_))
 exact⟨by rw[Tg,if_neg (by simpa using hc0),if_neg Aa,if_pos Aa];rfl,hF.same⟩;refine La (Bb (Fa (Ea (Ba (Gb O) (Da (Ga (Ea (Ba (Bc O) ?_))))))));refine Uz (str:=(Lib.trimLeftB (Mb s).1.exp 48)) hF jX O ?_;rintro b3 w hb3 hF -;refine Da (Qa ?_);have hall:(Lib.trimLeftB (Mb s).1.exp 48).all Ge=true:=Vw (WS (by simp_all));refine Jc (λμ σ w=>∃(q:Nat),μ=(Lib.trimLeftB (Mb s).1.exp 48).length-q/\(q<=(Lib.trimLeftB (Mb s).1.exp 48).length)/\AllEq σ [(2,V b1),(4,V b2),(7,J (Ld ((Lib.trimLeftB (Mb s).1.exp 48).take q))),(41,V b3)]/\FR w0 [] [(b3,.stringIter (bs ((Lib.trimLeftB (Mb s).1.exp 48))) (q)),(b2,.cells #[.bool ((Mb s).1.neg),.bool ((Mb s).1.low),I ((Mb s).1.whole),I ((Mb s).1.rest),I ((Mb s).1.exp)] 163),(b1,.cells #[.bool false,I [],J 0] 86)] w) _ ⟨0,O,(Nat.zero_le _),Om,hF⟩ ?_;rintro μ σ w ⟨q,rfl,hq,hs,hF⟩;refine Cg.slots hs ?_;clear hs;intro σ;refine Ea ?_;by_cases hn0:(q)<((Lib.trimLeftB (Mb s).1.exp 48):Str).length;refine E4 0 (p:=q) (str:=(Lib.trimLeftB (Mb s).1.exp 48)) hF O O hn0 ?_;rintro w hF -;refine Ba (Ao O O) (Da (Ga (Ad O (La (Fa (Qa (Ea (Ba (Tj O O) (Ba (Gb O) (Da ?_))))))))));refine Ha (Ba (Za O) ?_);have hv:=CQ (s:=(Lib.trimLeftB (Mb s).1.exp 48)) (q:=q) Aa hall;have hb:=Vv ((Lib.trimLeftB (Mb s).1.exp 48).take q) (Fr q hall) (by rw[List.length_take];omega);refine Ka (v:=J (10*Ld ((Lib.trimLeftB (Mb s).1.exp 48).take q))) (F3 O O (Vf Aa Aa Aa)) (Ba (Za O) ?_);refine Ka (v:=.int .i32 (((Utf8.decode (bs (Lib.trimLeftB (Mb s).1.exp 48)) q).1:Int)-48)) (E0 O O (by rw[IntKind.wrap_i32];omega)) ?_;refine Ka (v:=J (((Utf8.decode (bs (Lib.trimLeftB (Mb s).1.exp 48)) q).1:Int)-48)) (Zc xZ bX O (Rh Aa Aa)) ?_;refine Ka (v:=J (Ld ((Lib.trimLeftB (Mb s).1.exp 48).take (q+1)))) (Rr O O (by rw[Wn _ q Aa,hv.1];exact Rh Aa Aa)) ?_;refine Ba (Gb O) (Ta (Bb ?_))
 rw[hv.2.1]at hF;refine Hb ⟨_,?_,q+1,O,Aa,Om,hF⟩;omega;refine Qs 0 (p:=q) (str:=(Lib.trimLeftB (Mb s).1.exp 48)) hF O O hn0 (Ba (Ao O O) (Da (Ga (De O ?_))));refine Ec (Ac O ?_);refine Fa ?_;have eT:(Lib.trimLeftB (Mb s).1.exp 48).take q=(Lib.trimLeftB (Mb s).1.exp 48):=List.take_of_length_le Aa;have hb:=Vv (Lib.trimLeftB (Mb s).1.exp 48) hall Aa;have hE:-1000000000<Dj s/\Dj s<1000000000:=by unfold Dj;split <;> omega
 refine Ga (Bf (λσ w=>AllEq σ [(2,V b1),(4,V b2),(7,J (Dj s))]/\FR w0 [] [(b3,.stringIter (bs ((Lib.trimLeftB (Mb s).1.exp 48))) (q)),(b2,.cells #[.bool ((Mb s).1.neg),.bool ((Mb s).1.low),I ((Mb s).1.whole),I ((Mb s).1.rest),I ((Mb s).1.exp)] 163),(b1,.cells #[.bool false,I [],J 0] 86)] w) ?_ ?_);refine Ea (Ba (Ob X5 O) (Zb (N3 fZ O hF.F 1 O O) (Da ?_)));refine Le O O (λhc4=>?_) (λhc4=>?_);have eE:Dj s = - Ld (Lib.trimLeftB (Mb s).1.exp 48):=by unfold Dj;rw[if_pos (by assumption)]
 refine Ha (Ba (Za O) ?_);refine Ka (v:=J (Dj s)) (L3 O (by rw[eT,eE];exact Vf Aa Aa Aa)) ?_;refine Ba (Gb O) (Ta ?_);exact Hb ⟨Oq,hF⟩;have eE:Dj s=Ld (Lib.trimLeftB (Mb s).1.exp 48):=by unfold Dj;rw[if_neg (by simp_all)]
 rw[eT,<-eE];refine La ?_;exact Hb ⟨Oq,hF⟩;rintro σ w ⟨hs,hF⟩;refine Eg.slots hs ?_;clear hs;intro σ;refine Fa (Ea (Ba (Ob Ou O) (Zb (Pk jZ O hF.F 1 O O) (Ba (Ob Wq O) (Zb (Pk jZ O hF.F 1 O O) (Ka (v:=I (((Mb s).1.whole)++((Mb s).1.rest))) (Em O O Aa) ?_))))));refine Oa hF (E3 ((Mb s).1.whole++(Mb s).1.rest) _) (Xa IV O O O) ?_;intro w hF;refine Ba (Fd O) (Da (Ga (Ea (Ba (Bc O) (Ba (Rw O O) (Da ?_))))));refine Ib O O (λhc5=>?_) (λhc5=>?_);refine Ea (Ka (w':=w) (v:=.agg #[.bool false,I [],J 0]) Ub ?_);refine Ie hF rZ O O Iz ?_;rintro w hF -;refine Ba (Gb O) (Da ?_);refine Va (Ua (Ja (Nc O (l:=[.bool false,I [],J 0]) O iZ rZ O (hF.cellsAll 2 O) (v:=J 0) O) ?_));exact⟨by rw[Tg,if_neg (by simpa using hc0),if_neg Aa,if_neg Aa,if_pos hc5];rfl,hF.same⟩;refine La (Fa (Ea (Ba (Bc O) ?_)));refine Oa hF (CC (Lib.trimLeftB ((Mb s).1.whole++(Mb s).1.rest) 48) _ Aa) (Xa en_112 O O O) ?_;intro w hF;refine Ba (Fd O) (Rb (Ba (Ob BF O) (Zb (N3 fZ O hF.F 1 O O) (Ba (Bc O) (Ba (Za O) (Ba (Ob Wq O) (Zb (Pk jZ O hF.F 1 O O) (Ba (Fj jX O) (Ba (P7 O O) (Ba (Bc O) ?_))))))))));refine Ba (Fj jX O) (Ba (Nl O O) (Ba (Bc O) (Ba (Fj jX O) (Ba (P7 O O) ?_))));refine Ka (w':=w) (v:=.agg #[.bool ((Mb s).1.neg),I ((Lib.trimRightB (Lib.trimLeftB ((Mb s).1.whole++(Mb s).1.rest) 48) 48)),J ((((Dj s:Int)-((((Mb s).1.rest):Str).length:Int):Int)+((((Lib.trimLeftB ((Mb s).1.whole++(Mb s).1.rest) 48)):Str).length:Int):Int)-((((Lib.trimRightB (Lib.trimLeftB ((Mb s).1.whole++(Mb s).1.rest) 48) 48)):Str).length:Int))]) Ub (Gg hF pX rZ O ?_);rintro b4 w hb4 hF -;refine Da (Ga (Ea (Zb (Of iZ rZ O hF.F 0 O O) ?_)));refine Oa hF (Zz (⟨(Mb s).1.neg,(Lib.trimRightB (Lib.trimLeftB ((Mb s).1.whole++(Mb s).1.rest) 48) 48),Dj s-(Mb s).1.rest.length+(Lib.trimLeftB ((Mb s).1.whole++(Mb s).1.rest) 48).length-(Lib.trimRightB (Lib.trimLeftB ((Mb s).1.whole++(Mb s).1.rest) 48) 48).length⟩) (by show (Lib.trimRightB (Lib.trimLeftB ((Mb s).1.whole++(Mb s).1.rest) 48) 48).length<=_;omega) _) (Na RF O O) ?_
 intro w hF;refine Ba (Si O) (Da ?_);refine Le O O (λhc6=>?_) (λhc6=>?_);refine Ea (Ka (w':=w) (v:=.agg #[.bool false,I [],J 0]) Ub ?_);refine Ie hF rZ O O R6 ?_;rintro w hF -;refine Ba (Gb O) (Da ?_);refine Va (Ua (Ja (Nc O (l:=[.bool false,I [],J 0]) O iZ rZ O (hF.cellsAll 3 O) (v:=J 4) O) ?_));exact⟨by rw[Tg,if_neg (by simpa using hc0),if_neg Aa,if_neg Aa,if_neg hc5,if_pos (by simpa using hc6)];rfl,hF.same⟩;refine La (Fa (Ea (Zb (Of iZ rZ O hF.F 0 O O) ?_)));refine Ie hF rZ O O R6 ?_;rintro w hF -;refine Ba (Gb O) (Da ?_);refine Va (Ua (Ja (Nc O (l:=[.bool ((Mb s).1.neg),I ((Lib.trimRightB (Lib.trimLeftB ((Mb s).1.whole++(Mb s).1.rest) 48) 48)),J ((((Dj s:Int)-((((Mb s).1.rest):Str).length:Int):Int)+((((Lib.trimLeftB ((Mb s).1.whole++(Mb s).1.rest) 48)):Str).length:Int):Int)-((((Lib.trimRightB (Lib.trimLeftB ((Mb s).1.whole++(Mb s).1.rest) 48) 48)):Str).length:Int))]) O iZ rZ O (hF.cellsAll 3 O) (v:=J 0) O) ?_));exact⟨by rw[Tg,if_neg (by simpa using hc0),if_neg Aa,if_neg Aa,if_neg hc5,if_neg (by simpa using hc6)];rfl,hF.same⟩
def Zd(x:Num):Int:=if x.digits=[] then 0 else if x.neg then -1 else 1
def LB:List Int->Int|[]=>0|x::r=>if x≠0 then x else LB r
theorem TG:∀{l:List Int},(∀x∈l,x=0)->LB l=0
  | [],_=>rfl
  | x::r,h=>by unfold LB;rw[if_neg (by simp[h x Ma])];exact TG (λy hy=>h y (by simp[hy]))
theorem RY:∀{l:List Int}{j:Nat}(h:j<l.length),(∀x∈l.take j,x=0)->l[j]≠0->LB l=l[j]
  | [],_,h,_,_=>absurd h Ma
  | x :: r, 0, _, _, hn => by
    have hn':x≠0:=hn;unfold LB;rw[if_pos hn'];rfl
  | x :: r, j + 1, h, hz, hn => by
    unfold LB;rw[if_neg (by simp[hz x Ma]),RY (j:=j) (by simpa using h) (λy hy=>hz y (by simp[hy])) (by simpa using hn)];rfl
def Do(x y:Num):Int:=LB [Lib.compareInt (x.digits.length+x.exp) (y.digits.length+y.exp),Lib.compareBytes x.digits y.digits]
def Bs(x y:Num):Int :=
  if Rc x=false then (if Rc y=false then 0 else -1) else if Rc y=false then 1 else
  if Lib.compareInt (Zd x) (Zd y)≠0 then Lib.compareInt (Zd x) (Zd y) else if Zd x=0 then 0 else Zd x*Do x y
def I2(n:Int):Num:=(Fc (Lib.itoa n)).1
def pI(s:Str):Int × Bool:=match Lib.parseIntB 64 s with|.ok v=>(v,true)|.range=>(Lib.intSat 64 s,false)|_=>(0,false)
def Er(x:Num):Int × Bool :=
  if Rc x=false\/x.exp<0\/19<(x.digits.length:Int)+x.exp then (0,false) else
  let t:=x.digits++Lib.repeatL [48] x.exp.toNat
  let u:=if x.neg then 45::t else t
  if u=[] then (0,true) else if (pI u).2=false then (0,false) else ((pI u).1,true)
def O_(e:Value)(b:Bool):Prop:=if b then ∃tp q,e=.iface tp q else e=.nilIface
theorem BQ{P:Program}{ρ:Operand->Value}{w:World}{dst:Option Nat}{ty:TypeId}{pos:String}{aft:Array Edge}{g:Option (Nat × Bool)}{t t':TypeId}{x:Operand}{e:Value}{b:Bool}(ht:P.underlying t=some (.interface (P.methodsAt t)))(he:O_ e b)(hx:ρ x=e)(hy:ρ (.const .nilIface)=.nilIface) :
    (execOp ρ ⟨dst,.binOp .neq t x (.const .nilIface) t',ty,pos,aft,g⟩).run P w=.ok (.value (.bool b)) w:=by
  unfold O_ at he;cases b
  ·simp only[Bool.false_eq_true,if_false]at he;subst he;exact YS ht hx hy
  simp only[if_true]at he;obtain⟨tp,q,rfl⟩:=he;exact QD ht hx hy
theorem V3(w:World)(e:TypeId)(s:ByteArray):Same [] w (Lib.bytesWorld w e s) :=
  .of_below (Joins.below_bytesWorld _ w e s (gQ _))
theorem BJ(s:Str)(hl:s.length<=140737488355328){w:World}(hG:Gl w):Calls prog 198 #[I s,J 10,J 64] w (Dd λv w'=>∃e,v=.tuple #[J (pI s).1,e]/\O_ e (!(pI s).2)/\Same [] w w'):=by
  cases h:Lib.parseIntB 64 s with
  | ok n =>
    refine (strconv_ParseInt_10_at64_ok (bs s) (by rw[Eo];omega) n h w).mono ?_;rintro e w' ⟨rfl,hw⟩;refine⟨_,O,.nilIface,by simp[pI,h],by simp[pI,h,O_],?_⟩;rcases hw with rfl|⟨t,rfl⟩
    ·exact Same.refl _ _
    exact V3 w 5 t
  | range =>
    obtain⟨tp,q,hv⟩:=hG.err;refine (strconv_ParseInt_10_at64_range_var (bs s) (by rw[Eo];omega) h tp q w hv).mono ?_;rintro e w' ⟨N,rfl,-,-,hb⟩;exact⟨_,O,.iface 288 (V N),by simp only[pI,h],by simp[pI,h,O_],.of_below hb⟩
  | _ =>
    obtain⟨tp,q,hv⟩:=hG.serr;refine (Any.strconv_ParseInt_10_at64_syntax_var laysC174 (bs s) (by rw[Eo];omega) h tp q w hv).mono ?_;rintro e w' ⟨N,rfl,-,-,hb⟩;exact⟨_,O,.iface 288 (V N),(by simp[pI,h];rfl),by simp[pI,h,O_],.of_below hb⟩
theorem JA(c:Int)(h0:0<=c)(h1:c<=19)(w:World):Calls prog 197 #[I [48],J c] w (Dd λv w'=>v=I (Lib.repeatL [48] c.toNat)/\Same [] w w'):=by
  have h:=strings_Repeat (bs [48]) c.toNat w Aa (by rw[Eo];simp;omega);rw[Int.toNat_of_nonneg h0]at h;exact Cw h
theorem UQ{w:World}{ad:Addr}{a b:Int}(h:∀j (hj:j<[Value.int .i64 a,Value.int .i64 b].length),w.cell? (ad.add j)=some [Value.int .i64 a,Value.int .i64 b][j]) :
    ∀j (hj:j<[a,b].length),w.cell? (ad.add j)=some (.int .i64 [a,b][j])
  | 0,_=>h 0 Ma
  | 1,_=>h 1 Ma
  | j+2,hj=>absurd hj Ma
theorem BA{w:World}{ad:Addr}{a b c:Int}(h:∀j (hj:j<[Value.int .i64 a,Value.int .i64 b,Value.int .i64 c].length),w.cell? (ad.add j)=some [Value.int .i64 a,Value.int .i64 b,Value.int .i64 c][j]) :
    ∀j (hj:j<[a,b,c].length),w.cell? (ad.add j)=some (.int .i64 [a,b,c][j])
  | 0,_=>h 0 Ma
  | 1,_=>h 1 Ma
  | 2,_=>h 2 Ma
  | j+3,hj=>absurd hj Ma
theorem D3(x:Num):Zd x=0\/Zd x=1\/Zd x = -1:=by
  unfold Zd;split
  ·simp
  split <;> simp
theorem M2(x y:Int):Lib.compareInt x y=0\/Lib.compareInt x y=1\/Lib.compareInt x y = -1:=by
  unfold Lib.compareInt;split
  ·simp
  split <;> simp
theorem Ol:∀(x y:Str),Lib.compareBytes x y=0\/Lib.compareBytes x y=1\/Lib.compareBytes x y = -1
  | [],[]=>by simp[Lib.compareBytes]
  | [],_::_=>by simp[Lib.compareBytes]
  | _::_,[]=>by simp[Lib.compareBytes]
  | a :: r, b :: q => by
    have:=Ol r q;unfold Lib.compareBytes;split
    ·simp
    split
    ·simp
    exact this
theorem C8(x y:Num):Do x y=0\/Do x y=1\/Do x y = -1:=by
  unfold Do LB;split
  ·exact M2 _ _
  unfold LB;split
  ·exact Ol _ _
  left;rfl
theorem take_zero{l:List Int}{j:Nat}(h:j<l.length)(hz:∀x∈l.take j,x=0)(hn:l[j]=0):∀x∈l.take (j+1),x=0:=by
  rw[iQ h];intro c hc;rcases mQ.1 hc with hc|hc
  ·exact hz c hc
  simp only[pQ]at hc;rw[hc];exact hn
theorem Jv(x:Num)(w0:World):Calls prog 127 #[Hl x] w0 (Dd λv w'=>v=J (Zd x)/\Same [] w0 w'):=by
 refine Ia func127 O ntmps127 Eb (Yb _) ?_;have hF:=FR.start w0 [];refine Ea (Oe hF O ?_);rintro b1 w hb1 hF -;refine Ba (Gb O) (Da (Ga (Qa (Ea (Ba (Ob Eh O) (Zb (Pk jZ O hF.F 0 O O) (Ba (Rw O O) (Ba (Db O) (Da ?_)))))))));refine Ib O O (λhc0=>?_) (λhc0=>?_);refine Ea (Ba (Gb O) (Da ?_));refine Gc (v:=J 0) O O ?_;exact⟨by simp_all[Zd],hF.same⟩;refine Ea (Ba (Ob Gz O) (Zb (N3 fZ O hF.F 0 O O) (Ba (Db O) (Da ?_))));refine Le O O (λhc1=>?_) (λhc1=>?_);refine Ea (Ba (Gb O) (Da ?_));refine Gc (v:=J ((-1))) O O ?_;exact⟨by simp_all[Zd],hF.same⟩;refine La (Bb (Fa (Ea (Ba (Gb O) (Da ?_)))));refine Gc (v:=J 1) O O ?_;exact⟨by simp_all[Zd],hF.same⟩
theorem or_c(l:List Int)(ad:Addr)(c:Nat)(hlen:l.length<=140737488355328)(w0:World)(hc:∀j (h:j<l.length),w0.cell? (ad.add j)=some (J l[j])):Calls prog 83 #[.slice (some ad) l.length c] w0 (Dd λv w'=>v=J (LB l)/\Same [] w0 w'):=by
 refine Ia func83 O ntmps83 Eb (Yb _) ?_;have hF:=FR.start w0 [];refine Ea (Ba (Gb O) (Rb (Ba (Gb O) (Da (Ga (Ea (Ba (Sf O) ?_)))))));refine Ba (Ch gX O) (Ba (Za O) (Da (Qa ?_)));refine Jc (λμ σ w=>∃(j:Nat),μ=l.length-j/\(j<=l.length)/\(∀x∈l.take j,x=0)/\AllEq σ [(3,J 0),(6,.slice (some ad) (l.length) (c)),(7,J ((l.length:Nat))),(8,J ((j:Int)))]/\FR w0 [] [] w) _ ⟨0,O,(Nat.zero_le _),Ma,Om,hF⟩ ?_;rintro μ σ w ⟨j,rfl,hj,hz,hs,hF⟩;refine Cg.slots hs ?_;clear hs;intro σ;refine Ea (Ba (Di O O) (Da (Ga ?_)));refine Ib O O (λhc0=>?_) (λhc0=>?_);refine La (Fa (Ga (Qa (Ea (Ka (v:=.pointer (some (ad.add (j*1)))) (Sa (i:=(j:Int)) CA O O O Aa Aa) ?_)))));have hcj:w0.cell? (ad.add (j*1))=some (J l[j]):=by rw[Nat.mul_one];exact hc j Aa
 refine Ka (v:=J (l[j])) (Qd eZ O (hF.cell0 hcj)) (Ba (Gb O) (Rb (Ba (Za O) (Ba (Za O) (Ba (Vk O O) (Da ?_))))));refine Ib O O (λhc1=>?_) (λhc1=>?_);refine Ea (Ba (Za O) (Ba (Gb O) (Da ?_)));refine Gc (v:=J (l[j])) O O ?_;exact⟨by rw[RY Aa hz (by simpa using hc1)],hF.same⟩;refine La (Bb (Fa (Ha (Ba (Nl O O) (Ba (Za O) (Ta ?_))))));refine Hb ⟨_,?_,j+1,O,Aa,(take_zero Aa hz (by simpa using hc1)),Om,hF⟩;omega;refine Ec (Ac O ?_);refine Fa (Ea (Ba (Za O) (Ba (Gb O) (Da ?_))));refine Gc (v:=J 0) O O ?_;have e:l.take j=l:=List.take_of_length_le Aa;rw[e]at hz;exact⟨by rw[TG hz],hF.same⟩
theorem far_c(x y:Num)(hx:Rc x=true)(hy:Rc y=true)(w0:World):Calls prog 128 #[Hl x,Hl y] w0 (Dd λv w'=>v=J (Do x y)/\Same [] w0 w'):=by
 have h1:=Vc hx;have h2:=Vc hy;refine Ia func128 O ntmps128 Eb (Pc _ _) ?_;have hF:=FR.start w0 [];refine Ea (Oe hF O ?_);rintro b1 w hb1 hF -;refine Oe hF O ?_;rintro b2 w hb2 hF -;refine Ba (Gb O) (Rb (Ba (Ob Eh O) (Zb (Pk jZ O hF.F 1 O O) (Ba (Fj jX O) (Ba (Ob Qg O) (Zb (Th eZ O hF.F 1 O O) (Ba (Nl O O) (Ba (Ob Eh O) (Zb (Pk jZ O hF.F 0 O O) (Ba (Fj jX O) ?_))))))))));refine Ba (Ob Qg O) (Zb (Th eZ O hF.F 0 O O) (Ba (Nl O O) ?_));refine Oa hF (Eu (x.digits.length+x.exp) (y.digits.length+y.exp) _) (Xa WF O O O) ?_;intro w hF;refine Ba (Gb O) (Rb (Ba (Za O) (Ba (Ob Eh O) (Zb (Pk jZ O hF.F 1 O O) (Ba (Ob Eh O) (Zb (Pk jZ O hF.F 0 O O) ?_))))));refine Oa hF (Np x.digits y.digits _) (Xa YF O O O) ?_;intro w hF;refine Rl 2 hF (Nb (cs:=#[J (Lib.compareInt (x.digits.length+x.exp) (y.digits.length+y.exp)),J (Lib.compareBytes x.digits y.digits)]) gX sizeOf3 oX Ab Ab Ub) ?_;rintro b3 w hb3 hF -;refine Oa hF (or_c [Lib.compareInt (x.digits.length+x.exp) (y.digits.length+y.exp),Lib.compareBytes x.digits y.digits] _ 2 Ma _ (UQ (hF.cellsAll 0 O))) (Na VU O O) ?_;intro w hF;refine Ba (Gb O) (Da ?_);refine Gc (v:=J (Do x y)) O O ?_;exact⟨O,hF.same⟩
theorem ZC(x y:Num)(hx:x.digits.length<=140737488355328)(hy:y.digits.length<=140737488355328)(w0:World):Calls prog 82 #[Hl x,Hl y] w0 (Dd λv w'=>v=J (Bs x y)/\Same [] w0 w'):=by
 refine Ia func82 O ntmps82 Eb (Pc _ _) ?_;have hF:=FR.start w0 [];refine Ea (Oe hF O ?_);rintro b1 w hb1 hF -;refine Oe hF O ?_;rintro b2 w hb2 hF -;refine Ba (Gb O) (Da (Ga ?_));refine Md (zs:=.of []) (.free 0 (.free 2 (.act 1 (.act 3 (.free 4 (.free 5 .nil)))))) hF ?_;intro w hF;refine Fg O (Of iZ rZ O C0 1 O O) (Fg O (Of iZ rZ O C0 0 O O) ?_);refine Ed hF (Zz x hx _) O (Na RF O O) ?_;intro w hF;refine⟨hF,?_⟩;refine Ed hF (Zz y hy _) O (Na RF O O) ?_;intro w hF;refine⟨hF,?_⟩;refine Jb O (Db O) (Jb O (Db O) (Hc (Fa (Ga (Qa (Ea (Ba (Vb O) (Ba (Si O) (Ba (Vb O) ?_)))))))));refine Lc (d:=15) O (λhg0=>?_) (λhg0=>?_);refine Ba (Vb O) (Ba (Si O) (Ba (Tb O O) (Ba (Db O) (Da ?_))));refine Le O O (λhc0=>?_) (λhc0=>?_);refine Ea (Ba (Gb O) (Da ?_));refine Gc (v:=J 0) O O ?_;exact⟨by simp_all[Bs],hF.same⟩;refine Ea (Ba (Vb O) (Ba (Si O) (Ba (Db O) (Da ?_))));refine Le O O (λhc1=>?_) (λhc1=>?_);refine Ea (Ba (Gb O) (Da ?_));refine Gc (v:=J ((-1))) O O ?_;exact⟨by simp_all[Bs],hF.same⟩;refine Ea (Ba (Vb O) (Ba (Si O) (Ba (Db O) (Da ?_))));refine Le O O (λhc2=>?_) (λhc2=>?_);refine Ea (Ba (Gb O) (Da ?_));refine Gc (v:=J 1) O O ?_;exact⟨by simp_all[Bs],hF.same⟩;refine La (Bb (Fa (Ga (Ga ?_))));refine Md (zs:=.of []) (.free 0 (.free 2 (cQ [1,3,4] (.free 5 .nil)))) hF ?_;intro w hF;refine Fg O (Of iZ rZ O C0 1 O O) (Fg O (Of iZ rZ O C0 0 O O) ?_);refine Ed hF (Jv x _) O (Na Yt O O) ?_;intro w hF;refine⟨hF,?_⟩;refine Ed hF (Jv y _) O (Na Yt O O) ?_;intro w hF;refine⟨hF,?_⟩;refine Ed hF (Eu (Zd x) (Zd y) _) O (Xa WF O O O) ?_;intro w hF;refine⟨hF,?_⟩;refine Jb O (Gb O) (Hc (Fa (Ea (Ba (Za O) (Ba (Vk O O) (Ba (Vb O) ?_))))));refine Ya (d:=32) O (λhg1=>?_) (λhg1=>?_);refine Ca (Ca (Ca (Ba (Tb O O) (Da (Ad O (Ea (Ba (Za O) (Ba (Gb O) (Da ?_)))))))))
 refine Gc (v:=J (Lib.compareInt (Zd x) (Zd y))) O O ?_;exact⟨by simp_all[Bs],hF.same⟩;refine Zb (Of iZ rZ O hF.F 1 O O) (Oa hF (Jv x _) (Na Yt O O) ?_);intro w hF;refine Ba (Qf O O) (Ba (Kb O O) (Da ?_));refine Ib O O (λhc3=>?_) (λhc3=>?_);refine Ea (Ba (Za O) (Ba (Gb O) (Da ?_)));refine Gc (v:=J (Lib.compareInt (Zd x) (Zd y))) O O ?_;exact⟨by simp_all[Bs],hF.same⟩;refine La (Fa (Ga ?_));refine Md (zs:=.of []) (bQ [0,2,3] (.act 1 (.act 4 (.free 5 (.free 6 .nil))))) hF ?_;intro w hF;refine Fg O (Of iZ rZ O C0 1 O O) (Fg O (Of iZ rZ O C0 1 O O) (Fg O (Of iZ rZ O C0 0 O O) ?_));refine Ed hF (Jv x _) O (Na Yt O O) ?_;intro w hF;refine⟨hF,?_⟩;refine Ed hF (far_c x y (by simp_all) (by simp_all) _) O (Xa MV O O O) ?_;intro w hF;refine⟨hF,?_⟩;refine Cb rfl (v:=J (Zd x*Do x y)) (λw hC=>F3 rfl rfl (by rcases D3 x with h|h|h <;> rcases C8 x y with h'|h'|h' <;> rw[h,h'] <;> decide)) ?_;refine Jb O (Gb O) (Hc (Fa ?_));refine Gc (v:=J (Zd x*Do x y)) O O ?_;exact⟨by simp_all[Bs],hF.same⟩;refine Ca (Ca (Ba (Kb O O) (Ba (Db O) (Da (De O (Ea (Ba (Vb O) (Ba (Si O) (Ba (Db O) (Da ?_))))))))));refine Le O O (λhc1=>?_) (λhc1=>?_);refine Ea (Ba (Gb O) (Da ?_));refine Gc (v:=J ((-1))) O O ?_;exact⟨by simp_all[Bs],hF.same⟩;refine Ea (Ba (Vb O) (Ba (Si O) (Ba (Db O) (Da ?_))));refine Le O O (λhc2=>?_) (λhc2=>?_);refine Ea (Ba (Gb O) (Da ?_));refine Gc (v:=J 1) O O ?_;exact⟨by simp_all[Bs],hF.same⟩;refine La (Bb (Fa (Ga (Ga ?_))));refine Md (zs:=.of []) (.free 0 (.free 2 (cQ [1,3,4] (.free 5 .nil)))) hF ?_;intro w hF;refine Fg O (Of iZ rZ O C0 1 O O) (Fg O (Of iZ rZ O C0 0 O O) ?_);refine Ed hF (Jv x _) O (Na Yt O O) ?_;intro w hF;refine⟨hF,?_⟩;refine Ed hF (Jv y _) O (Na Yt O O) ?_;intro w hF;refine⟨hF,?_⟩;refine Ed hF (Eu (Zd x) (Zd y) _) O (Xa WF O O O) ?_
 intro w hF;refine⟨hF,?_⟩;refine Jb O (Gb O) (Hc (Fa (Ea (Ba (Za O) (Ba (Vk O O) (Ba (Vb O) ?_))))));refine Ya (d:=32) O (λhg2=>?_) (λhg2=>?_);refine Ca (Ca (Ca (Ba (Tb O O) (Da (Ad O (Ea (Ba (Za O) (Ba (Gb O) (Da ?_)))))))));refine Gc (v:=J (Lib.compareInt (Zd x) (Zd y))) O O ?_;exact⟨by simp_all[Bs],hF.same⟩;refine Zb (Of iZ rZ O hF.F 1 O O) (Oa hF (Jv x _) (Na Yt O O) ?_);intro w hF;refine Ba (Qf O O) (Ba (Kb O O) (Da ?_));refine Ib O O (λhc3=>?_) (λhc3=>?_);refine Ea (Ba (Za O) (Ba (Gb O) (Da ?_)));refine Gc (v:=J (Lib.compareInt (Zd x) (Zd y))) O O ?_;exact⟨by simp_all[Bs],hF.same⟩;refine La (Fa (Ga ?_));refine Md (zs:=.of []) (bQ [0,2,3] (.act 1 (.act 4 (.free 5 (.free 6 .nil))))) hF ?_;intro w hF;refine Fg O (Of iZ rZ O C0 1 O O) (Fg O (Of iZ rZ O C0 1 O O) (Fg O (Of iZ rZ O C0 0 O O) ?_));refine Ed hF (Jv x _) O (Na Yt O O) ?_;intro w hF;refine⟨hF,?_⟩;refine Ed hF (far_c x y (by simp_all) (by simp_all) _) O (Xa MV O O O) ?_;intro w hF;refine⟨hF,?_⟩;refine Cb rfl (v:=J (Zd x*Do x y)) (λw hC=>F3 rfl rfl (by rcases D3 x with h|h|h <;> rcases C8 x y with h'|h'|h' <;> rw[h,h'] <;> decide)) ?_;refine Jb O (Gb O) (Hc (Fa ?_));refine Gc (v:=J (Zd x*Do x y)) O O ?_;exact⟨by simp_all[Bs],hF.same⟩
theorem QN(n:Int)(h1:-9223372036854775808<=n)(h2:n<=9223372036854775807)(w0:World)(hG:Gl w0):Calls prog 47 #[J n] w0 (Dd λv w'=>v=Hl (I2 n)/\Same [] w0 w'):=by
 refine Ia func47 O ntmps47 Eb (Yb _) ?_;have hF:=FR.start w0 [];refine Ea (Wc (cs:=#[.bool false,I [],J 0]) hF pX O ?_);rintro b1 w hb1 hF -;refine Rb (Ba (Za O) ?_);refine Oa hF (KL n h1 h2 (hG.ext hF.same)) (Na JV O O) ?_;intro w hF;refine Oa hF (Ly (Lib.itoa n) (by have:=Lib.itoa_length_le n h1 h2;omega) _) (Na WD O O) ?_;intro w hF;refine Ba (Qk O) (Ba (Iw O O) (Ba (Tj O O) ?_));refine Gg hF pX rZ O ?_;rintro b2 w hb2 hF -;refine Ba (Gb O) (Rb (Zb (Of iZ rZ O hF.F 0 O O) ?_));refine Ie hF rZ O O Js ?_;rintro w hF -;refine Da (Va (Ua (Ja (Vi O (l:=[.bool ((I2 n).neg),I ((I2 n).digits),J ((I2 n).exp)]) O iZ rZ O (hF.cellsAll 1 O)) ?_)));exact⟨O,hF.same⟩
def Zt(x:Num):Str:=if x.neg then 45::(x.digits++Lib.repeatL [48] x.exp.toNat) else x.digits++Lib.repeatL [48] x.exp.toNat
theorem Cj(x:Num):Er x=if Rc x=false\/x.exp<0\/19<(x.digits.length:Int)+x.exp then (0,false) else if Zt x=[] then (0,true) else if (pI (Zt x)).2=false then (0,false) else ((pI (Zt x)).1,true):=rfl
theorem Qn(c:UInt8)(n:Nat):(Lib.repeatL [c] n).length=n:=by
  induction n with
  | zero=>rfl
  | succ n ih=>unfold Lib.repeatL;simp[ih];try omega
theorem TH(x:Num)(hl:x.digits.length<=140737488355328)(w0:World)(hG:Gl w0):Calls prog 169 #[Hl x] w0 (Dd λv w'=>v=.tuple #[J (Er x).1,.bool (Er x).2]/\Same [] w0 w'):=by
  refine Ia func169 O ntmps169 Eb (Yb _) ?_;have hF:=FR.start w0 [];refine Ga (Ha ?_);refine Oe hF O ?_;intro b1 w hb1 hF hE;refine Ba (Gb O) (Ba (Db O) ?_);refine Ta (Fa ?_);refine Ga (Ga ?_);refine Ha (Zb (Of iZ rZ O hF.F 0 O O) ?_);refine Oa hF (Zz x hl _) (Na RF O O) ?_;intro w hF;refine Ba (Si O) (Ba (Vb O) ?_);refine Lc (d:=10) O (λhg0=>?_) (λhg0=>?_)
  ·
   refine Ca (Ca ?_);refine Ca (Ba (Tb O O) ?_);refine Ba (Vb O) (Ca ?_);refine Ca (Ca ?_);refine Ca (Ca ?_);refine Ca (Ca ?_);refine Ba (Tb O O) (Ta ?_);refine Fa (Ad O ?_);refine Ga (Ha ?_);refine Ba (Gb O) (Ba (Db O) ?_);refine Ta (Fa ?_);refine Va (Ua (Ja (Ic (v:=J 0) (x:=.bool false) O O O) ?_));refine⟨?_,hF.same⟩
   first
   | (have hn:¬(Rc x=false\/x.exp<0\/19<(x.digits.length:Int)+x.exp):=by (refine not_or.2 ⟨by simp_all,not_or.2 ⟨by omega,by omega⟩⟩)
      rw[Cj,if_neg hn];simp_all;done)
   | (rw[Cj];simp_all;done)
  refine Ba (Ob Qg O) (Zb (Th eZ O hF.F 0 O O) ?_);refine Ba (Di O O) (Ba (Kb O O) ?_);refine Ba (Vb O) (Ya (d:=15) O (λhg1=>?_) (λhg1=>?_))
  ·
   refine Ca (Ca ?_);refine Ca (Ca ?_);refine Ca (Ca ?_);refine Ca (Ba (Tb O O) ?_);refine Ta (Fa ?_);refine Ad O (Ga ?_);refine Ha (Ba (Gb O) ?_);refine Ba (Db O) (Ta ?_);refine Fa (Va (Ua (Ja (Ic (v:=J 0) (x:=.bool false) O O O) ?_)));refine⟨?_,hF.same⟩
   first
   | (have hn:¬(Rc x=false\/x.exp<0\/19<(x.digits.length:Int)+x.exp):=by (refine not_or.2 ⟨by simp_all,not_or.2 ⟨by omega,by omega⟩⟩)
      rw[Cj,if_neg hn];simp_all;done)
   | (rw[Cj];simp_all;done)
  refine Ba (Ob Eh O) (Zb (Pk jZ O hF.F 0 O O) ?_);refine Ba (Fj jX O) (Ba (Ob Qg O) ?_);refine Zb (Th eZ O hF.F 0 O O) ?_;refine Ka (v:=J ((x.digits.length:Int)+x.exp)) (Rr O O (Rh (by have:=Vc (x:=x) (by simp_all);omega) (by have:=Vc (x:=x) (by simp_all);omega))) ?_;refine Ba (Ho O O) (Ba (Kb O O) ?_);refine Ta (Fa ?_);refine Ib O O (λhc0=>?_) (λhc0=>?_)
  ·
   refine Ga (Ha ?_);refine Ba (Gb O) (Ba (Db O) ?_);refine Ta (Fa ?_);refine Va (Ua (Ja (Ic (v:=J 0) (x:=.bool false) O O O) ?_));refine⟨?_,hF.same⟩
   first
   | (have hn:¬(Rc x=false\/x.exp<0\/19<(x.digits.length:Int)+x.exp):=by (refine not_or.2 ⟨by simp_all,not_or.2 ⟨by omega,by omega⟩⟩)
      rw[Cj,if_neg hn];simp_all;done)
   | (rw[Cj];simp_all;done)
  refine La (Fa ?_);refine Ga (Md (zs:=.of []) (bQ [0,1,2,3] (.act 4 (.free 5 (.free 6 .nil)))) hF ?_);intro w hF;refine Jb O (Ob Eh O) (Fg O (Pk jZ O C0 0 O O) ?_);refine Jb O (Ob Qg O) (Fg O (Th eZ O C0 0 O O) ?_);refine Ed hF (JA x.exp Aa Aa _) O (Xa EJ O O O) ?_;intro w hF;refine⟨hF,?_⟩;refine Cb rfl (v:=I ((x.digits)++(Lib.repeatL [48] x.exp.toNat))) (λw hC=>Em rfl rfl (by have:=Qn 48 x.exp.toNat;have:=Vc (x:=x) (by simp_all);first|omega|(simp only[dQ,kQ,List.length_nil];omega))) ?_;refine Jb O (Fd O) (Hc ?_);refine Fa (Ga ?_);refine Bf (λσ w=>AllEq σ [(4,I (Zt x))]/\FR w0 [] [(b1,.cells #[.bool (x.neg),I (x.digits),J (x.exp)] 86)] w) ?_ ?_
  ·
   refine Ga (Ha ?_);refine Ba (Ob Gz O) (Zb (N3 fZ O hF.F 0 O O) ?_);refine Ta (Fa ?_);refine Le O O (λhc1=>?_) (λhc1=>?_)
   ·
    have eT:[45]++(x.digits++Lib.repeatL [48] x.exp.toNat)=Zt x:=by unfold Zt;rw[if_pos (by assumption)];rfl
    refine Ha (Ba (Bc O) ?_);refine Ka (v:=I (Zt x)) (by rw[<-eT];exact Em rfl rfl (by have:=Qn 48 x.exp.toNat;have:=Vc (x:=x) (by simp_all);first|omega|(simp only[dQ,kQ,List.length_nil];omega))) ?_;refine Ba (Fd O) (Ta ?_);exact Hb ⟨ae1,hF⟩
   have eT:x.digits++Lib.repeatL [48] x.exp.toNat=Zt x:=by unfold Zt;rw[if_neg (by simp_all)]
   rw[eT];refine La ?_;exact Hb ⟨ae1,hF⟩
  rintro σ w ⟨hs,hF⟩;refine Eg.slots hs ?_;clear hs;intro σ;have hT:(Zt x).length<=1020:=by have:=Qn 48 x.exp.toNat;have:=Vc (x:=x) (by simp_all);unfold Zt;split <;> simp only[dQ,kQ] <;> omega
  refine Fa (Ga ?_);refine Ga (Ha ?_);refine Ba (Bc O) (Ba (Rw O O) ?_);refine Ta (Fa ?_);refine Ib O O (λhc2=>?_) (λhc2=>?_)
  ·
   refine Ga (Ha ?_);refine Ba (Gb O) (Ba (Db O) ?_);refine Ta (Fa ?_);refine Va (Ua (Ja (Ic (v:=J 0) (x:=.bool true) O O O) ?_));refine⟨?_,hF.same⟩
   first
   | (have hn:¬(Rc x=false\/x.exp<0\/19<(x.digits.length:Int)+x.exp):=by (refine not_or.2 ⟨by simp_all,not_or.2 ⟨by omega,by omega⟩⟩)
      rw[Cj,if_neg hn];simp_all;done)
   | (rw[Cj];simp_all;done)
  refine La (Fa ?_);refine Ga (Ha ?_);refine Ba (Bc O) (Lb (BJ (Zt x) Aa (hG.ext hF.same)) (Rf en_198 O O O O) ?_);rintro _ w ⟨e,rfl,he,hE⟩;have hF:=hF.ext hE;refine Ba (Qk O) (Ba (Tj O O) ?_);refine Ba (yxu O O) (Ba (Gb O) ?_);refine Ba (T0) (Ta ?_);refine Fa (Ga ?_);refine Ga (Ha ?_);refine Ba (Nt) (Ka (v:=.bool (!(pI (Zt x)).2)) (BQ (underlying178) he O O) ?_);refine Ta (Fa ?_);refine Le O O (λhc3=>?_) (λhc3=>?_)
  ·
   refine Ga (Ha ?_);refine Ba (Gb O) (Ba (Db O) ?_);refine Ta (Fa ?_);refine Va (Ua (Ja (Ic (v:=J 0) (x:=.bool false) O O O) ?_));refine⟨?_,hF.same⟩
   first
   | (have hn:¬(Rc x=false\/x.exp<0\/19<(x.digits.length:Int)+x.exp):=by (refine not_or.2 ⟨by simp_all,not_or.2 ⟨by omega,by omega⟩⟩)
      rw[Cj,if_neg hn];simp_all;done)
   | (rw[Cj];simp_all;done)
  refine La (Fa ?_);refine Ga (Ha ?_);refine Ba (Za O) (Ba (Gb O) ?_);refine Ba (Db O) (Ta ?_);refine Fa (Va (Ua (Ja (Ic (v:=J ((pI (Zt x)).1)) (x:=.bool true) O O O) ?_)));refine⟨?_,hF.same⟩
  first
  | (have hn:¬(Rc x=false\/x.exp<0\/19<(x.digits.length:Int)+x.exp):=by (refine not_or.2 ⟨by simp_all,not_or.2 ⟨by omega,by omega⟩⟩)
     rw[Cj,if_neg hn];simp_all;done)
  | (rw[Cj];simp_all;done)
end Go.Scarf
