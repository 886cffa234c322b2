/- A part of the proof. -/
import Derived.Test.YthnkjgpjdbdchaaGreatDoorW2
import Derived.Test.YthnkjgpjdbdchaaGreatDoorShelf2
import Derived.Lib.ValidLaws
import Derived.Lib.TrimUEq
import Derived.Lib.MapLaws
set_option linter.all false
set_option maxHeartbeats 8000000
set_option maxRecDepth 10000
namespace Go.Scarf
open Go.RowKit Go.Proofs Go.Proofs.Tryz
def Gt(s:Str):Bool:=decide ((Ef s).2=0)&&decide (Ro (Ef s).1=s)
def UI(s:Str):Bool:=Gt s&&(T_ (Ef s).1).2&&decide (0<=(T_ (Ef s).1).1)
theorem YE(s:Str):Dh (Ef s).1=true:=by
  rw[Wo]
  repeat' split
  all_goals first|rfl|simp_all
theorem Bs(s:Str):(Ef s).1.digits.length<=1000:=(Ze (YE s)).1
theorem Ts(s:Str)(q:Nat):Lib.decodeL (s.drop q)=Utf8.decode (bs s) q:=Lib.decodeL_drop (bs s) q
theorem Ki(s:Str)(q:Nat):1<=(Utf8.decode (bs s) q).2:=by rw[<-Ts];exact Lib.decodeL_width _
theorem C9(s:Str)(q:Nat)(h:q<s.length):q+(Utf8.decode (bs s) q).2<=s.length:=by
  have:=Lib.decodeL_le (s.drop q) (by rw[ne_eq,List.drop_eq_nil_iff];omega);rw[Ts,List.length_drop]at this;omega
theorem V8(s:Str)(q:Nat)(h:q<s.length)(hv:Lib.validD (s.drop q)=false)(hn:¬((Utf8.decode (bs s) q).1=65533/\(Utf8.decode (bs s) q).2=1)):Lib.validD (s.drop (q+(Utf8.decode (bs s) q).2))=false:=by
  rw[Lib.validD_step _ (by rw[ne_eq,List.drop_eq_nil_iff];omega),Ts,if_neg hn,List.drop_drop]at hv;exact hv
theorem Vy(s:Str)(q:Nat)(h:q<s.length):Lib.decodeGo (bs (s.drop q))=Utf8.decode (bs s) q:=by
  have h1:(bs (s.drop q)).size≠0:=by rw[Ks,List.length_drop];omega
  rw[Lib.decodeGo,if_neg h1];exact Ts s q
theorem KA(s:Str)(hl:s.length<=140737488355328){w:World}(hG:Gl w):Calls prog 105 #[I s] w (Wd λv w'=>v=.bool (Lib.validD s)/\Same [] w w') :=
  Cy (utf8_ValidString (bs s) w (by rw[Ks];omega) hG.tabs)
theorem FF(s:Str){w:World}(hG:Gl w):Calls prog 106 #[I s] w (Wd λv w'=>v=.tuple #[.int .i32 (Lib.decodeGo (bs s)).1,J (Lib.decodeGo (bs s)).2]/\Same [] w w') :=
  Cy (utf8_DecodeRuneInString (bs s) w hG.tabs)
theorem T6(s:Str)(hl:s.length<=140737488355328)(w0:World)(hG:Gl w0):Calls prog 80 #[I s] w0 (Wd λv w'=>∃n,v=.tuple #[J n,.bool (Lib.validD s)]/\Same [] w0 w'):=by
  refine Fa func80 O ntmps80 Ib (Zc _) ?_;have hF:=FR.start w0 [];refine Ja (Ga ?_);refine Ca (Uc O) (Ca (Ic O) ?_);refine Gb (Ia ?_);refine Ja (Ja ?_);refine Ga (Ca (Hh O) ?_);refine Hb hF (KA s hl (hG.ext hF.same)) (Ra en_105 O O) ?_;intro w hF;refine Gb (Ia ?_);refine Ng O O (λhc0=>?_) (λhc0=>?_)
  ·
   refine Ja (Ga ?_);refine Ca (Hh O) (Ca (WG kX O) ?_);refine Ca (Uc O) (Ca (Ic O) ?_);refine Gb (Ia ?_);refine Cc (Bc (Ua (Th (v:=J ((((s):Str).length:Int))) (x:=.bool true) O O O) ?_));exact⟨_,by rw[hc0],hF.same⟩
  refine Wa (Ia ?_);refine Ja (Ja ?_);refine Ga (Ca (Hh O) ?_);refine J0 (str:=s) hF kX O ?_;intro b1 w hb1 hF hE;refine Gb (Ia ?_);refine Za (Ad (λμ σ w=>∃(q:Nat),μ=s.length-q/\(q<=s.length)/\(Lib.validD (s.drop q)=false)/\AllEq σ [(0,I s),(13,V b1)]/\FR w0 [] [(b1,.stringIter (bs s) (q))] w) _ ⟨0,O,(Nat.zero_le _),(by simpa using hc0),J7,hF⟩ ?_);rintro μ σ w ⟨q,rfl,hq,hv,hs,hF⟩;refine Cg.slots hs ?_;clear hs;intro σ;refine Ja (Ga ?_);by_cases hn0:(q)<(s:Str).length
  ·
   refine D7 0 (p:=q) (str:=s) hF O O hn0 ?_;intro w hF hE;refine Ca (Ar O O) (Gb ?_);refine Ia (Ja ?_);refine Le O (Wa ?_);refine Ia (Za ?_);refine Ja (Ga ?_);refine Ca (Fv O O) (Ca (Fv O O) ?_);refine Ca (Uc O) (Ca (Uc O) ?_);refine Gb (Ia ?_);refine Ja (Ja ?_);refine Ga (Ca (Qb O) ?_);refine Ca (Dz O O) (Gb ?_);refine Ia (Nc O O (λhc2=>?_) (λhc2=>?_))
   ·
    refine Pc (Oc O ?_);have h1:=Ki s q;have hw:¬((Utf8.decode (bs s) q).1=65533/\(Utf8.decode (bs s) q).2=1):=by
      first
      | (intro hh;omega)
      | (rw[Vy s q sX]at hc3;intro hh;omega)
    refine Dc ⟨_,?_,q+(Utf8.decode (bs s) q).2,O,(C9 s q sX),(V8 s q sX hv hw),J7,hF⟩;omega
   refine Wa (Ia ?_);refine Ja (Ga ?_);refine Ca (Hh O) (Ca (Qb O) ?_);refine Ka (v:=I ((s:Str).drop (q))) (VK (q) kX O O sX) (Hb hF (FF (s.drop q) (hG.ext hF.same)) (Ra en_106 O O) ?_);intro w hF;refine Ca (Bo O) (Ca (Fv O O) ?_);refine Ca (Fv O O) (Ca (Uc O) ?_);refine Ca (Uc O) (Gb ?_);refine Ia (Ja ?_);refine Ga (Ca (Qb O) ?_);refine Ca (Gq O O) (Gb ?_);refine Ia (Nc O O (λhc3=>?_) (λhc3=>?_))
   ·
    refine Ja (Ga ?_);refine Ca (Qb O) (Ca (Uc O) ?_);refine Ca (Ic O) (Gb ?_);refine Ia (Cc (Bc (Ua (Th (v:=J (((q:Nat):Int))) (x:=.bool false) O O O) ?_)));exact⟨_,by rw[hc0],hF.same⟩
   refine Wa (Eb ?_);have h1:=Ki s q;have hw:¬((Utf8.decode (bs s) q).1=65533/\(Utf8.decode (bs s) q).2=1):=by
     first
     | (intro hh;omega)
     | (rw[Vy s q sX]at hc3;intro hh;omega)
   refine Dc ⟨_,?_,q+(Utf8.decode (bs s) q).2,O,(C9 s q sX),(V8 s q sX hv hw),J7,hF⟩;omega
  refine Fu 0 (p:=q) (str:=s) hF O O hn0 (Ca (Ar O O) ?_);refine Gb (Ia ?_);refine Ja (Bg O ?_);refine Pc (Oc O ?_);refine Ia (Ja ?_);refine Ga (Ca (Hh O) ?_);refine Ca (WG kX O) (Ca (Uc O) ?_);refine Ca (Ic O) (Gb ?_);refine Ia (Cc (Bc (Ua (Th (v:=J ((((s):Str).length:Int))) (x:=.bool true) O O O) ?_)));have e:s.drop q=[]:=List.drop_eq_nil_of_le sX;rw[e]at hv;cases hv
theorem KR(s:Str)(hl:s.length<=140737488355328)(w0:World)(hG:Gl w0):Calls prog 67 #[I s] w0 (Wd λv w'=>v=.bool (Lib.validD s)/\Same [] w0 w'):=by
 refine Fa func67 O ntmps67 Ib (Zc _) ?_;have hF:=FR.start w0 [];refine Ha (Ca (Ic O) (Jc (Ca (Hh O) ?_)));refine Fb (T6 s hl _ (hG.ext hF.same)) (Ra HS O O) ?_;rintro _ w ⟨n,rfl,hE⟩;have hF:=hF.ext hE;refine Ca (Bo O) (Ca (Fv O O) (Ca (Ar O O) (Ca (Uc O) (Ca (Ic O) (Jc (Ca (Fe O) (Ca (Ic O) (Ea ?_))))))));refine Pd (v:=.bool _) O O ?_;exact⟨O,hF.same⟩
theorem HD(s:Str)(hl:s.length<=140737488355328)(w0:World)(hG:Gl w0):Calls prog 66 #[I s] w0 (Wd λv w'=>v=.tuple #[Kv (Ef s).1,.bool (Gt s)]/\Same [] w0 w'):=by
 refine Fa func66 O ntmps66 Ib (Zc _) ?_;have hF:=FR.start w0 [];refine Ha (Md (cs:=#[.bool false,I [],J 0]) hF qX O ?_);rintro b1 w hb1 hF -;refine Ca (Ic O) (Jc (Ca (Hh O) ?_));refine Hb hF (EG s hl _) (Ra HW O O) ?_;intro w hF;refine Ca (Bo O) (Ca (Py O O) (Ca (Fv O O) ?_));refine Kh hF qX tZ O ?_;rintro b2 w hb2 hF -;refine Ca (Uc O) (Ea (Ja ?_));refine Kd (.of []) (bQ [0,1,2,3,4,6] (.act 5 (.free 7 (.free 8 (.act 9 (.free 10 .nil)))))) hF ?_;rintro w hF -;refine⟨λwq=>FR w0 [] [(b2,.cells #[.bool ((Ef s).1.neg),I ((Ef s).1.digits),J ((Ef s).1.exp)] 75)] wq,hF.sub (.cons_cons _ (.cons _ .slnil)),?_⟩;refine Vi O (Rf eZ tZ O C0 0 O O) (Cb O (Qb O) (Cb O (Gq O O) (Cb O (Fe O) ?_)));refine Fr (d:=14) O (λhg0=>?_) (λhg0=>?_);refine Vi O (Rf eZ tZ O C0 0 O O) (Cb O (Hh O) ?_);refine Lj hF (JO (Ef s).1 (by have:=Bs s;omega) _ (hG.ext hF.same)) O (Ra ZW O O) ?_;intro w hF;refine⟨hF.sub (.cons_cons _ (.cons _ .slnil)),?_⟩;refine Cb O (GL O O) (Cb O (Dd O O) ?_);refine Up O hF tZ O O Ct ?_;rintro w hF -;refine⟨hF.sub (.cons_cons _ (.cons _ .slnil)),?_⟩;refine Cb O (Ic O) (Fc (Ia ?_));refine Cc (Bc (Ua (Ee O (l:=[.bool ((Ef s).1.neg),I ((Ef s).1.digits),J ((Ef s).1.exp)]) O eZ tZ O (hF.cellsAll 1 O) (v:=.bool (decide ((Ro (Ef s).1:Str)=s))) O) ?_));exact⟨by simp_all[Gt,Kv],hF.same⟩;refine Wm O (Wm O ?_);refine f_skip O ?_ (hF.sub (.cons_cons _ (.cons _ .slnil)));refine Wm O (Cb O (Ae O O) ?_);refine Up O hF tZ O O Ct ?_;rintro w hF -;refine⟨hF.sub (.cons_cons _ (.cons _ .slnil)),?_⟩;refine Cb O (Ic O) (Fc (Ia ?_));refine Cc (Bc (Ua (Ee O (l:=[.bool ((Ef s).1.neg),I ((Ef s).1.digits),J ((Ef s).1.exp)]) O eZ tZ O (hF.cellsAll 1 O) (v:=.bool false) O) ?_));exact⟨by simp_all[Gt,Kv],hF.same⟩
theorem hole_c(s:Str)(hl:s.length<=140737488355328)(w0:World)(hG:Gl w0):Calls prog 68 #[I s] w0 (Wd λv w'=>v=.bool (UI s)/\Same [] w0 w'):=by
 refine Fa func68 O ntmps68 Ib (Zc _) ?_;have hF:=FR.start w0 [];refine Ha (Ca (Ic O) (Jc (Ca (Hh O) ?_)));refine Hb hF (HD s hl _ (hG.ext hF.same)) (Ra en_66 O O) ?_;intro w hF;refine Ca (Bo O) (Ca (Py O O) (Ca (Ar O O) ?_));refine Kh hF qX tZ O ?_;rintro b1 w hb1 hF -;refine Ca (Ic O) (Jc (Rc (Rf eZ tZ O hF.F 0 O O) ?_));refine Hb hF (GK (Ef s).1 (by have:=Bs s;omega) _ (hG.ext hF.same)) (Ra en_99 O O) ?_;intro w hF;refine Ca (Bo O) (Ca (Fv O O) (Ca (Ar O O) (Ca (Uc O) (Ca (Ic O) (Jc (Ca (Fe O) (Ca (Fe O) ?_)))))));refine Bf (d:=18) O (λhg0=>?_) (λhg0=>?_);refine Ca (Fe O) (Ca (Dd O O) (Ca (Fe O) ?_));refine Bf (d:=21) O (λhg1=>?_) (λhg1=>?_);refine Ca (Qb O) (Ca (HL O O) (Ca (Dd O O) (Ca (Ic O) (Ea ?_))));refine Pd (v:=.bool _) O O ?_;exact⟨by simp_all[UI],hF.same⟩;refine Qa (Qa (Ca (Ae O O) (Ca (Ic O) (Ea ?_))));refine Pd (v:=.bool false) O O ?_;exact⟨by simp_all[UI],hF.same⟩;refine Qa (Ca (Ae O O) (Ca (Fe O) (Qa (Qa (Ca (Ae O O) (Ca (Ic O) (Ea ?_)))))));refine Pd (v:=.bool false) O O ?_;exact⟨by simp_all[UI],hF.same⟩
def Yr(ks:List Str)(n:Int):Bool:=decide ks.Nodup&&ks.all Lib.validD&&decide ((ks.length:Int)=n)
def Oq(ks:List Str):MapL:=ks.map λk=>(k,.bool true)
theorem Qu(ks:List Str)(k:Str):Rg (Oq ks) k=if k∈ks then some (.bool true) else none:=by
  induction ks with
  | nil=>rfl
  | cons a r ih =>
    have e:Oq (a::r)=[(a,.bool true)]++Oq r:=rfl;rw[e,MG,ih];by_cases h:a=k
    ·subst h;simp[Rg]
    have h' : ¬ k = a := λe => h e.symm;simp[Rg,h,h']
theorem QN(ks:List Str)(j:Nat)(h:j<ks.length):Oq (ks.take j)++[(ks[j],.bool true)]=Oq (ks.take (j+1)):=by
  unfold Oq;rw[iQ h,jQ];rfl
theorem N6{ks:List Str}{j:Nat}(h:j<ks.length)(hn:(ks.take j).Nodup)(hi:¬ks[j]∈ks.take j):(ks.take (j+1)).Nodup:=by
  rw[iQ h,List.nodup_append];refine⟨hn,by simp,?_⟩;intro a ha b hb e;simp only[pQ]at hb;subst e;subst hb;exact hi ha
theorem U0{ks:List Str}{j:Nat}(h:j<ks.length)(hi:ks[j]∈ks.take j):¬ks.Nodup:=by
  intro hn;obtain⟨i,hi',he⟩:=List.getElem_of_mem hi;rw[List.getElem_take]at he;have hi2:i<j:=by rw[List.length_take]at hi';omega
  have:=(List.pairwise_iff_getElem.1 hn) i j sX h hi2;exact this he
theorem MA{f:Str->Bool}{ks:List Str}{j:Nat}(h:j<ks.length)(ha:(ks.take j).all f=true)(hv:f ks[j]=true):(ks.take (j+1)).all f=true:=by
  rw[iQ h,List.all_append,ha];simp[hv]
theorem not_all{f:Str->Bool}{ks:List Str}{j:Nat}(h:j<ks.length)(hv:f ks[j]=false):ks.all f=false:=by
  rw[Bool.eq_false_iff];intro ha;have:=List.all_eq_true.1 ha ks[j] (eQ h);rw[hv]at this;cases this
theorem keyed_c(ks:List Str)(n:Int)(S:Nat->Prop)(A:Option Addr)(c:Nat)(hl:∀k∈ks,k.length<=140737488355328)(w0:World)(hG:Gl w0)(hX:Rep S w0 (Ld ks) [.slice A ks.length c]):Calls prog 65 #[.slice A ks.length c,J n] w0 (Wd λv w'=>v=.bool (Yr ks n)/\Same [] w0 w'):=by
 have hXl:=hX.slice_len;refine Fa func65 O ntmps65 Ib (Hd _ _) ?_;have hF:=FR.start w0 [];refine Ha (Ca (Ic O) (Jc (Ca (He O) (Ca (Mf bX O) ?_))));refine Ir (v:=λb=>.map (some b)) hF (RB wZ O) ?_;rintro b1 w hb1 hF -;refine Ca (C3) (Ea (Ja (Ha (Ca (He O) (Ca (Mf bX O) (Ca (Qb O) (Ea (Za ?_))))))));have hF:FR w0 [] [(b1,Zf (Oq (ks.take 0)))] w:=hF;refine Ad (λμ σ w=>∃(j:Nat),μ=ks.length-j/\(j<=ks.length)/\((ks.take j).Nodup)/\((ks.take j).all Lib.validD=true)/\AllEq σ [(0,.slice A ks.length c),(1,J n),(5,.map (some b1)),(11,.slice A ks.length c),(12,J ((ks.length:Nat))),(13,J ((j:Int)))]/\FR w0 [] [(b1,Zf (Oq (ks.take j)))] w) _ ⟨0,O,(Nat.zero_le _),Da,Da,TN,hF⟩ ?_;rintro μ σ w ⟨j,rfl,hj,hd,hv,hs,hF⟩;refine Cg.slots hs ?_;clear hs;intro σ;refine Ha (Ca (An O O) (Ea (Ja ?_)));refine Nc O O (λhc0=>?_) (λhc0=>?_);refine Wa (Ia (Ja (Za (Ha ?_))));obtain⟨ad0,hA0,hk0,hx0⟩:=hX.str_elem (i:=j) sX;refine Ka (v:=.pointer (some (ad0.add (j*1)))) (Ta (i:=(j:Int)) Vm O hA0 O sX sX) (Ka (v:=I (ks[j])) (Ob fZ O (hF.cell0 hk0)) (Ca (Dn O) (Ea (Ja (Ha (Ca (Pt) (Ca (Hh O) ?_)))))));refine Ka (v:=.bool (decide (ks[j]∈ks.take j))) (Cu wZ kX zeroValue4 O O (hF.heap (i:=0) O) (by rw[Qu];split <;> rename_i hh <;> simp only[hh,decide_true,decide_false] <;> rfl)) ?_;refine Ca (Fe O) (Jd (d:=20) O (λhg1=>?_) (λhg1=>?_));refine Qa (Qa (Qa (Ca (Dd O O) (Ea (Le O (Ha (Ca (Ic O) (Ea ?_))))))));refine Pd (v:=.bool false) O O ?_;have:=U0 (ks:=ks) (j:=j) sX (by assumption);exact⟨congrArg Value.bool (by unfold Yr;rw[decide_eq_false this];rfl),hF.same⟩;refine Ca (Hh O) (Hb hF (KR ks[j] (hl _ (eQ _)) _ (hG.ext hF.same)) (Ra en_67 O O) ?_);intro w hF;refine Ca (Jm O) (Ca (Ae O O) (Ea ?_));refine Ng O O (λhc1=>?_) (λhc1=>?_);refine Ha (Ca (Ic O) (Ea ?_));refine Pd (v:=.bool false) O O ?_
 have:=not_all (f:=Lib.validD) (ks:=ks) (j:=j) sX (by simpa using hc1);exact⟨congrArg Value.bool (by unfold Yr;rw[this,Bool.and_false];rfl),hF.same⟩;refine Wa (Ia (Ga (Ca (Pt) (Ca (Hh O) ?_))));refine Px 0 (v:=.bool true) hF wZ kX O O O O (by rw[Qu,if_neg (by assumption)]) ?_;rintro w hF -;rw[QN ks j sX]at hF;have hF:FR w0 [] [(b1,Zf (Oq (ks.take (j+1))))] w:=hF;refine Gb (Eb (Ia (Ga (Ca (Bm O O) (Ca (Qb O) (Gb ?_))))));refine Dc ⟨_,?_,j+1,O,sX,(N6 sX hd (by assumption)),(MA sX hv (by simpa using hc1)),TN,hF⟩;omega;refine Pc (Oc O ?_);refine Ia (Ha (Ca (He O) (Ca (Mf bX O) (Ca (Qb O) (Ca (Gq O O) (Ca (Ic O) (Ea ?_)))))));refine Pd (v:=.bool _) O O ?_;obtain rfl:j=ks.length:=by omega
 rw[List.take_length]at hd hv;exact⟨congrArg Value.bool (by unfold Yr;rw[hv,decide_eq_true hd];rfl),hF.same⟩
mutual
def U2:Tree->Prop|.node _ t ks xs=>t.length<=140737488355328/\(∀k∈ks,k.length<=140737488355328)/\GH xs
def GH:List Tree->Prop|[]=>True|x::xs=>U2 x/\GH xs
end
theorem Bx:∀{xs:List Tree},GH xs->∀x∈xs,U2 x
  | [],_,_,h=>absurd h Da
  | y :: ys, h, x, hx => by
    rw[GH]at h;rcases oQ.1 hx with rfl|hx
    ·exact h.1
    exact Bx h.2 x hx
def nodeB:Tree->Bool
  | .node k t ks xs =>
    if k=5 then decide (ks=[])&&decide (t=[]) else
    if k=6 then Yr ks xs.length&&decide (t=[]) else
    if ks≠[]\/xs≠[] then false else
    if k=1 then decide (t=[]) else
    if k=2 then decide (t=[116,114,117,101]) || decide (t=[102,97,108,115,101]) else
    if k=3 then Gt t else if k=4 then Lib.validD t else if k=7 then UI t else false
def XD(g:Nat)(q:Tree->Bool):Prop:=∀(x:Tree)(S:Nat->Prop)(w0:World)(cs:List Value),Rep S w0 (Wb x) cs->U2 x->Gl w0->Calls prog g #[.agg cs.toArray] w0 (Wd λv w'=>v=.bool (q x)/\Same [] w0 w')
theorem node_c  : XD 37 nodeB:=by
 rintro⟨k,t,ks,xs⟩ S w0 cs hR hk hG;obtain⟨A,c,B,e,rfl,-,-,hK,hX⟩:=hR.tree_inv;rw[U2]at hk;refine Fa func37 O ntmps37 Ib (Zc _) ?_;have hF:=FR.start w0 [];refine Ha (Df hF O ?_);rintro b1 w hb1 hF -;refine Ca (Ic O) (Ea (Ja ?_));refine Ig (zs:=.of []) (bQ [0,1,2,3,4,5,6,7,8,9] .nil) hF ?_;intro w hF;refine Cb O (Zb Af O) (Vi O (Tf wQ O C0 0 O O) (Cb O (Mf bX O) (Cb O (AB O O) (Cb O (Zb Gc O) (Vi O (Tf xQ O C0 0 O O) (Cb O (Mf cX O) (Cb O (AB O O) (Cb O (Ic O) (Cb O (Ic O) (Fc (Ia (Ja (Ja ?_)))))))))))));refine Ga (Ca (Zb Mg O) (Rc (Wr aZ O hF.F 0 O O) (Ea (Za (Ha (Ca (Gq O O) (Ca (Ic O) (Ea ?_))))))));refine Nc O O (λhc0=>?_) (λhc0=>?_);refine Ha (Ca (Fe O) (Ca (ynd O) (Ca (Fe O) ?_)));refine Jd (d:=21) O (λhg0=>?_) (λhg0=>?_);refine Ca (Zb Xh O) (Rc (Iy fZ O hF.F 0 O O) (Ca (GL O O) (Ca (Dd O O) (Ca (Ic O) (Ea ?_)))));refine Pd (v:=.bool _) O O ⟨?_,hF.same⟩;clear hF hR hK hX hb1;simp_all[nodeB,List.length_pos_iff];refine Qa (Qa (Qa (Ca (Ae O O) (Ca (Ic O) (Ea ?_)))));refine Pd (v:=.bool false) O O ⟨?_,hF.same⟩;clear hF hR hK hX hb1;simp_all[nodeB,List.length_pos_iff];refine Ha (Ca (Gq O O) (Ca (Ic O) (Ea ?_)));refine Nc O O (λhc1=>?_) (λhc1=>?_);refine Ha (Ca (Zb Af O) (Rc (Tf wQ O hF.F 0 O O) (Ca (Zb Gc O) (Rc (Tf xQ O hF.F 0 O O) (Ca (Mf cX O) ?_)))));refine Hb hF (keyed_c ks (xs.length:Nat) S A c (by simpa using hk.2.1) _ (hG.ext hF.same) (hF.rep hK)) (Ya en_65 O O O) ?_;intro w hF;refine Ca (Fe O) (Bf (d:=34) O (λhg1=>?_) (λhg1=>?_));refine Ca (Zb Xh O) (Rc (Iy fZ O hF.F 0 O O) (Ca (GL O O) (Ca (Dd O O) (Ca (Ic O) (Ea ?_)))));refine Pd (v:=.bool _) O O ⟨?_,hF.same⟩;clear hF hR hK hX hb1;simp_all[nodeB,List.length_pos_iff];refine Qa (Qa (Qa (Ca (Ae O O) (Ca (Ic O) (Ea ?_)))));refine Pd (v:=.bool false) O O ⟨?_,hF.same⟩;clear hF hR hK hX hb1
 simp_all[nodeB,List.length_pos_iff];refine Wa (Eb (Ia (Ja (Ha (Ca (Fe O) (Ca (Fe O) ?_))))));refine Jd (d:=40) O (λhg2=>?_) (λhg2=>?_);refine Qa (Ca (Dd O O) (Ea (Le O (Ha (Ca (Ic O) (Ea ?_))))));refine Pd (v:=.bool false) O O ⟨?_,hF.same⟩;clear hF hR hK hX hb1;simp_all[nodeB,List.length_pos_iff];refine Ca (Fe O) (Ca (Ae O O) (Ea ?_));refine Nc O O (λhc2=>?_) (λhc2=>?_);refine Ha (Ca (Ic O) (Ea ?_));refine Pd (v:=.bool false) O O ⟨?_,hF.same⟩;clear hF hR hK hX hb1;simp_all[nodeB,List.length_pos_iff];refine Wa (Ia (Ja (Ha (Ca (Zb Mg O) (Rc (Wr aZ O hF.F 0 O O) (Ea (Za (Ha (Ca (Gq O O) (Ca (Ic O) ?_))))))))));refine Ea (Nc O O (λhc3=>?_) (λhc3=>?_));refine Ha (Ca (Zb Xh O) (Rc (Iy fZ O hF.F 0 O O) (Ca (GL O O) (Ca (Ic O) (Ea ?_)))));refine Pd (v:=.bool _) O O ⟨?_,hF.same⟩;clear hF hR hK hX hb1;simp_all[nodeB,List.length_pos_iff];refine Ha (Ca (Gq O O) (Ca (Ic O) (Ea ?_)));refine Nc O O (λhc4=>?_) (λhc4=>?_);refine Ha (Ca (Zb Xh O) (Rc (Iy fZ O hF.F 0 O O) (Ca (GL O O) (Ca (Fe O) ?_))));refine Jd (d:=55) O (λhg3=>?_) (λhg3=>?_);refine Qa (Qa (Qa (Ca (Dd O O) (Ca (Ic O) (Ea ?_)))));refine Pd (v:=.bool true) O O ⟨?_,hF.same⟩;clear hF hR hK hX hb1;simp_all[nodeB,List.length_pos_iff];refine Ca (Zb Xh O) (Rc (Iy fZ O hF.F 0 O O) (Ca (GL O O) (Ca (Ae O O) (Ca (Ic O) (Ea ?_)))));refine Pd (v:=.bool _) O O ⟨?_,hF.same⟩;clear hF hR hK hX hb1;simp_all[nodeB,List.length_pos_iff];refine Ha (Ca (Gq O O) (Ca (Ic O) (Ea ?_)));refine Nc O O (λhc5=>?_) (λhc5=>?_);refine Ha (Ca (Zb Xh O) (Rc (Iy fZ O hF.F 0 O O) ?_));refine Hb hF (HD t hk.1 _ (hG.ext hF.same)) (Ra en_66 O O) ?_;intro w hF;refine Ca (Bo O) (Ca (Py O O) (Ca (Ar O O) ?_));refine Kh hF qX tZ O ?_;rintro b2 w hb2 hF -;refine Ca (Ic O) (Jc (Ca (Fe O) (Ca (Ic O) (Ea ?_))));refine Pd (v:=.bool _) O O ⟨?_,hF.same⟩
 clear hF hR hK hX hb1;simp_all[nodeB,List.length_pos_iff];refine Ha (Ca (Gq O O) (Ca (Ic O) (Ea ?_)));refine Nc O O (λhc6=>?_) (λhc6=>?_);refine Ha (Ca (Zb Xh O) (Rc (Iy fZ O hF.F 0 O O) ?_));refine Hb hF (KR t hk.1 _ (hG.ext hF.same)) (Ra en_67 O O) ?_;intro w hF;refine Ca (Ic O) (Ea ?_);refine Pd (v:=.bool _) O O ⟨?_,hF.same⟩;clear hF hR hK hX hb1;simp_all[nodeB,List.length_pos_iff];refine Ha (Ca (Gq O O) (Ca (Ic O) (Ea ?_)));refine Nc O O (λhc7=>?_) (λhc7=>?_);refine Ha (Ca (Zb Xh O) (Rc (Iy fZ O hF.F 0 O O) ?_));refine Hb hF (hole_c t hk.1 _ (hG.ext hF.same)) (Ra en_68 O O) ?_;intro w hF;refine Ca (Ic O) (Ea ?_);refine Pd (v:=.bool _) O O ⟨?_,hF.same⟩;clear hF hR hK hX hb1;simp_all[nodeB,List.length_pos_iff];refine Wa (Eb (Ia (Ha (Ca (Ic O) (Ea ?_)))));refine Pd (v:=.bool false) O O ⟨?_,hF.same⟩;clear hF hR hK hX hb1;simp_all[nodeB,List.length_pos_iff]
theorem Tree.ind{Q:Tree->Prop}(h:∀k t ks xs,(∀x,x∈xs->Q x)->Q (.node k t ks xs))(x:Tree):Q x :=
  Tree.rec (motive_1:=Q) (motive_2:=λxs=>∀x,x∈xs->Q x) (λk t ks xs ih=>h k t ks xs ih) Da
    (λy ys h1 h2=>by
      intro z hz;rcases oQ.1 hz with rfl|hz
      ·exact h1
      exact h2 z hz) x
mutual
def Rb:Tree->Nat|.node _ _ _ xs=>1+Pb xs
def Pb:List Tree->Nat|[]=>0|x::xs=>Rb x+Pb xs
end
mutual
def Ed:Tree->Nat|.node _ _ _ xs=>Fd xs+1
def Fd:List Tree->Nat|[]=>0|x::xs=>max (Ed x) (Fd xs)
end
theorem Be:∀(xs ys:List Tree),Pb (xs++ys)=Pb xs+Pb ys
  | [],ys=>by simp[Pb]
  | x::xs,ys=>by simp[Pb,Be xs ys,Nat.add_assoc]
theorem Io:∀(xs ys:List Tree),Fd (xs++ys)=max (Fd xs) (Fd ys)
  | [],ys=>by simp[Fd]
  | x::xs,ys=>by simp only[List.cons_append,Fd,Io xs ys];omega
theorem FL(xs:List Tree)(j:Nat)(hj:j<xs.length):Pb (xs.take (j+1))=Pb (xs.take j)+Rb xs[j]:=by
  rw[iQ hj,Be];simp[Pb]
theorem ZE(xs:List Tree)(j:Nat)(hj:j<xs.length):Fd (xs.take (j+1))=max (Fd (xs.take j)) (Ed xs[j]):=by
  rw[iQ hj,Io];simp[Fd]
theorem Sh:∀{xs:List Tree}{x:Tree},x∈xs->Rb x<=Pb xs
  | [],_,h=>absurd h Da
  | y :: ys, x, h => by
    rw[Pb];rcases oQ.1 h with rfl|h
    ·omega
    have:=Sh h;omega
theorem Dr(x:Tree):1<=Rb x:=by cases x;rw[Rb];omega
theorem Ii:∀(xs:List Tree),xs.length<=Pb xs
  | []=>by simp[Pb]
  | x::xs=>by have:=Ii xs;have:=Dr x;simp only[Pb,kQ];omega
theorem IZ(x:Tree):Ed x<=Rb x:=by
  refine Tree.ind (Q:=λx=>Ed x<=Rb x) (λk t ks xs ih=>?_) x;have:Fd xs<=Pb xs:=by
    induction xs with
    | nil=>simp[Fd,Pb]
    | cons y ys ihy =>
      have h1:=ih y Da;have h2:=ihy (λz hz=>ih z (by simp[hz]));simp only[Fd,Pb];omega
  simp only[Ed,Rb];omega
theorem MN(xs:List Tree):Fd xs<=Pb xs:=by
  have:=IZ (.node 0 [] [] xs);simp only[Ed,Rb]at this;omega
def SizeC(x:Tree):Prop:=∀S w0 cs,Rep S w0 (Wb x) cs->Calls prog 62 #[.agg cs.toArray] w0 (Wd λv w'=>v=J (wr (Rb x))/\Same [] w0 w')
theorem YS(k:Int)(t:Str)(ks:List Str)(xs:List Tree)(ih:∀x,x∈xs->SizeC x):SizeC (.node k t ks xs):=by
 intro S w0 cs hR;obtain⟨A,c,B,e,rfl,-,-,-,hX⟩:=hR.tree_inv;have hXl:=hX.slice_len;refine Fa func62 O ntmps62 Ib (Zc _) ?_;have hF:=FR.start w0 [];refine Ha (Df hF O ?_);rintro b1 w hb1 hF -;refine Ca (Uc O) (Jc (Ca (Uc O) (Ea (Ja (Ha (Ca (Zb Gc O) (Rc (Tf xQ O hF.F 0 O O) (Ca (Mf cX O) ?_))))))));refine Ca (Qb O) (Ea (Za ?_));refine Ad (λμ σ w=>∃(j:Nat),μ=xs.length-j/\(j<=xs.length)/\AllEq σ [(3,J (wr (1+Pb (xs.take j)))),(7,.slice B xs.length e),(8,J ((xs.length:Nat))),(9,J ((j:Int)))]/\FR w0 [] [(b1,.cells #[J k,I t,.slice A ks.length c,.slice B xs.length e] 25)] w) _ ⟨0,O,(Nat.zero_le _),Eu,hF⟩ ?_;rintro μ σ w ⟨j,rfl,hj,hs,hF⟩;refine Cg.slots hs ?_;clear hs;intro σ;refine Ha (Ca (An O O) (Ea (Ja ?_)));refine Nc O O (λhc0=>?_) (λhc0=>?_);refine Wa (Ia (Ja (Za (Ha ?_))));obtain⟨ad0,cs0,hA0,hl0,hk0,hx0⟩:=hX.tree_elem (i:=j) sX;have ho0:=hx0.one_;refine Ka (v:=.pointer (some (ad0.add (j*4)))) (Ta (i:=(j:Int)) Xd O hA0 O sX sX) (Ka (v:=.agg (List.toArray cs0)) (Va (l:=cs0) zQ oZ O hl0 (hF.cells0 hk0)) ?_);refine Rv (l:=cs0) hF mX (by rw[hl0];exact oZ) (by rw[hl0];rfl) (v:=.agg (List.toArray cs0)) O O (ho0) O ?_;rintro b2 w hb2 hF -;refine Ea (Ga (Ca (Qb O) (Ka (v:=.agg (List.toArray cs0)) (Va (l:=cs0) zQ oZ O hl0 (hF.cellsAll 0 O)) ?_)));refine Hb hF (ih _ (eQ _) _ _ _ (hF.rep hx0)) (Ra en_62 O O) ?_;intro w hF;refine Ka (v:=J (wr (1+Pb (xs.take (j+1))))) (X0 O O (by rw[JU,FL xs j sX,Int.natCast_add,Int.add_assoc])) (Ca (Uc O) (Gb (Eb (Ia (Ga (Ca (Bm O O) (Ca (Qb O) (Gb ?_))))))));refine Dc ⟨_,?_,j+1,O,sX,Eu,hF.drop 1⟩;omega;refine Pc (Oc O ?_);refine Ia (Ha (Ca (Qb O) (Ca (Uc O) (Ea ?_))));refine Pd (v:=J (wr (1+Pb (xs.take j)))) O O ?_;obtain rfl:j=xs.length:=by omega
 exact⟨by simp[Rb],hF.same⟩
theorem size_c(x:Tree):SizeC x:=Tree.ind YS x
def JM(x:Tree):Prop:=Rb x<=1000000000->∀S w0 cs,Rep S w0 (Wb x) cs->Calls prog 63 #[.agg cs.toArray] w0 (Wd λv w'=>v=J (Ed x:Nat)/\Same [] w0 w')
theorem MO(k:Int)(t:Str)(ks:List Str)(xs:List Tree)(ih:∀x,x∈xs->JM x):JM (.node k t ks xs):=by
 intro hsz S w0 cs hR;obtain⟨A,c,B,e,rfl,-,-,-,hX⟩:=hR.tree_inv;have hXl:=hX.slice_len;have hdl:=MN xs;rw[Rb]at hsz;refine Fa func63 O ntmps63 Ib (Zc _) ?_;have hF:=FR.start w0 [];refine Ha (Df hF O ?_);rintro b1 w hb1 hF -;refine Ca (Uc O) (Jc (Ca (Uc O) (Ea (Ja (Ha (Ca (Zb Gc O) (Rc (Tf xQ O hF.F 0 O O) (Ca (Mf cX O) ?_))))))));refine Ca (Qb O) (Ea (Za ?_));refine Ad (λμ σ w=>∃(j:Nat),μ=xs.length-j/\(j<=xs.length)/\AllEq σ [(3,J ((Fd (xs.take j):Nat))),(7,.slice B xs.length e),(8,J ((xs.length:Nat))),(9,J ((j:Int)))]/\FR w0 [] [(b1,.cells #[J k,I t,.slice A ks.length c,.slice B xs.length e] 25)] w) _ ⟨0,O,(Nat.zero_le _),Eu,hF⟩ ?_;rintro μ σ w ⟨j,rfl,hj,hs,hF⟩;refine Cg.slots hs ?_;clear hs;intro σ;refine Ha (Ca (An O O) (Ea (Ja ?_)));refine Nc O O (λhc0=>?_) (λhc0=>?_);refine Wa (Ia (Ja (Za (Ha ?_))));obtain⟨ad0,cs0,hA0,hl0,hk0,hx0⟩:=hX.tree_elem (i:=j) sX;have ho0:=hx0.one_;refine Ka (v:=.pointer (some (ad0.add (j*4)))) (Ta (i:=(j:Int)) Xd O hA0 O sX sX) (Ka (v:=.agg (List.toArray cs0)) (Va (l:=cs0) zQ oZ O hl0 (hF.cells0 hk0)) ?_);refine Rv (l:=cs0) hF mX (by rw[hl0];exact oZ) (by rw[hl0];rfl) (v:=.agg (List.toArray cs0)) O O (ho0) O ?_;rintro b2 w hb2 hF -;refine Ea (Ga (Ca (Qb O) (Ka (v:=.agg (List.toArray cs0)) (Va (l:=cs0) zQ oZ O hl0 (hF.cellsAll 0 O)) ?_)));refine Hb hF (ih _ (eQ _) (by have:=Sh (List.getElem_mem (l:=xs) (n:=j) sX);omega) _ _ _ (hF.rep hx0)) (Ra en_63 O O) ?_;intro w hF;refine Ka (v:=J ((Fd (xs.take (j+1)):Nat))) (by rw[<-show max ((Fd (xs.take j):Nat):Int) ((Ed xs[j]:Nat):Int)=((Fd (xs.take (j+1)):Nat):Int) from by rw[ZE xs j sX];omega];exact x_max O O) ?_;refine Ca (Uc O) (Gb (Eb (Ia (Ga (Ca (Bm O O) (Ca (Qb O) (Gb ?_)))))));refine Dc ⟨_,?_,j+1,O,sX,Eu,hF.drop 1⟩;omega;refine Pc (Oc O ?_);refine Ia (Ha (Ca (Qb O) ?_))
 have eT:xs.take j=xs:=List.take_of_length_le sX;refine Ka (v:=J ((Ed (.node k t ks xs):Nat))) (X0 O O (by rw[eT,Ed];exact Cl sX sX sX)) ?_;refine Ca (Uc O) (Ea ?_);refine Pd (v:=J ((Ed (.node k t ks xs):Nat))) O O ?_;exact⟨O,hF.same⟩
theorem depth_c(x:Tree):JM x:=Tree.ind MO x
theorem Same.cell{w w':World}{a:Addr}{v:Value}(h:Same [] w w')(hc:w.cell? a=some v):w'.cell? a=some v:=((FR.start w []).ext h).cell0 hc
mutual
def Zd(q:Tree->Bool):Tree->Bool|.node k t ks xs=>q (.node k t ks xs)&&Et q xs
def Et(q:Tree->Bool):List Tree->Bool|[]=>true|x::xs=>Zd q x&&Et q xs
end
theorem Du(q:Tree->Bool):∀xs:List Tree,Et q xs = !(xs.any λx=>!Zd q x)
  | []=>rfl
  | x::xs=>by rw[Et,Du q xs];simp
def EachC(w0:World)(bb:Nat)(xs:List Tree)(q:Tree->Bool):Prop:=∀x,x∈xs->∀S w cs,Same [] w0 w->Rep S w (Wb x) cs->Calls prog 64 #[.agg cs.toArray,V bb] w (Wd λv w'=>v=.bool (q x)/\Same [] w w')
theorem EachC.ext{w0 w:World}{bb:Nat}{xs:List Tree}{q:Tree->Bool}(h:EachC w0 bb xs q)(hs:Same [] w0 w):EachC w bb xs q:=λx hx S w' cs hw=>h x hx S w' cs (hs.trans hw)
theorem WB{q:Tree->Bool}{xs:List Tree}{j:Nat}(h:j<xs.length)(hn:(xs.take j).any q=false)(hq:q xs[j]=false):(xs.take (j+1)).any q=false:=by
  rw[iQ h,List.any_append,hn];simp[hq]
def Jz(g:Nat)(q:Tree->Bool)(x:Tree):Prop:=∀S w0 cs,Rep S w0 (Wb x) cs->U2 x->Gl w0->Calls prog 35 #[.agg cs.toArray,.func (.func g) #[] #[]] w0 (Wd λv w'=>v=.bool (Zd q x)/\Same [] w0 w')
theorem TK(xs:List Tree)(q:Tree->Bool)(bb:Nat)(B:Option Addr)(e:Nat)(S:Nat->Prop)(w0:World)(hX:Rep S w0 (.slice (Cd xs)) [.slice B xs.length e])(hq:EachC w0 bb xs q):Calls prog 78 #[.slice B xs.length e,.func (.func 64) #[] #[V bb]] w0 (Wd λv w'=>∃n:Int,v=J n/\decide (0<=n)=xs.any q/\Same [] w0 w'):=by
 have hXl:=hX.slice_len;refine Fa func78 O ntmps78 Ib (Hd _ _) ?_;have hF:=FR.start w0 [];refine Ha (Ca (Uc O) (Ea (Ja (Ha (Ca (He O) (Ca (Mf cX O) (Ca (Qb O) (Ea (Za ?_)))))))));refine Ad (λμ σ w=>∃(j:Nat),μ=xs.length-j/\(j<=xs.length)/\((xs.take j).any q=false)/\AllEq σ [(0,.slice B xs.length e),(1,.func (.func 64) #[] #[.pointer (some (⟨bb,0,none⟩))]),(7,J ((xs.length:Nat))),(8,J ((j:Int)))]/\FR w0 [] [] w) _ ⟨0,O,(Nat.zero_le _),Da,Eu,hF⟩ ?_;rintro μ σ w ⟨j,rfl,hj,hn,hs,hF⟩;refine Cg.slots hs ?_;clear hs;intro σ;refine Ha (Ca (An O O) (Ea (Ja ?_)));refine Nc O O (λhc0=>?_) (λhc0=>?_);refine Wa (Ia (Ja (Za (Ha (Ca (Qb O) (Ca (Uc O) (Jc (Ca (Pt) (Ca (He O) ?_)))))))));refine Ca (Qb O) ?_;obtain⟨ad0,cs0,hA0,hl0,hk0,hx0⟩:=hX.tree_elem (i:=j) sX;have ho0:=hx0.one_;refine Ka (v:=.pointer (some (ad0.add (j*4)))) (Ta (i:=(j:Int)) Xd O hA0 O sX sX) (Ka (v:=.agg (List.toArray cs0)) (Va (l:=cs0) zQ oZ O hl0 (hF.cells0 hk0)) ?_);refine Hb hF (hq _ (List.getElem_mem (l:=xs) (n:=j) sX) _ _ _ hF.same (hF.rep hx0)) (Nm O en_64 O O) ?_;intro w hF;refine Ea (Ng O O (λhc1=>?_) (λhc1=>?_));refine Ha (Ca (Qb O) (Ca (Uc O) (Ea ?_)));refine Pd (v:=J ((j:Int))) O O ?_;exact⟨_,O,by rw[List.any_eq_true.2 ⟨_,List.getElem_mem (l:=xs) (n:=j) sX,hc1⟩];simp,hF.same⟩;refine Wa (Eb (Ia (Ga (Ca (Bm O O) (Ca (Qb O) (Gb ?_))))));refine Dc ⟨_,?_,j+1,O,sX,(WB sX hn hc1),Eu,hF⟩;omega;refine Pc (Oc O ?_);refine Ia (Ha (Ca (Uc O) (Ea ?_)));refine Pd (v:=J ((-1))) O O ?_;have eT:xs.take j=xs:=List.take_of_length_le sX;rw[eT]at hn;exact⟨_,O,by rw[hn];decide,hF.same⟩
theorem Ew(xs:List Tree)(q:Tree->Bool)(bb:Nat)(B:Option Addr)(e:Nat)(S:Nat->Prop)(w0:World)(hX:Rep S w0 (.slice (Cd xs)) [.slice B xs.length e])(hq:EachC w0 bb xs q):Calls prog 44 #[.slice B xs.length e,.func (.func 64) #[] #[V bb]] w0 (Wd λv w'=>v=.bool (xs.any q)/\Same [] w0 w'):=by
 refine Fa func44 O ntmps44 Ib (Hd _ _) ?_;have hF:=FR.start w0 [];refine Ha (Ca (Ic O) (Jc (Ca (He O) (Ca (Pt) ?_))));refine Fb (TK xs q bb B e S _ (hF.rep hX) (hq.ext hF.same)) (Ya en_78 O O O) ?_;rintro _ w ⟨n,rfl,hn,hE⟩;have hF:=hF.ext hE;refine Ca (HL O O) (Ca (Ic O) (Ea ?_));refine Pd (v:=.bool _) O O ?_;exact⟨congrArg Value.bool hn,hF.same⟩
theorem VC(g:Nat)(q:Tree->Bool)(x:Tree)(h:Jz g q x)(bb:Nat)(S:Nat->Prop)(w0:World)(cs:List Value)(hR:Rep S w0 (Wb x) cs)(hk:U2 x)(hG:Gl w0)(hb:w0.cell? ⟨bb,0,none⟩=some (.func (.func g) #[] #[])):Calls prog 64 #[.agg cs.toArray,V bb] w0 (Wd λv w'=>v=.bool (!Zd q x)/\Same [] w0 w'):=by
 have hl:cs.length=4:=hR.length.trans (Tc x);have ho:=hR.one_;refine Fa func64 O ntmps64 Ib (Hd _ _) ?_;have hF:=FR.start w0 [];refine Ha (Qp (v:=.agg (List.toArray cs)) (cs:=(List.toArray cs)) hF O O ?_);rintro b1 w hb1 hF -;refine Ca (Ic O) (Jc (Ka (v:=.agg (List.toArray cs)) (Va (l:=cs) zQ oZ O hl (hF.cellsAll 0 O)) (Ka (v:=.func (.func g) #[] #[]) (Ob isAgg44 O (hF.cell0 hb)) ?_)));refine Hb hF (h S _ cs (hF.rep hR) hk (hG.ext hF.same)) (Ya DW O O O) ?_;intro w hF;refine Ca (Jm O) (Ca (Ic O) (Ea ?_));refine Pd (v:=.bool _) O O ?_;exact⟨O,hF.same⟩
theorem WE(q:Tree->Bool)(hp:XD 36 q)(k:Int)(t:Str)(ks:List Str)(xs:List Tree)(ih:∀x,x∈xs->Jz 36 q x):Jz 36 q (.node k t ks xs):=by
 intro S w0 cs hR hk hG;have hk':=hk;rw[U2]at hk';obtain⟨A,c,B,e,rfl,-,-,hK,hX⟩:=hR.tree_inv;refine Fa func35 O ntmps35 Ib (Hd _ _) ?_;have hF:=FR.start w0 [];refine Ha (Df hF O ?_);rintro b1 w hb1 hF -;refine YT (.func (.func 36) #[] #[]) hF O ?_;rintro b2 w hb2 hF -;refine Ca (Ic O) (Jc (Rc (ylu isAgg44 O hF.F 0 O O) (Rc (Rf zQ oZ O hF.F 1 O O) ?_)));refine Hb hF (hp (.node k t ks xs) S _ _ (hF.rep hR) hk (hG.ext hF.same)) (Nm O en_36 O O) ?_;intro w hF;refine Ca (Fe O) (Bf (d:=8) O (λhg0=>?_) (λhg0=>?_));refine Ca (Zb Gc O) (Rc (Tf xQ O hF.F 1 O O) (Ka (v:=.func (.func 64) #[] #[V b2]) (Lo O) ?_));refine Hb hF (Ew xs (λx=>!Zd q x) b2 B e S _ (hF.rep hX) (λx hx S' w' cs' hs hr=>VC 36 q x (ih x hx) b2 S' w' cs' hr (Bx hk'.2.2 x hx) ((hG.ext hF.same).ext hs) (hs.cell (hF.cell 0 O O)))) (Ya en_44 O O O) ?_;intro w hF;refine Ca (Jm O) (Ca (Dd O O) (Ca (Ic O) (Ea ?_)));refine Pd (v:=.bool _) O O ⟨?_,hF.same⟩;rw[Zd,Du];simp_all;refine Qa (Qa (Qa (Qa (Qa (Ca (Ae O O) (Ca (Ic O) (Ea ?_)))))));refine Pd (v:=.bool false) O O ⟨?_,hF.same⟩;rw[Zd,Du];simp_all
theorem CV(q:Tree->Bool)(hp:XD 36 q)(x:Tree):Jz 36 q x:=Tree.ind (WE q hp) x
theorem LG(q:Tree->Bool)(hp:XD 37 q)(k:Int)(t:Str)(ks:List Str)(xs:List Tree)(ih:∀x,x∈xs->Jz 37 q x):Jz 37 q (.node k t ks xs):=by
 intro S w0 cs hR hk hG;have hk':=hk;rw[U2]at hk';obtain⟨A,c,B,e,rfl,-,-,hK,hX⟩:=hR.tree_inv;refine Fa func35 O ntmps35 Ib (Hd _ _) ?_;have hF:=FR.start w0 [];refine Ha (Df hF O ?_);rintro b1 w hb1 hF -;refine YT (.func (.func 37) #[] #[]) hF O ?_;rintro b2 w hb2 hF -;refine Ca (Ic O) (Jc (Rc (ylu isAgg44 O hF.F 0 O O) (Rc (Rf zQ oZ O hF.F 1 O O) ?_)));refine Hb hF (hp (.node k t ks xs) S _ _ (hF.rep hR) hk (hG.ext hF.same)) (Nm O en_37 O O) ?_;intro w hF;refine Ca (Fe O) (Bf (d:=8) O (λhg0=>?_) (λhg0=>?_));refine Ca (Zb Gc O) (Rc (Tf xQ O hF.F 1 O O) (Ka (v:=.func (.func 64) #[] #[V b2]) (Lo O) ?_));refine Hb hF (Ew xs (λx=>!Zd q x) b2 B e S _ (hF.rep hX) (λx hx S' w' cs' hs hr=>VC 37 q x (ih x hx) b2 S' w' cs' hr (Bx hk'.2.2 x hx) ((hG.ext hF.same).ext hs) (hs.cell (hF.cell 0 O O)))) (Ya en_44 O O O) ?_;intro w hF;refine Ca (Jm O) (Ca (Dd O O) (Ca (Ic O) (Ea ?_)));refine Pd (v:=.bool _) O O ⟨?_,hF.same⟩;rw[Zd,Du];simp_all;refine Qa (Qa (Qa (Qa (Qa (Ca (Ae O O) (Ca (Ic O) (Ea ?_)))))));refine Pd (v:=.bool false) O O ⟨?_,hF.same⟩;rw[Zd,Du];simp_all
theorem LS(q:Tree->Bool)(hp:XD 37 q)(x:Tree):Jz 37 q x:=Tree.ind (LG q hp) x
def rnodeB(x:Tree):Bool:=decide (x.kind≠7)&&nodeB x
def Sr(x:Tree):Bool:=decide (Rb x<=4096)&&decide (Ed x<=32)
def Ug(x:Tree):Bool:=Sr x&&Zd nodeB x
def Sc(x:Tree):Bool:=Sr x&&Zd rnodeB x
theorem MY{n:Nat}(h:n<=1000000000):wr (n:Int)=(n:Int):=Ss sX sX
theorem rnode_c  : XD 36 rnodeB:=by
 rintro⟨k,t,ks,xs⟩ S w0 cs hR hk hG;obtain⟨A,c,B,e,rfl,-,-,hK,hX⟩:=hR.tree_inv;refine Fa func36 O ntmps36 Ib (Zc _) ?_;have hF:=FR.start w0 [];refine Ha (Df hF O ?_);rintro b1 w hb1 hF -;refine Ca (Ic O) (Jc (Ca (Zb Mg O) (Rc (Wr aZ O hF.F 0 O O) (Ca (Dz O O) (Ca (Fe O) ?_)))));refine Jd (d:=6) O (λhg0=>?_) (λhg0=>?_);refine Rc (Rf zQ oZ O hF.F 0 O O) (Hb hF (node_c (.node k t ks xs) S _ _ (hF.rep hR) hk (hG.ext hF.same)) (Ra en_37 O O) ?_);intro w hF;refine Ca (Dd O O) (Ca (Ic O) (Ea ?_));refine Pd (v:=.bool _) O O ⟨?_,hF.same⟩;simp_all[rnodeB,Tree.kind];refine Qa (Qa (Ca (Ae O O) (Ca (Ic O) (Ea ?_))));refine Pd (v:=.bool false) O O ⟨?_,hF.same⟩;simp_all[rnodeB,Tree.kind]
theorem size_v(x:Tree)(hsz:Rb x<=1000000000)(S:Nat->Prop)(w0:World)(cs:List Value)(hR:Rep S w0 (Wb x) cs):Calls prog 62 #[.agg cs.toArray] w0 (Wd λv w'=>v=J (Rb x:Nat)/\Same [] w0 w'):=by
  have h:=size_c x S w0 cs hR
  rwa [MY hsz]at h
theorem NQ(x:Tree)(hsz:Rb x<=1000000000)(S:Nat->Prop)(w0:World)(cs:List Value)(hR:Rep S w0 (Wb x) cs):Calls prog 34 #[.agg cs.toArray] w0 (Wd λv w'=>v=.bool (Sr x)/\Same [] w0 w'):=by
 have hl:cs.length=4:=hR.length.trans (Tc x);have ho:=hR.one_;refine Fa func34 O ntmps34 Ib (Zc _) ?_;have hF:=FR.start w0 [];refine Ha (Qp (v:=.agg (List.toArray cs)) (cs:=(List.toArray cs)) hF O O ?_);rintro b1 w hb1 hF -;refine Ca (Ic O) (Jc (Ka (v:=.agg (List.toArray cs)) (Va (l:=cs) zQ oZ O hl (hF.cellsAll 0 O)) ?_));refine Hb hF (size_v x hsz S _ cs (hF.rep hR)) (Ra en_62 O O) ?_;intro w hF;refine Ca (yle O O) (Ca (Fe O) ?_);refine Jd (d:=6) O (λhg0=>?_) (λhg0=>?_);refine Ka (v:=.agg (List.toArray cs)) (Va (l:=cs) zQ oZ O hl (hF.cellsAll 0 O)) (Hb hF (depth_c x hsz S _ cs (hF.rep hR)) (Ra en_63 O O) ?_);intro w hF;refine Ca (yle O O) (Ca (Dd O O) (Ca (Ic O) (Ea ?_)));refine Pd (v:=.bool _) O O ⟨congrArg Value.bool ?_,hF.same⟩;unfold Sr
 first|(rw[decide_eq_true (by omega:Rb x<=4096)];exact decide_eq_decide.2 sX)|(rw[decide_eq_false (by omega:¬Rb x<=4096)];rfl)
 refine Qa (Qa (Qa (Ca (Ae O O) (Ca (Ic O) (Ea ?_)))));refine Pd (v:=.bool false) O O ⟨congrArg Value.bool ?_,hF.same⟩;unfold Sr
 first|(rw[decide_eq_true (by omega:Rb x<=4096)];exact decide_eq_decide.2 sX)|(rw[decide_eq_false (by omega:¬Rb x<=4096)];rfl)
theorem Ay(x:Tree)(hsz:Rb x<=1000000000)(S:Nat->Prop)(w0:World)(cs:List Value)(hR:Rep S w0 (Wb x) cs)(hk:U2 x)(hG:Gl w0):Calls prog 16 #[.agg cs.toArray] w0 (Wd λv w'=>v=.bool (Sc x)/\Same [] w0 w'):=by
 have hl:cs.length=4:=hR.length.trans (Tc x);have ho:=hR.one_;refine Fa func16 O ntmps16 Ib (Zc _) ?_;have hF:=FR.start w0 [];refine Ha (Qp (v:=.agg (List.toArray cs)) (cs:=(List.toArray cs)) hF O O ?_);rintro b1 w hb1 hF -;refine Ca (Ic O) (Jc (Ka (v:=.agg (List.toArray cs)) (Va (l:=cs) zQ oZ O hl (hF.cellsAll 0 O)) ?_));refine Hb hF (NQ x hsz S _ cs (hF.rep hR)) (Ra en_34 O O) ?_;intro w hF;refine Ca (Fe O) (Bf (d:=5) O (λhg0=>?_) (λhg0=>?_));refine Ka (v:=.agg (List.toArray cs)) (Va (l:=cs) zQ oZ O hl (hF.cellsAll 0 O)) (Hb hF (CV rnodeB rnode_c x S _ cs (hF.rep hR) hk (hG.ext hF.same)) (Ya DW O O O) ?_);intro w hF;refine Ca (Dd O O) (Ca (Ic O) (Ea ?_));refine Pd (v:=.bool _) O O ?_;exact⟨congrArg Value.bool (by unfold Sc;simp_all),hF.same⟩;refine Qa (Qa (Ca (Ae O O) (Ca (Ic O) (Ea ?_))));refine Pd (v:=.bool false) O O ?_;exact⟨congrArg Value.bool (by unfold Sc;simp_all),hF.same⟩
theorem Iz(x:Tree)(hsz:Rb x<=1000000000)(S:Nat->Prop)(w0:World)(cs:List Value)(hR:Rep S w0 (Wb x) cs)(hk:U2 x)(hG:Gl w0):Calls prog 29 #[.agg cs.toArray] w0 (Wd λv w'=>v=.bool (Ug x)/\Same [] w0 w'):=by
 have hl:cs.length=4:=hR.length.trans (Tc x);have ho:=hR.one_;refine Fa func29 O ntmps29 Ib (Zc _) ?_;have hF:=FR.start w0 [];refine Ha (Qp (v:=.agg (List.toArray cs)) (cs:=(List.toArray cs)) hF O O ?_);rintro b1 w hb1 hF -;refine Ca (Ic O) (Jc (Ka (v:=.agg (List.toArray cs)) (Va (l:=cs) zQ oZ O hl (hF.cellsAll 0 O)) ?_));refine Hb hF (NQ x hsz S _ cs (hF.rep hR)) (Ra en_34 O O) ?_;intro w hF;refine Ca (Fe O) (Bf (d:=5) O (λhg0=>?_) (λhg0=>?_));refine Ka (v:=.agg (List.toArray cs)) (Va (l:=cs) zQ oZ O hl (hF.cellsAll 0 O)) (Hb hF (LS nodeB node_c x S _ cs (hF.rep hR) hk (hG.ext hF.same)) (Ya DW O O O) ?_);intro w hF;refine Ca (Dd O O) (Ca (Ic O) (Ea ?_));refine Pd (v:=.bool _) O O ?_;exact⟨congrArg Value.bool (by unfold Ug;simp_all),hF.same⟩;refine Qa (Qa (Ca (Ae O O) (Ca (Ic O) (Ea ?_))));refine Pd (v:=.bool false) O O ?_;exact⟨congrArg Value.bool (by unfold Ug;simp_all),hF.same⟩
end Go.Scarf
