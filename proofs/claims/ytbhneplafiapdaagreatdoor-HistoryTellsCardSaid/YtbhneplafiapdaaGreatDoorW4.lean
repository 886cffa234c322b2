/- A part of the proof. -/
import Derived.Test.YtbhneplafiapdaaGreatDoorW2
import Derived.Test.YtbhneplafiapdaaGreatDoorShelf2
import Derived.Lib.ValidLaws
import Derived.Lib.TrimUEq
import Derived.Lib.MapLaws
set_option linter.all false
set_option maxHeartbeats 8000000
set_option maxRecDepth 10000
namespace Go.Scarf
open Go.RowKit Go.Proofs Go.Proofs.Tryz
def Oh(s:Str):Bool:=decide ((Dd s).2=0)&&decide (Oi (Dd s).1=s)
def Hp(s:Str):Bool:=Oh s&&(Tp (Dd s).1).2&&decide (0<=(Tp (Dd s).1).1)
theorem N5(s:Str):Ad (Dd s).1=true:=by
  rw[Df]
  repeat' split
  all_goals first|rfl|simp_all
theorem Ml(s:Str):(Dd s).1.digits.length<=1000:=(Wc (N5 s)).1
theorem Kk(s:Str)(q:Nat):Lib.decodeL (s.drop q)=Utf8.decode (bs s) q:=Lib.decodeL_drop (bs s) q
theorem Co(s:Str)(q:Nat):1<=(Utf8.decode (bs s) q).2:=by rw[<-Kk];exact Lib.decodeL_width _
theorem Sl(s:Str)(q:Nat)(h:q<s.length):q+(Utf8.decode (bs s) q).2<=s.length:=by
  have:=Lib.decodeL_le (s.drop q) (by rw[ne_eq,List.drop_eq_nil_iff];omega);rw[Kk,List.length_drop]at this;omega
theorem O0(s:Str)(q:Nat)(h:q<s.length)(hv:Lib.validD (s.drop q)=false)(hn:¬((Utf8.decode (bs s) q).1=65533/\(Utf8.decode (bs s) q).2=1)):Lib.validD (s.drop (q+(Utf8.decode (bs s) q).2))=false:=by
  rw[Lib.validD_step _ (by rw[ne_eq,List.drop_eq_nil_iff];omega),Kk,if_neg hn,List.drop_drop]at hv;exact hv
theorem Fr(s:Str)(q:Nat)(h:q<s.length):Lib.decodeGo (bs (s.drop q))=Utf8.decode (bs s) q:=by
  have h1:(bs (s.drop q)).size≠0:=by rw[Yq,List.length_drop];omega
  rw[Lib.decodeGo,if_neg h1];exact Kk s q
theorem Z2(s:Str)(hl:s.length<=140737488355328){w:World}(hG:Gl w):Calls prog 132 #[I s] w (Vd λv w'=>v=.bool (Lib.validD s)/\Same [] w w') :=
  Fv (utf8_ValidString (bs s) w (by rw[Yq];omega) hG.tabs)
theorem P5(s:Str){w:World}(hG:Gl w):Calls prog 133 #[I s] w (Vd λv w'=>v=.tuple #[.int .i32 (Lib.decodeGo (bs s)).1,J (Lib.decodeGo (bs s)).2]/\Same [] w w') :=
  Fv (utf8_DecodeRuneInString (bs s) w hG.tabs)
theorem Y5(s:Str)(hl:s.length<=140737488355328)(w0:World)(hG:Gl w0):Calls prog 91 #[I s] w0 (Vd λv w'=>∃n,v=.tuple #[J n,.bool (Lib.validD s)]/\Same [] w0 w'):=by
  refine Ka func91 O ntmps91 Mb (Jc _) ?_;have hF:=FR.start w0 [];refine Ha (Ea ?_);refine Ca (Bc O) (Ca (Eb O) ?_);refine Ra (Ga ?_);refine Ha (Ha ?_);refine Ea (Ca (Ic O) ?_);refine Ta hF (Z2 s hl (hG.ext hF.same)) (Va BU O O) ?_;intro w hF;refine Ra (Ga ?_);refine Je O O (λhc0=>?_) (λhc0=>?_)
  ·
   refine Ha (Ea ?_);refine Ca (Ic O) (Ca (Bj tZ O) ?_);refine Ca (Bc O) (Ca (Eb O) ?_);refine Ra (Ga ?_);refine Gb (Fb (Pa (Wd (v:=J ((((s):Str).length:Int))) (x:=.bool true) O O O) ?_));exact⟨_,by rw[hc0],hF.same⟩
  refine Ma (Ga ?_);refine Ha (Ha ?_);refine Ea (Ca (Ic O) ?_);refine Kz (str:=s) hF tZ O ?_;intro b1 w hb1 hF hE;refine Ra (Ga ?_);refine Sa (Gc (λμ σ w=>∃(q:Nat),μ=s.length-q/\(q<=s.length)/\(Lib.validD (s.drop q)=false)/\AllEq σ [(0,I s),(13,V b1)]/\FR w0 [] [(b1,.stringIter (bs s) (q))] w) _ ⟨0,O,(Nat.zero_le _),(by simpa using hc0),Ms,hF⟩ ?_);rintro μ σ w ⟨q,rfl,hq,hv,hs,hF⟩;refine Cg.slots hs ?_;clear hs;intro σ;refine Ha (Ea ?_);by_cases hn0:(q)<(s:Str).length
  ·
   refine R5 0 (p:=q) (str:=s) hF O O hn0 ?_;intro w hF hE;refine Ca (Qp O O) (Ra ?_);refine Ga (Ha ?_);refine Od O (Ma ?_);refine Ga (Sa ?_);refine Ha (Ea ?_);refine Ca (Hr O O) (Ca (Hr O O) ?_);refine Ca (Bc O) (Ca (Bc O) ?_);refine Ra (Ga ?_);refine Ha (Ha ?_);refine Ea (Ca (Db O) ?_);refine Ca (Ep O O) (Ra ?_);refine Ga (Wb O O (λhc2=>?_) (λhc2=>?_))
   ·
    refine Zb (Vb O ?_);have h1:=Co s q;have hw:¬((Utf8.decode (bs s) q).1=65533/\(Utf8.decode (bs s) q).2=1):=by
      first
      | (intro hh;omega)
      | (rw[Fr s q U]at hc3;intro hh;omega)
    refine Za ⟨_,?_,q+(Utf8.decode (bs s) q).2,O,(Sl s q U),(O0 s q U hv hw),Ms,hF⟩;omega
   refine Ma (Ga ?_);refine Ha (Ea ?_);refine Ca (Ic O) (Ca (Db O) ?_);refine Ja (v:=I ((s:Str).drop (q))) (Lf (q) tZ O O U) (Ta hF (P5 (s.drop q) (hG.ext hF.same)) (Va ZV O O) ?_);intro w hF;refine Ca (Tq O) (Ca (Hr O O) ?_);refine Ca (Hr O O) (Ca (Bc O) ?_);refine Ca (Bc O) (Ra ?_);refine Ga (Ha ?_);refine Ea (Ca (Db O) ?_);refine Ca (Jj O O) (Ra ?_);refine Ga (Wb O O (λhc3=>?_) (λhc3=>?_))
   ·
    refine Ha (Ea ?_);refine Ca (Db O) (Ca (Bc O) ?_);refine Ca (Eb O) (Ra ?_);refine Ga (Gb (Fb (Pa (Wd (v:=J (((q:Nat):Int))) (x:=.bool false) O O O) ?_)));exact⟨_,by rw[hc0],hF.same⟩
   refine Ma (Ib ?_);have h1:=Co s q;have hw:¬((Utf8.decode (bs s) q).1=65533/\(Utf8.decode (bs s) q).2=1):=by
     first
     | (intro hh;omega)
     | (rw[Fr s q U]at hc3;intro hh;omega)
   refine Za ⟨_,?_,q+(Utf8.decode (bs s) q).2,O,(Sl s q U),(O0 s q U hv hw),Ms,hF⟩;omega
  refine Et 0 (p:=q) (str:=s) hF O O hn0 (Ca (Qp O O) ?_);refine Ra (Ga ?_);refine Ha (If O ?_);refine Zb (Vb O ?_);refine Ga (Ha ?_);refine Ea (Ca (Ic O) ?_);refine Ca (Bj tZ O) (Ca (Bc O) ?_);refine Ca (Eb O) (Ra ?_);refine Ga (Gb (Fb (Pa (Wd (v:=J ((((s):Str).length:Int))) (x:=.bool true) O O O) ?_)));have e:s.drop q=[]:=List.drop_eq_nil_of_le U;rw[e]at hv;cases hv
theorem ND(s:Str)(hl:s.length<=140737488355328)(w0:World)(hG:Gl w0):Calls prog 100 #[I s] w0 (Vd λv w'=>v=.bool (Lib.validD s)/\Same [] w0 w'):=by
 refine Ka func100 O ntmps100 Mb (Jc _) ?_;have hF:=FR.start w0 [];refine Ia (Ca (Eb O) (Ec (Ca (Ic O) ?_)));refine Kc (Y5 s hl _ (hG.ext hF.same)) (Va UL O O) ?_;rintro _ w ⟨n,rfl,hE⟩;have hF:=hF.ext hE;refine Ca (Tq O) (Ca (Hr O O) (Ca (Qp O O) (Ca (Bc O) (Ca (Eb O) (Ec (Ca (Xb O) (Ca (Eb O) (Fa ?_))))))));refine Tc (v:=.bool _) O O ?_;exact⟨O,hF.same⟩
theorem G4(s:Str)(hl:s.length<=140737488355328)(w0:World)(hG:Gl w0):Calls prog 99 #[I s] w0 (Vd λv w'=>v=.tuple #[Kj (Dd s).1,.bool (Oh s)]/\Same [] w0 w'):=by
 refine Ka func99 O ntmps99 Mb (Jc _) ?_;have hF:=FR.start w0 [];refine Ia (Ve (cs:=#[.bool false,I [],J 0]) hF yZ O ?_);rintro b1 w hb1 hF -;refine Ca (Eb O) (Ec (Ca (Ic O) ?_));refine Ta hF (KF s hl _) (Va JT O O) ?_;intro w hF;refine Ca (Tq O) (Ca (J_ O O) (Ca (Hr O O) ?_));refine Vl hF yZ jZ O ?_;rintro b2 w hb2 hF -;refine Ca (Bc O) (Fa (Ha ?_));refine Rj (.of []) (bQ [0,1,2,3,4,6] (.act 5 (.free 7 (.free 8 (.act 9 (.free 10 .nil)))))) hF ?_;rintro w hF -;refine⟨λwq=>FR w0 [] [(b2,.cells #[.bool ((Dd s).1.neg),I ((Dd s).1.digits),J ((Dd s).1.exp)] 73)] wq,hF.sub (.cons_cons _ (.cons _ .slnil)),?_⟩;refine Cp O (Ej aZ jZ O C0 0 O O) (Zc O (Db O) (Zc O (Jj O O) (Zc O (Xb O) ?_)));refine Hk (d:=14) O (λhg0=>?_) (λhg0=>?_);refine Cp O (Ej aZ jZ O C0 0 O O) (Zc O (Ic O) ?_);refine Wf hF (RM (Dd s).1 (by have:=Ml s;omega) _ (hG.ext hF.same)) O (Va GT O O) ?_;intro w hF;refine⟨hF.sub (.cons_cons _ (.cons _ .slnil)),?_⟩;refine Zc O (Rx O O) (Zc O (Rb O O) ?_);refine Zp O hF jZ O O N4 ?_;rintro w hF -;refine⟨hF.sub (.cons_cons _ (.cons _ .slnil)),?_⟩;refine Zc O (Eb O) (Xd (Ga ?_));refine Gb (Fb (Pa (Nd O (l:=[.bool ((Dd s).1.neg),I ((Dd s).1.digits),J ((Dd s).1.exp)]) O aZ jZ O (hF.cellsAll 1 O) (v:=.bool (decide ((Oi (Dd s).1:Str)=s))) O) ?_));exact⟨by simp_all[Oh,Kj],hF.same⟩;refine Jh O (Jh O ?_);refine UK O ?_ (hF.sub (.cons_cons _ (.cons _ .slnil)));refine Jh O (Zc O (Jb O O) ?_);refine Zp O hF jZ O O N4 ?_;rintro w hF -;refine⟨hF.sub (.cons_cons _ (.cons _ .slnil)),?_⟩;refine Zc O (Eb O) (Xd (Ga ?_));refine Gb (Fb (Pa (Nd O (l:=[.bool ((Dd s).1.neg),I ((Dd s).1.digits),J ((Dd s).1.exp)]) O aZ jZ O (hF.cellsAll 1 O) (v:=.bool false) O) ?_));exact⟨by simp_all[Oh,Kj],hF.same⟩
theorem XT(s:Str)(hl:s.length<=140737488355328)(w0:World)(hG:Gl w0):Calls prog 101 #[I s] w0 (Vd λv w'=>v=.bool (Hp s)/\Same [] w0 w'):=by
 refine Ka func101 O ntmps101 Mb (Jc _) ?_;have hF:=FR.start w0 [];refine Ia (Ca (Eb O) (Ec (Ca (Ic O) ?_)));refine Ta hF (G4 s hl _ (hG.ext hF.same)) (Va QS O O) ?_;intro w hF;refine Ca (Tq O) (Ca (J_ O O) (Ca (Qp O O) ?_));refine Vl hF yZ jZ O ?_;rintro b1 w hb1 hF -;refine Ca (Eb O) (Ec (Ed (Ej aZ jZ O hF.F 0 O O) ?_));refine Ta hF (NK (Dd s).1 (by have:=Ml s;omega) _ (hG.ext hF.same)) (Va GW O O) ?_;intro w hF;refine Ca (Tq O) (Ca (Hr O O) (Ca (Qp O O) (Ca (Bc O) (Ca (Eb O) (Ec (Ca (Xb O) (Ca (Xb O) ?_)))))));refine Uc (d:=18) O (λhg0=>?_) (λhg0=>?_);refine Ca (Xb O) (Ca (Rb O O) (Ca (Xb O) ?_));refine Uc (d:=21) O (λhg1=>?_) (λhg1=>?_);refine Ca (Db O) (Ca (Gt O O) (Ca (Rb O O) (Ca (Eb O) (Fa ?_))));refine Tc (v:=.bool _) O O ?_;exact⟨by simp_all[Hp],hF.same⟩;refine Da (Da (Ca (Jb O O) (Ca (Eb O) (Fa ?_))));refine Tc (v:=.bool false) O O ?_;exact⟨by simp_all[Hp],hF.same⟩;refine Da (Ca (Jb O O) (Ca (Xb O) (Da (Da (Ca (Jb O O) (Ca (Eb O) (Fa ?_)))))));refine Tc (v:=.bool false) O O ?_;exact⟨by simp_all[Hp],hF.same⟩
def Ym(ks:List Str)(n:Int):Bool:=decide ks.Nodup&&ks.all Lib.validD&&decide ((ks.length:Int)=n)
def Bu(ks:List Str):MapL:=ks.map λk=>(k,.bool true)
theorem E0(ks:List Str)(k:Str):Dh (Bu ks) k=if k∈ks then some (.bool true) else none:=by
  induction ks with
  | nil=>rfl
  | cons a r ih =>
    have e:Bu (a::r)=[(a,.bool true)]++Bu r:=rfl;rw[e,V4,ih];by_cases h:a=k
    ·subst h;simp[Dh]
    have h' : ¬ k = a := λe => h e.symm;simp[Dh,h,h']
theorem NB(ks:List Str)(j:Nat)(h:j<ks.length):Bu (ks.take j)++[(ks[j],.bool true)]=Bu (ks.take (j+1)):=by
  unfold Bu;rw[iQ h,jQ];rfl
theorem Fp{ks:List Str}{j:Nat}(h:j<ks.length)(hn:(ks.take j).Nodup)(hi:¬ks[j]∈ks.take j):(ks.take (j+1)).Nodup:=by
  rw[iQ h,List.nodup_append];refine⟨hn,by simp,?_⟩;intro a ha b hb e;simp only[pQ]at hb;subst e;subst hb;exact hi ha
theorem Ho{ks:List Str}{j:Nat}(h:j<ks.length)(hi:ks[j]∈ks.take j):¬ks.Nodup:=by
  intro hn;obtain⟨i,hi',he⟩:=List.getElem_of_mem hi;rw[List.getElem_take]at he;have hi2:i<j:=by rw[List.length_take]at hi';omega
  have:=(List.pairwise_iff_getElem.1 hn) i j U h hi2;exact this he
theorem Qr{f:Str->Bool}{ks:List Str}{j:Nat}(h:j<ks.length)(ha:(ks.take j).all f=true)(hv:f ks[j]=true):(ks.take (j+1)).all f=true:=by
  rw[iQ h,List.all_append,ha];simp[hv]
theorem UD{f:Str->Bool}{ks:List Str}{j:Nat}(h:j<ks.length)(hv:f ks[j]=false):ks.all f=false:=by
  rw[Bool.eq_false_iff];intro ha;have:=List.all_eq_true.1 ha ks[j] (eQ h);rw[hv]at this;cases this
theorem AP(ks:List Str)(n:Int)(S:Nat->Prop)(A:Option Addr)(c:Nat)(hl:∀k∈ks,k.length<=140737488355328)(w0:World)(hG:Gl w0)(hX:Rep S w0 (Ug ks) [.slice A ks.length c]):Calls prog 98 #[.slice A ks.length c,J n] w0 (Vd λv w'=>v=.bool (Ym ks n)/\Same [] w0 w'):=by
 have hXl:=hX.slice_len;refine Ka func98 O ntmps98 Mb (Ae _ _) ?_;have hF:=FR.start w0 [];refine Ia (Ca (Eb O) (Ec (Ca (Kd O) (Ca (Rf pZ O) ?_))));refine Wr (v:=λb=>.map (some b)) hF (Z3 underlying167 O) ?_;rintro b1 w hb1 hF -;refine Ca (YN) (Fa (Ha (Ia (Ca (Kd O) (Ca (Rf pZ O) (Ca (Db O) (Fa (Sa ?_))))))));have hF:FR w0 [] [(b1,Ei (Bu (ks.take 0)))] w:=hF;refine Gc (λμ σ w=>∃(j:Nat),μ=ks.length-j/\(j<=ks.length)/\((ks.take j).Nodup)/\((ks.take j).all Lib.validD=true)/\AllEq σ [(0,.slice A ks.length c),(1,J n),(5,.map (some b1)),(11,.slice A ks.length c),(12,J ((ks.length:Nat))),(13,J ((j:Int)))]/\FR w0 [] [(b1,Ei (Bu (ks.take j)))] w) _ ⟨0,O,(Nat.zero_le _),Ua,Ua,UA,hF⟩ ?_;rintro μ σ w ⟨j,rfl,hj,hd,hv,hs,hF⟩;refine Cg.slots hs ?_;clear hs;intro σ;refine Ia (Ca (Tg O O) (Fa (Ha ?_)));refine Wb O O (λhc0=>?_) (λhc0=>?_);refine Ma (Ga (Ha (Sa (Ia ?_))));obtain⟨ad0,hA0,hk0,hx0⟩:=hX.str_elem (i:=j) U;refine Ja (v:=.pointer (some (ad0.add (j*1)))) (Qa (i:=(j:Int)) Tr O hA0 O U U) (Ja (v:=I (ks[j])) (Oc dZ O (hF.cell0 hk0)) (Ca (Qd O) (Fa (Ha (Ia (Ca (Ru) (Ca (Ic O) ?_)))))));refine Ja (v:=.bool (decide (ks[j]∈ks.take j))) (QG underlying167 tZ zeroValue4 O O (hF.heap (i:=0) O) (by rw[E0];split <;> rename_i hh <;> simp only[hh,decide_true,decide_false] <;> rfl)) ?_;refine Ca (Xb O) (Xa (d:=20) O (λhg1=>?_) (λhg1=>?_));refine Da (Da (Da (Ca (Rb O O) (Fa (Od O (Ia (Ca (Eb O) (Fa ?_))))))));refine Tc (v:=.bool false) O O ?_;have:=Ho (ks:=ks) (j:=j) U (by assumption);exact⟨congrArg Value.bool (by unfold Ym;rw[decide_eq_false this];rfl),hF.same⟩;refine Ca (Ic O) (Ta hF (ND ks[j] (hl _ (eQ _)) _ (hG.ext hF.same)) (Va GN O O) ?_);intro w hF;refine Ca (Bi O) (Ca (Jb O O) (Fa ?_));refine Je O O (λhc1=>?_) (λhc1=>?_);refine Ia (Ca (Eb O) (Fa ?_));refine Tc (v:=.bool false) O O ?_
 have:=UD (f:=Lib.validD) (ks:=ks) (j:=j) U (by simpa using hc1);exact⟨congrArg Value.bool (by unfold Ym;rw[this,Bool.and_false];rfl),hF.same⟩;refine Ma (Ga (Ea (Ca (Ru) (Ca (Ic O) ?_))));refine Zw 0 (v:=.bool true) hF underlying167 tZ O O O O (by rw[E0,if_neg (by assumption)]) ?_;rintro w hF -;rw[NB ks j U]at hF;have hF:FR w0 [] [(b1,Ei (Bu (ks.take (j+1))))] w:=hF;refine Ra (Ib (Ga (Ea (Ca (Lk O O) (Ca (Db O) (Ra ?_))))));refine Za ⟨_,?_,j+1,O,U,(Fp U hd (by assumption)),(Qr U hv (by simpa using hc1)),UA,hF⟩;omega;refine Zb (Vb O ?_);refine Ga (Ia (Ca (Kd O) (Ca (Rf pZ O) (Ca (Db O) (Ca (Jj O O) (Ca (Eb O) (Fa ?_)))))));refine Tc (v:=.bool _) O O ?_;obtain rfl:j=ks.length:=by omega
 rw[List.take_length]at hd hv;exact⟨congrArg Value.bool (by unfold Ym;rw[hv,decide_eq_true hd];rfl),hF.same⟩
mutual
def H2:Tree->Prop|.node _ t ks xs=>t.length<=140737488355328/\(∀k∈ks,k.length<=140737488355328)/\T8 xs
def T8:List Tree->Prop|[]=>True|x::xs=>H2 x/\T8 xs
end
theorem Bz:∀{xs:List Tree},T8 xs->∀x∈xs,H2 x
  | [],_,_,h=>absurd h Ua
  | y :: ys, h, x, hx => by
    rw[T8]at h;rcases oQ.1 hx with rfl|hx
    ·exact h.1
    exact Bz h.2 x hx
def nodeB:Tree->Bool
  | .node k t ks xs =>
    if k=5 then decide (ks=[])&&decide (t=[]) else
    if k=6 then Ym ks xs.length&&decide (t=[]) else
    if ks≠[]\/xs≠[] then false else
    if k=1 then decide (t=[]) else
    if k=2 then decide (t=[116,114,117,101]) || decide (t=[102,97,108,115,101]) else
    if k=3 then Oh t else if k=4 then Lib.validD t else if k=7 then Hp t else false
def E4(g:Nat)(q:Tree->Bool):Prop:=∀(x:Tree)(S:Nat->Prop)(w0:World)(cs:List Value),Rep S w0 (Fc x) cs->H2 x->Gl w0->Calls prog g #[.agg cs.toArray] w0 (Vd λv w'=>v=.bool (q x)/\Same [] w0 w')
theorem EQ{α:Type}(l:List α):decide ((0:Int)<(l.length:Int))=decide (l≠[]):=by
  cases l <;> simp
theorem OK  : E4 67 nodeB:=by
 rintro⟨k,t,ks,xs⟩ S w0 cs hR hk hG;obtain⟨A,c,B,e,rfl,-,-,hK,hX⟩:=hR.tree_inv;rw[H2]at hk;refine Ka func67 O ntmps67 Mb (Jc _) ?_;have hF:=FR.start w0 [];refine Ia (Xf hF O ?_);rintro b1 w hb1 hF -;refine Ca (Eb O) (Fa (Ha ?_));refine Te (zs:=.of []) (bQ [0,1,2,3,4,5,6,7,8,9] .nil) hF ?_;intro w hF;refine Zc O (Cd Pe O) (Cp O (Mh vQ O C0 0 O O) (Zc O (Rf pZ O) (Zc O (Jo O O) (Zc O (Cd Rc O) (Cp O (Mh wQ O C0 0 O O) (Zc O (Rf qZ O) (Zc O (Jo O O) (Zc O (Eb O) (Zc O (Eb O) (Xd (Ga (Ha (Ha ?_)))))))))))));refine Ea (Ca (Cd Pf O) (Ed (Jq yQ O hF.F 0 O O) (Fa (Sa (Ia (Ca (Jj O O) (Ca (Eb O) (Fa ?_))))))));refine Wb O O (λhc0=>?_) (λhc0=>?_);refine Ia (Ca (Xb O) (Ca (ynd O) (Ca (Xb O) ?_)));refine Xa (d:=21) O (λhg0=>?_) (λhg0=>?_);refine Ca (Cd Le O) (Ed (Em dZ O hF.F 0 O O) (Ca (Rx O O) (Ca (Rb O O) (Ca (Eb O) (Fa ?_)))));refine Tc (v:=.bool _) O O ⟨?_,hF.same⟩;clear hF hR hK hX hb1;simp_all[nodeB,List.length_pos_iff];refine Da (Da (Da (Ca (Jb O O) (Ca (Eb O) (Fa ?_)))));refine Tc (v:=.bool false) O O ⟨?_,hF.same⟩;clear hF hR hK hX hb1;simp_all[nodeB,List.length_pos_iff];refine Ia (Ca (Jj O O) (Ca (Eb O) (Fa ?_)));refine Wb O O (λhc1=>?_) (λhc1=>?_);refine Ia (Ca (Cd Pe O) (Ed (Mh vQ O hF.F 0 O O) (Ca (Cd Rc O) (Ed (Mh wQ O hF.F 0 O O) (Ca (Rf qZ O) ?_)))));refine Ta hF (AP ks (xs.length:Nat) S A c (by simpa using hk.2.1) _ (hG.ext hF.same) (hF.rep hK)) (Qb WY O O O) ?_;intro w hF;refine Ca (Xb O) (Uc (d:=34) O (λhg1=>?_) (λhg1=>?_));refine Ca (Cd Le O) (Ed (Em dZ O hF.F 0 O O) (Ca (Rx O O) (Ca (Rb O O) (Ca (Eb O) (Fa ?_)))));refine Tc (v:=.bool _) O O ⟨?_,hF.same⟩;clear hF hR hK hX hb1;simp_all[nodeB,List.length_pos_iff];refine Da (Da (Da (Ca (Jb O O) (Ca (Eb O) (Fa ?_)))));refine Tc (v:=.bool false) O O ⟨?_,hF.same⟩;clear hF hR hK hX hb1;simp_all[nodeB,List.length_pos_iff]
 refine Ma (Ib (Ga (Ha (Ia (Ca (Xb O) (Ca (Xb O) ?_))))));refine Xa (d:=40) O (λhg2=>?_) (λhg2=>?_);refine Da (Ca (Rb O O) (Fa (Od O (Ia (Ca (Eb O) (Fa ?_))))));refine Tc (v:=.bool false) O O ⟨?_,hF.same⟩;clear hF hR hK hX hb1;simp_all[nodeB,List.length_pos_iff];refine Ca (Xb O) (Ca (Jb O O) (Fa ?_));refine Wb O O (λhc2=>?_) (λhc2=>?_);refine Ia (Ca (Eb O) (Fa ?_));refine Tc (v:=.bool false) O O ⟨?_,hF.same⟩;clear hF hR hK hX hb1;simp_all[nodeB,List.length_pos_iff];refine Ma (Ga (Ha (Ia (Ca (Cd Pf O) (Ed (Jq yQ O hF.F 0 O O) (Fa (Sa (Ia (Ca (Jj O O) (Ca (Eb O) ?_))))))))));refine Fa (Wb O O (λhc3=>?_) (λhc3=>?_));refine Ia (Ca (Cd Le O) (Ed (Em dZ O hF.F 0 O O) (Ca (Rx O O) (Ca (Eb O) (Fa ?_)))));refine Tc (v:=.bool _) O O ⟨?_,hF.same⟩;clear hF hR hK hX hb1;simp_all[nodeB,List.length_pos_iff];refine Ia (Ca (Jj O O) (Ca (Eb O) (Fa ?_)));refine Wb O O (λhc4=>?_) (λhc4=>?_);refine Ia (Ca (Cd Le O) (Ed (Em dZ O hF.F 0 O O) (Ca (Rx O O) (Ca (Xb O) ?_))));refine Xa (d:=55) O (λhg3=>?_) (λhg3=>?_);refine Da (Da (Da (Ca (Rb O O) (Ca (Eb O) (Fa ?_)))));refine Tc (v:=.bool true) O O ⟨?_,hF.same⟩;clear hF hR hK hX hb1;simp_all[nodeB,List.length_pos_iff];refine Ca (Cd Le O) (Ed (Em dZ O hF.F 0 O O) (Ca (Rx O O) (Ca (Jb O O) (Ca (Eb O) (Fa ?_)))));refine Tc (v:=.bool _) O O ⟨?_,hF.same⟩;clear hF hR hK hX hb1;simp_all[nodeB,List.length_pos_iff];refine Ia (Ca (Jj O O) (Ca (Eb O) (Fa ?_)));refine Wb O O (λhc5=>?_) (λhc5=>?_);refine Ia (Ca (Cd Le O) (Ed (Em dZ O hF.F 0 O O) ?_));refine Ta hF (G4 t hk.1 _ (hG.ext hF.same)) (Va QS O O) ?_;intro w hF;refine Ca (Tq O) (Ca (J_ O O) (Ca (Qp O O) ?_));refine Vl hF yZ jZ O ?_;rintro b2 w hb2 hF -;refine Ca (Eb O) (Ec (Ca (Xb O) (Ca (Eb O) (Fa ?_))));refine Tc (v:=.bool _) O O ⟨?_,hF.same⟩;clear hF hR hK hX hb1
 simp_all[nodeB,List.length_pos_iff];refine Ia (Ca (Jj O O) (Ca (Eb O) (Fa ?_)));refine Wb O O (λhc6=>?_) (λhc6=>?_);refine Ia (Ca (Cd Le O) (Ed (Em dZ O hF.F 0 O O) ?_));refine Ta hF (ND t hk.1 _ (hG.ext hF.same)) (Va GN O O) ?_;intro w hF;refine Ca (Eb O) (Fa ?_);refine Tc (v:=.bool _) O O ⟨?_,hF.same⟩;clear hF hR hK hX hb1;simp_all[nodeB,List.length_pos_iff];refine Ia (Ca (Jj O O) (Ca (Eb O) (Fa ?_)));refine Wb O O (λhc7=>?_) (λhc7=>?_);refine Ia (Ca (Cd Le O) (Ed (Em dZ O hF.F 0 O O) ?_));refine Ta hF (XT t hk.1 _ (hG.ext hF.same)) (Va IW O O) ?_;intro w hF;refine Ca (Eb O) (Fa ?_);refine Tc (v:=.bool _) O O ⟨?_,hF.same⟩;clear hF hR hK hX hb1;simp_all[nodeB,List.length_pos_iff];refine Ma (Ib (Ga (Ia (Ca (Eb O) (Fa ?_)))));refine Tc (v:=.bool false) O O ⟨?_,hF.same⟩;clear hF hR hK hX hb1;simp_all[nodeB,List.length_pos_iff]
theorem Tree.ind{Q:Tree->Prop}(h:∀k t ks xs,(∀x,x∈xs->Q x)->Q (.node k t ks xs))(x:Tree):Q x :=
  Tree.rec (motive_1:=Q) (motive_2:=λxs=>∀x,x∈xs->Q x) (λk t ks xs ih=>h k t ks xs ih) Ua
    (λy ys h1 h2=>by
      intro z hz;rcases oQ.1 hz with rfl|hz
      ·exact h1
      exact h2 z hz) x
mutual
def Ub:Tree->Nat|.node _ _ _ xs=>1+Ob xs
def Ob:List Tree->Nat|[]=>0|x::xs=>Ub x+Ob xs
end
mutual
def Be:Tree->Nat|.node _ _ _ xs=>Fd xs+1
def Fd:List Tree->Nat|[]=>0|x::xs=>max (Be x) (Fd xs)
end
theorem Ud:∀(xs ys:List Tree),Ob (xs++ys)=Ob xs+Ob ys
  | [],ys=>by simp[Ob]
  | x::xs,ys=>by simp[Ob,Ud xs ys,Nat.add_assoc]
theorem Zi:∀(xs ys:List Tree),Fd (xs++ys)=max (Fd xs) (Fd ys)
  | [],ys=>by simp[Fd]
  | x::xs,ys=>by simp only[List.cons_append,Fd,Zi xs ys];omega
theorem Nx(xs:List Tree)(j:Nat)(hj:j<xs.length):Ob (xs.take (j+1))=Ob (xs.take j)+Ub xs[j]:=by
  rw[iQ hj,Ud];simp[Ob]
theorem St(xs:List Tree)(j:Nat)(hj:j<xs.length):Fd (xs.take (j+1))=max (Fd (xs.take j)) (Be xs[j]):=by
  rw[iQ hj,Zi];simp[Fd]
theorem Ef:∀{xs:List Tree}{x:Tree},x∈xs->Ub x<=Ob xs
  | [],_,h=>absurd h Ua
  | y :: ys, x, h => by
    rw[Ob];rcases oQ.1 h with rfl|h
    ·omega
    have:=Ef h;omega
theorem El(x:Tree):1<=Ub x:=by cases x;rw[Ub];omega
theorem Mj:∀(xs:List Tree),xs.length<=Ob xs
  | []=>by simp[Ob]
  | x::xs=>by have:=Mj xs;have:=El x;simp only[Ob,kQ];omega
theorem ZL(x:Tree):Be x<=Ub x:=by
  refine Tree.ind (Q:=λx=>Be x<=Ub x) (λk t ks xs ih=>?_) x;have:Fd xs<=Ob xs:=by
    induction xs with
    | nil=>simp[Fd,Ob]
    | cons y ys ihy =>
      have h1:=ih y Ua;have h2:=ihy (λz hz=>ih z (by simp[hz]));simp only[Fd,Ob];omega
  simp only[Be,Ub];omega
theorem Zs(xs:List Tree):Fd xs<=Ob xs:=by
  have:=ZL (.node 0 [] [] xs);simp only[Be,Ub]at this;omega
def FM(x:Tree):Prop:=∀S w0 cs,Rep S w0 (Fc x) cs->Calls prog 95 #[.agg cs.toArray] w0 (Vd λv w'=>v=J (wr (Ub x))/\Same [] w0 w')
theorem DH(k:Int)(t:Str)(ks:List Str)(xs:List Tree)(ih:∀x,x∈xs->FM x):FM (.node k t ks xs):=by
 intro S w0 cs hR;obtain⟨A,c,B,e,rfl,-,-,-,hX⟩:=hR.tree_inv;have hXl:=hX.slice_len;refine Ka func95 O ntmps95 Mb (Jc _) ?_;have hF:=FR.start w0 [];refine Ia (Xf hF O ?_);rintro b1 w hb1 hF -;refine Ca (Bc O) (Ec (Ca (Bc O) (Fa (Ha (Ia (Ca (Cd Rc O) (Ed (Mh wQ O hF.F 0 O O) (Ca (Rf qZ O) ?_))))))));refine Ca (Db O) (Fa (Sa ?_));refine Gc (λμ σ w=>∃(j:Nat),μ=xs.length-j/\(j<=xs.length)/\AllEq σ [(3,J (wr (1+Ob (xs.take j)))),(7,.slice B xs.length e),(8,J ((xs.length:Nat))),(9,J ((j:Int)))]/\FR w0 [] [(b1,.cells #[J k,I t,.slice A ks.length c,.slice B xs.length e] 27)] w) _ ⟨0,O,(Nat.zero_le _),Fj,hF⟩ ?_;rintro μ σ w ⟨j,rfl,hj,hs,hF⟩;refine Cg.slots hs ?_;clear hs;intro σ;refine Ia (Ca (Tg O O) (Fa (Ha ?_)));refine Wb O O (λhc0=>?_) (λhc0=>?_);refine Ma (Ga (Ha (Sa (Ia ?_))));obtain⟨ad0,cs0,hA0,hl0,hk0,hx0⟩:=hX.tree_elem (i:=j) U;have ho0:=hx0.one_;refine Ja (v:=.pointer (some (ad0.add (j*4)))) (Qa (i:=(j:Int)) Zh O hA0 O U U) (Ja (v:=.agg (List.toArray cs0)) (Hb (l:=cs0) xQ fZ O hl0 (hF.cells0 hk0)) ?_);refine O4 (l:=cs0) hF vZ (by rw[hl0];exact fZ) (by rw[hl0];rfl) (v:=.agg (List.toArray cs0)) O O (ho0) O ?_;rintro b2 w hb2 hF -;refine Fa (Ea (Ca (Db O) (Ja (v:=.agg (List.toArray cs0)) (Hb (l:=cs0) xQ fZ O hl0 (hF.cellsAll 0 O)) ?_)));refine Ta hF (ih _ (eQ _) _ _ _ (hF.rep hx0)) (Va NR O O) ?_;intro w hF;refine Ja (v:=J (wr (1+Ob (xs.take (j+1))))) (Lr O O (by rw[PG,Nx xs j U,Int.natCast_add,Int.add_assoc])) (Ca (Bc O) (Ra (Ib (Ga (Ea (Ca (Lk O O) (Ca (Db O) (Ra ?_))))))));refine Za ⟨_,?_,j+1,O,U,Fj,hF.drop 1⟩;omega;refine Zb (Vb O ?_);refine Ga (Ia (Ca (Db O) (Ca (Bc O) (Fa ?_))));refine Tc (v:=J (wr (1+Ob (xs.take j)))) O O ?_;obtain rfl:j=xs.length:=by omega
 exact⟨by simp[Ub],hF.same⟩
theorem NV(x:Tree):FM x:=Tree.ind DH x
def CC(x:Tree):Prop:=Ub x<=1000000000->∀S w0 cs,Rep S w0 (Fc x) cs->Calls prog 96 #[.agg cs.toArray] w0 (Vd λv w'=>v=J (Be x:Nat)/\Same [] w0 w')
theorem GB(k:Int)(t:Str)(ks:List Str)(xs:List Tree)(ih:∀x,x∈xs->CC x):CC (.node k t ks xs):=by
 intro hsz S w0 cs hR;obtain⟨A,c,B,e,rfl,-,-,-,hX⟩:=hR.tree_inv;have hXl:=hX.slice_len;have hdl:=Zs xs;rw[Ub]at hsz;refine Ka func96 O ntmps96 Mb (Jc _) ?_;have hF:=FR.start w0 [];refine Ia (Xf hF O ?_);rintro b1 w hb1 hF -;refine Ca (Bc O) (Ec (Ca (Bc O) (Fa (Ha (Ia (Ca (Cd Rc O) (Ed (Mh wQ O hF.F 0 O O) (Ca (Rf qZ O) ?_))))))));refine Ca (Db O) (Fa (Sa ?_));refine Gc (λμ σ w=>∃(j:Nat),μ=xs.length-j/\(j<=xs.length)/\AllEq σ [(3,J ((Fd (xs.take j):Nat))),(7,.slice B xs.length e),(8,J ((xs.length:Nat))),(9,J ((j:Int)))]/\FR w0 [] [(b1,.cells #[J k,I t,.slice A ks.length c,.slice B xs.length e] 27)] w) _ ⟨0,O,(Nat.zero_le _),Fj,hF⟩ ?_;rintro μ σ w ⟨j,rfl,hj,hs,hF⟩;refine Cg.slots hs ?_;clear hs;intro σ;refine Ia (Ca (Tg O O) (Fa (Ha ?_)));refine Wb O O (λhc0=>?_) (λhc0=>?_);refine Ma (Ga (Ha (Sa (Ia ?_))));obtain⟨ad0,cs0,hA0,hl0,hk0,hx0⟩:=hX.tree_elem (i:=j) U;have ho0:=hx0.one_;refine Ja (v:=.pointer (some (ad0.add (j*4)))) (Qa (i:=(j:Int)) Zh O hA0 O U U) (Ja (v:=.agg (List.toArray cs0)) (Hb (l:=cs0) xQ fZ O hl0 (hF.cells0 hk0)) ?_);refine O4 (l:=cs0) hF vZ (by rw[hl0];exact fZ) (by rw[hl0];rfl) (v:=.agg (List.toArray cs0)) O O (ho0) O ?_;rintro b2 w hb2 hF -;refine Fa (Ea (Ca (Db O) (Ja (v:=.agg (List.toArray cs0)) (Hb (l:=cs0) xQ fZ O hl0 (hF.cellsAll 0 O)) ?_)));refine Ta hF (ih _ (eQ _) (by have:=Ef (List.getElem_mem (l:=xs) (n:=j) U);omega) _ _ _ (hF.rep hx0)) (Va DS O O) ?_;intro w hF;refine Ja (v:=J ((Fd (xs.take (j+1)):Nat))) (by rw[<-show max ((Fd (xs.take j):Nat):Int) ((Be xs[j]:Nat):Int)=((Fd (xs.take (j+1)):Nat):Int) from by rw[St xs j U];omega];exact PS O O) ?_;refine Ca (Bc O) (Ra (Ib (Ga (Ea (Ca (Lk O O) (Ca (Db O) (Ra ?_)))))));refine Za ⟨_,?_,j+1,O,U,Fj,hF.drop 1⟩;omega;refine Zb (Vb O ?_);refine Ga (Ia (Ca (Db O) ?_));have eT:xs.take j=xs:=List.take_of_length_le U
 refine Ja (v:=J ((Be (.node k t ks xs):Nat))) (Lr O O (by rw[eT,Be];exact Qf U U U)) ?_;refine Ca (Bc O) (Fa ?_);refine Tc (v:=J ((Be (.node k t ks xs):Nat))) O O ?_;exact⟨O,hF.same⟩
theorem DP(x:Tree):CC x:=Tree.ind GB x
theorem Same.cell{w w':World}{a:Addr}{v:Value}(h:Same [] w w')(hc:w.cell? a=some v):w'.cell? a=some v:=((FR.start w []).ext h).cell0 hc
mutual
def Me(q:Tree->Bool):Tree->Bool|.node k t ks xs=>q (.node k t ks xs)&&Pr q xs
def Pr(q:Tree->Bool):List Tree->Bool|[]=>true|x::xs=>Me q x&&Pr q xs
end
theorem Kn(q:Tree->Bool):∀xs:List Tree,Pr q xs = !(xs.any λx=>!Me q x)
  | []=>rfl
  | x::xs=>by rw[Pr,Kn q xs];simp
def EachC(w0:World)(bb:Nat)(xs:List Tree)(q:Tree->Bool):Prop:=∀x,x∈xs->∀S w cs,Same [] w0 w->Rep S w (Fc x) cs->Calls prog 97 #[.agg cs.toArray,V bb] w (Vd λv w'=>v=.bool (q x)/\Same [] w w')
theorem EachC.ext{w0 w:World}{bb:Nat}{xs:List Tree}{q:Tree->Bool}(h:EachC w0 bb xs q)(hs:Same [] w0 w):EachC w bb xs q:=λx hx S w' cs hw=>h x hx S w' cs (hs.trans hw)
theorem B3{q:Tree->Bool}{xs:List Tree}{j:Nat}(h:j<xs.length)(hn:(xs.take j).any q=false)(hq:q xs[j]=false):(xs.take (j+1)).any q=false:=by
  rw[iQ h,List.any_append,hn];simp[hq]
def Ft(g:Nat)(q:Tree->Bool)(x:Tree):Prop:=∀S w0 cs,Rep S w0 (Fc x) cs->H2 x->Gl w0->Calls prog 66 #[.agg cs.toArray,.func (.func g) #[] #[]] w0 (Vd λv w'=>v=.bool (Me q x)/\Same [] w0 w')
theorem F9(xs:List Tree)(q:Tree->Bool)(bb:Nat)(B:Option Addr)(e:Nat)(S:Nat->Prop)(w0:World)(hX:Rep S w0 (.slice (Ke xs)) [.slice B xs.length e])(hq:EachC w0 bb xs q):Calls prog 121 #[.slice B xs.length e,.func (.func 97) #[] #[V bb]] w0 (Vd λv w'=>∃n:Int,v=J n/\decide (0<=n)=xs.any q/\Same [] w0 w'):=by
 have hXl:=hX.slice_len;refine Ka func121 O ntmps121 Mb (Ae _ _) ?_;have hF:=FR.start w0 [];refine Ia (Ca (Bc O) (Fa (Ha (Ia (Ca (Kd O) (Ca (Rf qZ O) (Ca (Db O) (Fa (Sa ?_)))))))));refine Gc (λμ σ w=>∃(j:Nat),μ=xs.length-j/\(j<=xs.length)/\((xs.take j).any q=false)/\AllEq σ [(0,.slice B xs.length e),(1,.func (.func 97) #[] #[.pointer (some (⟨bb,0,none⟩))]),(7,J ((xs.length:Nat))),(8,J ((j:Int)))]/\FR w0 [] [] w) _ ⟨0,O,(Nat.zero_le _),Ua,Fj,hF⟩ ?_;rintro μ σ w ⟨j,rfl,hj,hn,hs,hF⟩;refine Cg.slots hs ?_;clear hs;intro σ;refine Ia (Ca (Tg O O) (Fa (Ha ?_)));refine Wb O O (λhc0=>?_) (λhc0=>?_);refine Ma (Ga (Ha (Sa (Ia (Ca (Db O) (Ca (Bc O) (Ec (Ca (Ru) (Ca (Kd O) ?_)))))))));refine Ca (Db O) ?_;obtain⟨ad0,cs0,hA0,hl0,hk0,hx0⟩:=hX.tree_elem (i:=j) U;have ho0:=hx0.one_;refine Ja (v:=.pointer (some (ad0.add (j*4)))) (Qa (i:=(j:Int)) Zh O hA0 O U U) (Ja (v:=.agg (List.toArray cs0)) (Hb (l:=cs0) xQ fZ O hl0 (hF.cells0 hk0)) ?_);refine Ta hF (hq _ (List.getElem_mem (l:=xs) (n:=j) U) _ _ _ hF.same (hF.rep hx0)) (Ui O ZW O O) ?_;intro w hF;refine Fa (Je O O (λhc1=>?_) (λhc1=>?_));refine Ia (Ca (Db O) (Ca (Bc O) (Fa ?_)));refine Tc (v:=J ((j:Int))) O O ?_;exact⟨_,O,by rw[List.any_eq_true.2 ⟨_,List.getElem_mem (l:=xs) (n:=j) U,hc1⟩];simp,hF.same⟩;refine Ma (Ib (Ga (Ea (Ca (Lk O O) (Ca (Db O) (Ra ?_))))));refine Za ⟨_,?_,j+1,O,U,(B3 U hn hc1),Fj,hF⟩;omega;refine Zb (Vb O ?_);refine Ga (Ia (Ca (Bc O) (Fa ?_)));refine Tc (v:=J ((-1))) O O ?_;have eT:xs.take j=xs:=List.take_of_length_le U;rw[eT]at hn;exact⟨_,O,by rw[hn];decide,hF.same⟩
theorem Xp(xs:List Tree)(q:Tree->Bool)(bb:Nat)(B:Option Addr)(e:Nat)(S:Nat->Prop)(w0:World)(hX:Rep S w0 (.slice (Ke xs)) [.slice B xs.length e])(hq:EachC w0 bb xs q):Calls prog 81 #[.slice B xs.length e,.func (.func 97) #[] #[V bb]] w0 (Vd λv w'=>v=.bool (xs.any q)/\Same [] w0 w'):=by
 refine Ka func81 O ntmps81 Mb (Ae _ _) ?_;have hF:=FR.start w0 [];refine Ia (Ca (Eb O) (Ec (Ca (Kd O) (Ca (Ru) ?_))));refine Kc (F9 xs q bb B e S _ (hF.rep hX) (hq.ext hF.same)) (Qb LJ O O O) ?_;rintro _ w ⟨n,rfl,hn,hE⟩;have hF:=hF.ext hE;refine Ca (Gt O O) (Ca (Eb O) (Fa ?_));refine Tc (v:=.bool _) O O ?_;exact⟨congrArg Value.bool hn,hF.same⟩
theorem G3(g:Nat)(q:Tree->Bool)(x:Tree)(h:Ft g q x)(bb:Nat)(S:Nat->Prop)(w0:World)(cs:List Value)(hR:Rep S w0 (Fc x) cs)(hk:H2 x)(hG:Gl w0)(hb:w0.cell? ⟨bb,0,none⟩=some (.func (.func g) #[] #[])):Calls prog 97 #[.agg cs.toArray,V bb] w0 (Vd λv w'=>v=.bool (!Me q x)/\Same [] w0 w'):=by
 have hl:cs.length=4:=hR.length.trans (Id x);have ho:=hR.one_;refine Ka func97 O ntmps97 Mb (Ae _ _) ?_;have hF:=FR.start w0 [];refine Ia (Ip (v:=.agg (List.toArray cs)) (cs:=(List.toArray cs)) hF O O ?_);rintro b1 w hb1 hF -;refine Ca (Eb O) (Ec (Ja (v:=.agg (List.toArray cs)) (Hb (l:=cs) xQ fZ O hl (hF.cellsAll 0 O)) (Ja (v:=.func (.func g) #[] #[]) (Oc isAgg53 O (hF.cell0 hb)) ?_)));refine Ta hF (h S _ cs (hF.rep hR) hk (hG.ext hF.same)) (Qb HJ O O O) ?_;intro w hF;refine Ca (Bi O) (Ca (Eb O) (Fa ?_));refine Tc (v:=.bool _) O O ?_;exact⟨O,hF.same⟩
theorem L5(q:Tree->Bool)(hp:E4 74 q)(k:Int)(t:Str)(ks:List Str)(xs:List Tree)(ih:∀x,x∈xs->Ft 74 q x):Ft 74 q (.node k t ks xs):=by
 intro S w0 cs hR hk hG;have hk':=hk;rw[H2]at hk';obtain⟨A,c,B,e,rfl,-,-,hK,hX⟩:=hR.tree_inv;refine Ka func66 O ntmps66 Mb (Ae _ _) ?_;have hF:=FR.start w0 [];refine Ia (Xf hF O ?_);rintro b1 w hb1 hF -;refine YM (.func (.func 74) #[] #[]) hF O ?_;rintro b2 w hb2 hF -;refine Ca (Eb O) (Ec (Ed (PZ isAgg53 O hF.F 0 O O) (Ed (Ej xQ fZ O hF.F 1 O O) ?_)));refine Ta hF (hp (.node k t ks xs) S _ _ (hF.rep hR) hk (hG.ext hF.same)) (Ui O NZ O O) ?_;intro w hF;refine Ca (Xb O) (Uc (d:=8) O (λhg0=>?_) (λhg0=>?_));refine Ca (Cd Rc O) (Ed (Mh wQ O hF.F 1 O O) (Ja (v:=.func (.func 97) #[] #[V b2]) (To O) ?_));refine Ta hF (Xp xs (λx=>!Me q x) b2 B e S _ (hF.rep hX) (λx hx S' w' cs' hs hr=>G3 74 q x (ih x hx) b2 S' w' cs' hr (Bz hk'.2.2 x hx) ((hG.ext hF.same).ext hs) (hs.cell (hF.cell 0 O O)))) (Qb QM O O O) ?_;intro w hF;refine Ca (Bi O) (Ca (Rb O O) (Ca (Eb O) (Fa ?_)));refine Tc (v:=.bool _) O O ⟨?_,hF.same⟩;rw[Me,Kn];simp_all;refine Da (Da (Da (Da (Da (Ca (Jb O O) (Ca (Eb O) (Fa ?_)))))));refine Tc (v:=.bool false) O O ⟨?_,hF.same⟩;rw[Me,Kn];simp_all
theorem OF(q:Tree->Bool)(hp:E4 74 q)(x:Tree):Ft 74 q x:=Tree.ind (L5 q hp) x
theorem H6(q:Tree->Bool)(hp:E4 67 q)(k:Int)(t:Str)(ks:List Str)(xs:List Tree)(ih:∀x,x∈xs->Ft 67 q x):Ft 67 q (.node k t ks xs):=by
 intro S w0 cs hR hk hG;have hk':=hk;rw[H2]at hk';obtain⟨A,c,B,e,rfl,-,-,hK,hX⟩:=hR.tree_inv;refine Ka func66 O ntmps66 Mb (Ae _ _) ?_;have hF:=FR.start w0 [];refine Ia (Xf hF O ?_);rintro b1 w hb1 hF -;refine YM (.func (.func 67) #[] #[]) hF O ?_;rintro b2 w hb2 hF -;refine Ca (Eb O) (Ec (Ed (PZ isAgg53 O hF.F 0 O O) (Ed (Ej xQ fZ O hF.F 1 O O) ?_)));refine Ta hF (hp (.node k t ks xs) S _ _ (hF.rep hR) hk (hG.ext hF.same)) (Ui O TS O O) ?_;intro w hF;refine Ca (Xb O) (Uc (d:=8) O (λhg0=>?_) (λhg0=>?_));refine Ca (Cd Rc O) (Ed (Mh wQ O hF.F 1 O O) (Ja (v:=.func (.func 97) #[] #[V b2]) (To O) ?_));refine Ta hF (Xp xs (λx=>!Me q x) b2 B e S _ (hF.rep hX) (λx hx S' w' cs' hs hr=>G3 67 q x (ih x hx) b2 S' w' cs' hr (Bz hk'.2.2 x hx) ((hG.ext hF.same).ext hs) (hs.cell (hF.cell 0 O O)))) (Qb QM O O O) ?_;intro w hF;refine Ca (Bi O) (Ca (Rb O O) (Ca (Eb O) (Fa ?_)));refine Tc (v:=.bool _) O O ⟨?_,hF.same⟩;rw[Me,Kn];simp_all;refine Da (Da (Da (Da (Da (Ca (Jb O O) (Ca (Eb O) (Fa ?_)))))));refine Tc (v:=.bool false) O O ⟨?_,hF.same⟩;rw[Me,Kn];simp_all
theorem XG(q:Tree->Bool)(hp:E4 67 q)(x:Tree):Ft 67 q x:=Tree.ind (H6 q hp) x
def rnodeB(x:Tree):Bool:=decide (x.kind≠7)&&nodeB x
def Ok(x:Tree):Bool:=decide (Ub x<=4096)&&decide (Be x<=32)
def Zk(x:Tree):Bool:=Ok x&&Me nodeB x
def Jd(x:Tree):Bool:=Ok x&&Me rnodeB x
theorem TL{n:Nat}(h:n<=1000000000):wr (n:Int)=(n:Int):=Mg U U
theorem VP  : E4 74 rnodeB:=by
 rintro⟨k,t,ks,xs⟩ S w0 cs hR hk hG;obtain⟨A,c,B,e,rfl,-,-,hK,hX⟩:=hR.tree_inv;refine Ka func74 O ntmps74 Mb (Jc _) ?_;have hF:=FR.start w0 [];refine Ia (Xf hF O ?_);rintro b1 w hb1 hF -;refine Ca (Eb O) (Ec (Ca (Cd Pf O) (Ed (Jq yQ O hF.F 0 O O) (Ca (Ep O O) (Ca (Xb O) ?_)))));refine Xa (d:=6) O (λhg0=>?_) (λhg0=>?_);refine Ed (Ej xQ fZ O hF.F 0 O O) (Ta hF (OK (.node k t ks xs) S _ _ (hF.rep hR) hk (hG.ext hF.same)) (Va TS O O) ?_);intro w hF;refine Ca (Rb O O) (Ca (Eb O) (Fa ?_));refine Tc (v:=.bool _) O O ⟨?_,hF.same⟩;simp_all[rnodeB,Tree.kind];refine Da (Da (Ca (Jb O O) (Ca (Eb O) (Fa ?_))));refine Tc (v:=.bool false) O O ⟨?_,hF.same⟩;simp_all[rnodeB,Tree.kind]
theorem YT(x:Tree)(hsz:Ub x<=1000000000)(S:Nat->Prop)(w0:World)(cs:List Value)(hR:Rep S w0 (Fc x) cs):Calls prog 95 #[.agg cs.toArray] w0 (Vd λv w'=>v=J (Ub x:Nat)/\Same [] w0 w'):=by
  have h:=NV x S w0 cs hR
  rwa [TL hsz]at h
theorem GF(x:Tree)(hsz:Ub x<=1000000000)(S:Nat->Prop)(w0:World)(cs:List Value)(hR:Rep S w0 (Fc x) cs):Calls prog 65 #[.agg cs.toArray] w0 (Vd λv w'=>v=.bool (Ok x)/\Same [] w0 w'):=by
 have hl:cs.length=4:=hR.length.trans (Id x);have ho:=hR.one_;refine Ka func65 O ntmps65 Mb (Jc _) ?_;have hF:=FR.start w0 [];refine Ia (Ip (v:=.agg (List.toArray cs)) (cs:=(List.toArray cs)) hF O O ?_);rintro b1 w hb1 hF -;refine Ca (Eb O) (Ec (Ja (v:=.agg (List.toArray cs)) (Hb (l:=cs) xQ fZ O hl (hF.cellsAll 0 O)) ?_));refine Ta hF (YT x hsz S _ cs (hF.rep hR)) (Va NR O O) ?_;intro w hF;refine Ca (Sx O O) (Ca (Xb O) ?_);refine Xa (d:=6) O (λhg0=>?_) (λhg0=>?_);refine Ja (v:=.agg (List.toArray cs)) (Hb (l:=cs) xQ fZ O hl (hF.cellsAll 0 O)) (Ta hF (DP x hsz S _ cs (hF.rep hR)) (Va DS O O) ?_);intro w hF;refine Ca (Sx O O) (Ca (Rb O O) (Ca (Eb O) (Fa ?_)));refine Tc (v:=.bool _) O O ⟨congrArg Value.bool ?_,hF.same⟩;unfold Ok
 first|(rw[decide_eq_true (by omega:Ub x<=4096)];exact decide_eq_decide.2 U)|(rw[decide_eq_false (by omega:¬Ub x<=4096)];rfl)
 refine Da (Da (Da (Ca (Jb O O) (Ca (Eb O) (Fa ?_)))));refine Tc (v:=.bool false) O O ⟨congrArg Value.bool ?_,hF.same⟩;unfold Ok
 first|(rw[decide_eq_true (by omega:Ub x<=4096)];exact decide_eq_decide.2 U)|(rw[decide_eq_false (by omega:¬Ub x<=4096)];rfl)
theorem BD(x:Tree)(hsz:Ub x<=1000000000)(S:Nat->Prop)(w0:World)(cs:List Value)(hR:Rep S w0 (Fc x) cs)(hk:H2 x)(hG:Gl w0):Calls prog 49 #[.agg cs.toArray] w0 (Vd λv w'=>v=.bool (Jd x)/\Same [] w0 w'):=by
 have hl:cs.length=4:=hR.length.trans (Id x);have ho:=hR.one_;refine Ka func49 O ntmps49 Mb (Jc _) ?_;have hF:=FR.start w0 [];refine Ia (Ip (v:=.agg (List.toArray cs)) (cs:=(List.toArray cs)) hF O O ?_);rintro b1 w hb1 hF -;refine Ca (Eb O) (Ec (Ja (v:=.agg (List.toArray cs)) (Hb (l:=cs) xQ fZ O hl (hF.cellsAll 0 O)) ?_));refine Ta hF (GF x hsz S _ cs (hF.rep hR)) (Va KR O O) ?_;intro w hF;refine Ca (Xb O) (Uc (d:=5) O (λhg0=>?_) (λhg0=>?_));refine Ja (v:=.agg (List.toArray cs)) (Hb (l:=cs) xQ fZ O hl (hF.cellsAll 0 O)) (Ta hF (OF rnodeB VP x S _ cs (hF.rep hR) hk (hG.ext hF.same)) (Qb HJ O O O) ?_);intro w hF;refine Ca (Rb O O) (Ca (Eb O) (Fa ?_));refine Tc (v:=.bool _) O O ?_;exact⟨congrArg Value.bool (by unfold Jd;simp_all),hF.same⟩;refine Da (Da (Ca (Jb O O) (Ca (Eb O) (Fa ?_))));refine Tc (v:=.bool false) O O ?_;exact⟨congrArg Value.bool (by unfold Jd;simp_all),hF.same⟩
theorem Z5(x:Tree)(hsz:Ub x<=1000000000)(S:Nat->Prop)(w0:World)(cs:List Value)(hR:Rep S w0 (Fc x) cs)(hk:H2 x)(hG:Gl w0):Calls prog 45 #[.agg cs.toArray] w0 (Vd λv w'=>v=.bool (Zk x)/\Same [] w0 w'):=by
 have hl:cs.length=4:=hR.length.trans (Id x);have ho:=hR.one_;refine Ka func45 O ntmps45 Mb (Jc _) ?_;have hF:=FR.start w0 [];refine Ia (Ip (v:=.agg (List.toArray cs)) (cs:=(List.toArray cs)) hF O O ?_);rintro b1 w hb1 hF -;refine Ca (Eb O) (Ec (Ja (v:=.agg (List.toArray cs)) (Hb (l:=cs) xQ fZ O hl (hF.cellsAll 0 O)) ?_));refine Ta hF (GF x hsz S _ cs (hF.rep hR)) (Va KR O O) ?_;intro w hF;refine Ca (Xb O) (Uc (d:=5) O (λhg0=>?_) (λhg0=>?_));refine Ja (v:=.agg (List.toArray cs)) (Hb (l:=cs) xQ fZ O hl (hF.cellsAll 0 O)) (Ta hF (XG nodeB OK x S _ cs (hF.rep hR) hk (hG.ext hF.same)) (Qb HJ O O O) ?_);intro w hF;refine Ca (Rb O O) (Ca (Eb O) (Fa ?_));refine Tc (v:=.bool _) O O ?_;exact⟨congrArg Value.bool (by unfold Zk;simp_all),hF.same⟩;refine Da (Da (Ca (Jb O O) (Ca (Eb O) (Fa ?_))));refine Tc (v:=.bool false) O O ?_;exact⟨congrArg Value.bool (by unfold Zk;simp_all),hF.same⟩
end Go.Scarf
