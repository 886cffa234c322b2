/- A part of the proof. -/
import Derived.Test.YtidlkjpohhbbcaaGreatDoorRow
import Derived.Lib.ValidLaws
import Derived.Lib.TrimUEq
import Derived.Lib.MapLaws
set_option linter.all false
set_option maxHeartbeats 8000000
set_option maxRecDepth 10000
namespace Go.Scarf
open Go.RowKit Go.Proofs Go.Proofs.Tryz
def Pj(s:Str):Bool:=decide ((Kc s).2=0)&&decide (Rg (Kc s).1=s)
def Ou(s:Str):Bool:=Pj s&&(Vr (Kc s).1).2&&decide (0<=(Vr (Kc s).1).1)
theorem FD(s:Str):Lc (Kc s).1=true:=by
  rw[Sh]
  repeat' split
  all_goals first|rfl|simp_all
theorem Ah(s:Str):(Kc s).1.digits.length<=1000:=(Wc (FD s)).1
theorem Uk(s:Str)(q:Nat):Lib.decodeL (s.drop q)=Utf8.decode (bs s) q:=Lib.decodeL_drop (bs s) q
theorem Jg(s:Str)(q:Nat):1<=(Utf8.decode (bs s) q).2:=by rw[<-Uk];exact Lib.decodeL_width _
theorem Lp(s:Str)(q:Nat)(h:q<s.length):q+(Utf8.decode (bs s) q).2<=s.length:=by
  have:=Lib.decodeL_le (s.drop q) (by rw[ne_eq,List.drop_eq_nil_iff];omega);rw[Uk,List.length_drop]at this;omega
theorem F7(s:Str)(q:Nat)(h:q<s.length)(hv:Lib.validD (s.drop q)=false)(hn:¬((Utf8.decode (bs s) q).1=65533/\(Utf8.decode (bs s) q).2=1)):Lib.validD (s.drop (q+(Utf8.decode (bs s) q).2))=false:=by
  rw[Lib.validD_step _ (by rw[ne_eq,List.drop_eq_nil_iff];omega),Uk,if_neg hn,List.drop_drop]at hv;exact hv
theorem Px(s:Str)(q:Nat)(h:q<s.length):Lib.decodeGo (bs (s.drop q))=Utf8.decode (bs s) q:=by
  have h1:(bs (s.drop q)).size≠0:=by rw[Ao,List.length_drop];omega
  rw[Lib.decodeGo,if_neg h1];exact Uk s q
theorem BA(s:Str)(hl:s.length<=140737488355328){w:World}(hG:Gl w):Calls prog 124 #[I s] w (Yc λv w'=>v=.bool (Lib.validD s)/\Same [] w w') :=
  Fx (utf8_ValidString (bs s) w (by rw[Ao];omega) hG.tabs)
theorem Iz(s:Str){w:World}(hG:Gl w):Calls prog 125 #[I s] w (Yc λv w'=>v=.tuple #[.int .i32 (Lib.decodeGo (bs s)).1,J (Lib.decodeGo (bs s)).2]/\Same [] w w') :=
  Fx (utf8_DecodeRuneInString (bs s) w hG.tabs)
theorem OD(s:Str)(hl:s.length<=140737488355328)(w0:World)(hG:Gl w0):Calls prog 78 #[I s] w0 (Yc λv w'=>∃n,v=.tuple #[J n,.bool (Lib.validD s)]/\Same [] w0 w'):=by
 refine Fa func78 O ntmps78 Ab (Wb _) ?_;have hF:=FR.start w0 [];refine Ea (Ba (Fb O) (Ba (Kb O) (Da (Ga (Ea (Ba (Ad O) ?_))))));refine Pa hF (BA s hl (hG.ext hF.same)) (Ma en_124 O O) ?_;intro w hF;refine Da (Jd O O (λhc0=>?_) (λhc0=>?_))
 ·
  refine Ea (Ba (Ad O) (Ba (Sk kX O) (Ba (Fb O) (Ba (Kb O) (Da ?_)))));refine Db (Cb (La (Oc (v:=J ((((s):Str).length:Int))) (x:=.bool true) O O O) ?_));exact⟨_,by rw[hc0],hF.same⟩
 refine Ka (Ha (Ga (Ea (Ba (Ad O) ?_))));refine O0 (str:=s) hF kX O ?_;rintro b1 w hb1 hF -;refine Da (Qa ?_);refine Fc (λμ σ w=>∃(q:Nat),μ=s.length-q/\(q<=s.length)/\(Lib.validD (s.drop q)=false)/\AllEq σ [(0,I s),(13,V b1)]/\FR w0 [] [(b1,.stringIter (bs s) (q))] w) _ ⟨0,O,(Nat.zero_le _),(by simpa using hc0),Rq,hF⟩ ?_;rintro μ σ w ⟨q,rfl,hq,hv,hs,hF⟩;refine Cg.slots hs ?_;clear hs;intro σ;refine Ea ?_;by_cases hn0:(q)<(s:Str).length
 ·
  refine F6 0 (p:=q) (str:=s) hF O O hn0 ?_;rintro w hF -;refine Ba (Ym O O) (Da (Ga (Yd O (Ka (Ha (Qa (Ea (Ba (Rj O O) (Ba (Rj O O) (Ba (Fb O) (Ba (Fb O) ?_)))))))))));refine Da (Ga (Ea (Ba (Za O) (Ba (Wm O O) (Da ?_)))));refine Jb O O (λhc2=>?_) (λhc2=>?_)
  ·
   refine Bc (Yb O ?_);have h1:=Jg s q;have hw:¬((Utf8.decode (bs s) q).1=65533/\(Utf8.decode (bs s) q).2=1):=by
     first
     | (intro hh;omega)
     | (rw[Px s q Aa]at hc3;intro hh;omega)
   refine Ta ⟨_,?_,q+(Utf8.decode (bs s) q).2,O,(Lp s q Aa),(F7 s q Aa hv hw),Rq,hF⟩;omega
  refine Ka (Ha (Ea (Ba (Ad O) (Ba (Za O) (Ia (v:=I ((s:Str).drop (q))) (Dl (q) kX O O Aa) ?_)))));refine Pa hF (Iz (s.drop q) (hG.ext hF.same)) (Ma en_125 O O) ?_;intro w hF;refine Ba (Mj O) (Ba (Rj O O) (Ba (Rj O O) (Ba (Fb O) (Ba (Fb O) (Lb (Ba (Za O) (Ba (Of O O) (Da ?_))))))));refine Jb O O (λhc3=>?_) (λhc3=>?_)
  ·
   refine Ea (Ba (Za O) (Ba (Fb O) (Ba (Kb O) (Da ?_))));refine Db (Cb (La (Oc (v:=J (((q:Nat):Int))) (x:=.bool false) O O O) ?_));exact⟨_,by rw[hc0],hF.same⟩
  refine Ka (Ya ?_);have h1:=Jg s q;have hw:¬((Utf8.decode (bs s) q).1=65533/\(Utf8.decode (bs s) q).2=1):=by
    first
    | (intro hh;omega)
    | (rw[Px s q Aa]at hc3;intro hh;omega)
  refine Ta ⟨_,?_,q+(Utf8.decode (bs s) q).2,O,(Lp s q Aa),(F7 s q Aa hv hw),Rq,hF⟩;omega
 refine It 0 (p:=q) (str:=s) hF O O hn0 (Ba (Ym O O) (Da (Ga (Zd O ?_))));refine Bc (Yb O ?_);refine Ha (Ea (Ba (Ad O) (Ba (Sk kX O) (Ba (Fb O) (Ba (Kb O) (Da ?_))))));refine Db (Cb (La (Oc (v:=J ((((s):Str).length:Int))) (x:=.bool true) O O O) ?_));have e:s.drop q=[]:=List.drop_eq_nil_of_le Aa;rw[e]at hv;cases hv
theorem RS(s:Str)(hl:s.length<=140737488355328)(w0:World)(hG:Gl w0):Calls prog 194 #[I s] w0 (Yc λv w'=>v=.bool (Lib.validD s)/\Same [] w0 w'):=by
 refine Fa func194 O ntmps194 Ab (Wb _) ?_;have hF:=FR.start w0 [];refine Ea (Ba (Kb O) (Lb (Ba (Ad O) ?_)));refine Eb (OD s hl _ (hG.ext hF.same)) (Ma en_78 O O) ?_;rintro _ w ⟨n,rfl,hE⟩;have hF:=hF.ext hE;refine Ba (Mj O) (Ba (Rj O O) (Ba (Ym O O) (Ba (Fb O) (Ba (Kb O) (Lb (Ba (Dc O) (Ba (Kb O) (Da ?_))))))));refine Gc (v:=.bool _) O O ?_;exact⟨O,hF.same⟩
theorem Vw(s:Str)(hl:s.length<=140737488355328)(w0:World)(hG:Gl w0):Calls prog 131 #[I s] w0 (Yc λv w'=>v=.tuple #[Kk (Kc s).1,.bool (Pj s)]/\Same [] w0 w'):=by
 refine Fa func131 O ntmps131 Ab (Wb _) ?_;have hF:=FR.start w0 [];refine Ea (Pc (cs:=#[.bool false,I [],J 0]) hF tX O ?_);rintro b1 w hb1 hF -;refine Ba (Kb O) (Lb (Ba (Ad O) ?_));refine Pa hF (H1 s hl _) (Ma V7 O O) ?_;intro w hF;refine Ba (Mj O) (Ba (Gt O O) (Ba (Rj O O) ?_));refine If hF tX tZ O ?_;rintro b2 w hb2 hF -;refine Ba (Fb O) (Da (Ga ?_));refine Md (.of []) (bQ [0,1,2,3,4,6] (.act 5 (.free 7 (.free 8 (.act 9 (.free 10 .nil)))))) hF ?_;rintro w hF -;refine⟨λwq=>FR w0 [] [(b2,.cells #[.bool ((Kc s).1.neg),I ((Kc s).1.digits),J ((Kc s).1.exp)] 90)] wq,hF.sub (.cons_cons _ (.cons _ .slnil)),?_⟩;refine Ng O (Bf jZ tZ O C0 0 O O) (Ib O (Za O) (Ib O (Of O O) (Ib O (Dc O) ?_)));refine Xp (d:=14) O (λhg0=>?_) (λhg0=>?_);refine Ng O (Bf jZ tZ O C0 0 O O) (Ib O (Ad O) ?_);refine Vd hF (WE (Kc s).1 (by have:=Ah s;omega) _ (hG.ext hF.same)) O (Ma US O O) ?_;intro w hF;refine⟨hF.sub (.cons_cons _ (.cons _ .slnil)),?_⟩;refine Ib O (Ry O O) (Ib O (Rb O O) ?_);refine Gx O hF tZ O O Tr ?_;rintro w hF -;refine⟨hF.sub (.cons_cons _ (.cons _ .slnil)),?_⟩;refine Ib O (Kb O) (Ic (Ha ?_));refine Db (Cb (La (Ld O (l:=[.bool ((Kc s).1.neg),I ((Kc s).1.digits),J ((Kc s).1.exp)]) O jZ tZ O (hF.cellsAll 1 O) (v:=.bool (decide ((Rg (Kc s).1:Str)=s))) O) ?_));exact⟨by simp_all[Pj,Kk],hF.same⟩;refine Ub O (Ub O ?_);refine K2 O ?_ (hF.sub (.cons_cons _ (.cons _ .slnil)));refine Ub O (Ib O (Pb O O) ?_);refine Gx O hF tZ O O Tr ?_;rintro w hF -;refine⟨hF.sub (.cons_cons _ (.cons _ .slnil)),?_⟩;refine Ib O (Kb O) (Ic (Ha ?_));refine Db (Cb (La (Ld O (l:=[.bool ((Kc s).1.neg),I ((Kc s).1.digits),J ((Kc s).1.exp)]) O jZ tZ O (hF.cellsAll 1 O) (v:=.bool false) O) ?_));exact⟨by simp_all[Pj,Kk],hF.same⟩
theorem hole_c(s:Str)(hl:s.length<=140737488355328)(w0:World)(hG:Gl w0):Calls prog 195 #[I s] w0 (Yc λv w'=>v=.bool (Ou s)/\Same [] w0 w'):=by
 refine Fa func195 O ntmps195 Ab (Wb _) ?_;have hF:=FR.start w0 [];refine Ea (Ba (Kb O) (Lb (Ba (Ad O) ?_)));refine Pa hF (Vw s hl _ (hG.ext hF.same)) (Ma SD O O) ?_;intro w hF;refine Ba (Mj O) (Ba (Gt O O) (Ba (Ym O O) ?_));refine If hF tX tZ O ?_;rintro b1 w hb1 hF -;refine Ba (Kb O) (Lb (Xb (Bf jZ tZ O hF.F 0 O O) ?_));refine Pa hF (VK (Kc s).1 (by have:=Ah s;omega) _ (hG.ext hF.same)) (Ma en_222 O O) ?_;intro w hF;refine Ba (Mj O) (Ba (Rj O O) (Ba (Ym O O) (Ba (Fb O) (Ba (Kb O) (Lb (Ba (Dc O) (Ba (Dc O) ?_)))))));refine Sc (d:=18) O (λhg0=>?_) (λhg0=>?_);refine Ba (Dc O) (Ba (Rb O O) (Ba (Dc O) ?_));refine Sc (d:=21) O (λhg1=>?_) (λhg1=>?_);refine Ba (Za O) (Ba (Vx O O) (Ba (Rb O O) (Ba (Kb O) (Da ?_))));refine Gc (v:=.bool _) O O ?_;exact⟨by simp_all[Ou],hF.same⟩;refine Ca (Ca (Ba (Pb O O) (Ba (Kb O) (Da ?_))));refine Gc (v:=.bool false) O O ?_;exact⟨by simp_all[Ou],hF.same⟩;refine Ca (Ba (Pb O O) (Ba (Dc O) (Ca (Ca (Ba (Pb O O) (Ba (Kb O) (Da ?_)))))));refine Gc (v:=.bool false) O O ?_;exact⟨by simp_all[Ou],hF.same⟩
def Om(ks:List Str)(n:Int):Bool:=decide ks.Nodup&&ks.all Lib.validD&&decide ((ks.length:Int)=n)
def Rz(ks:List Str):MapL:=ks.map λk=>(k,.bool true)
theorem H8(ks:List Str)(k:Str):Wh (Rz ks) k=if k∈ks then some (.bool true) else none:=by
  induction ks with
  | nil=>rfl
  | cons a r ih =>
    have e:Rz (a::r)=[(a,.bool true)]++Rz r:=rfl;rw[e,ZC,ih];by_cases h:a=k
    ·subst h;simp[Wh]
    have h' : ¬ k = a := λe => h e.symm;simp[Wh,h,h']
theorem ZQ(ks:List Str)(j:Nat)(h:j<ks.length):Rz (ks.take j)++[(ks[j],.bool true)]=Rz (ks.take (j+1)):=by
  unfold Rz;rw[iQ h,jQ];rfl
theorem Nu{ks:List Str}{j:Nat}(h:j<ks.length)(hn:(ks.take j).Nodup)(hi:¬ks[j]∈ks.take j):(ks.take (j+1)).Nodup:=by
  rw[iQ h,List.nodup_append];refine⟨hn,by simp,?_⟩;intro a ha b hb e;simp only[pQ]at hb;subst e;subst hb;exact hi ha
theorem Et{ks:List Str}{j:Nat}(h:j<ks.length)(hi:ks[j]∈ks.take j):¬ks.Nodup:=by
  intro hn;obtain⟨i,hi',he⟩:=List.getElem_of_mem hi;rw[List.getElem_take]at he;have hi2:i<j:=by rw[List.length_take]at hi';omega
  have:=(List.pairwise_iff_getElem.1 hn) i j Aa h hi2;exact this he
theorem Qx{f:Str->Bool}{ks:List Str}{j:Nat}(h:j<ks.length)(ha:(ks.take j).all f=true)(hv:f ks[j]=true):(ks.take (j+1)).all f=true:=by
  rw[iQ h,List.all_append,ha];simp[hv]
theorem QR{f:Str->Bool}{ks:List Str}{j:Nat}(h:j<ks.length)(hv:f ks[j]=false):ks.all f=false:=by
  rw[Bool.eq_false_iff];intro ha;have:=List.all_eq_true.1 ha ks[j] (eQ h);rw[hv]at this;cases this
theorem keyed_c(ks:List Str)(n:Int)(S:Nat->Prop)(A:Option Addr)(c:Nat)(hl:∀k∈ks,k.length<=140737488355328)(w0:World)(hG:Gl w0)(hX:Rep S w0 (Oh ks) [.slice A ks.length c]):Calls prog 193 #[.slice A ks.length c,J n] w0 (Yc λv w'=>v=.bool (Om ks n)/\Same [] w0 w'):=by
 have hXl:=hX.slice_len;refine Fa func193 O ntmps193 Ab (Uc _ _) ?_;have hF:=FR.start w0 [];refine Ea (Ba (Kb O) (Lb (Ba (Hd O) (Ba (Nf cX O) ?_))));refine Nx (v:=λb=>.map (some b)) hF (QB underlying199 O) ?_;rintro b1 w hb1 hF -;refine Ba (O2) (Da (Ga (Ea (Ba (Hd O) (Ba (Nf cX O) (Ba (Za O) (Da (Qa ?_))))))));have hF:FR w0 [] [(b1,Si (Rz (ks.take 0)))] w:=hF;refine Fc (λμ σ w=>∃(j:Nat),μ=ks.length-j/\(j<=ks.length)/\((ks.take j).Nodup)/\((ks.take j).all Lib.validD=true)/\AllEq σ [(0,.slice A ks.length c),(1,J n),(5,.map (some b1)),(11,.slice A ks.length c),(12,J ((ks.length:Nat))),(13,J ((j:Int)))]/\FR w0 [] [(b1,Si (Rz (ks.take j)))] w) _ ⟨0,O,(Nat.zero_le _),Oa,Oa,Du,hF⟩ ?_;rintro μ σ w ⟨j,rfl,hj,hd,hv,hs,hF⟩;refine Cg.slots hs ?_;clear hs;intro σ;refine Ea (Ba (Pg O O) (Da (Ga ?_)));refine Jb O O (λhc0=>?_) (λhc0=>?_);refine Ka (Ha (Ga (Qa (Ea ?_))));obtain⟨ad0,hA0,hk0,hx0⟩:=hX.str_elem (i:=j) Aa;refine Ia (v:=.pointer (some (ad0.add (j*1)))) (Na (i:=(j:Int)) Pk O hA0 O Aa Aa) (Ia (v:=I (ks[j])) (Nc iZ O (hF.cell0 hk0)) (Ba (He O) (Da (Ga (Ea (Ba (Pu) (Ba (Ad O) ?_)))))));refine Ia (v:=.bool (decide (ks[j]∈ks.take j))) (Ax underlying199 kX zeroValue4 O O (hF.heap (i:=0) O) (by rw[H8];split <;> rename_i hh <;> simp only[hh,decide_true,decide_false] <;> rfl)) ?_;refine Ba (Dc O) (Bb (d:=20) O (λhg1=>?_) (λhg1=>?_));refine Ca (Ca (Ca (Ba (Rb O O) (Da (Yd O (Ea (Ba (Kb O) (Da ?_))))))));refine Gc (v:=.bool false) O O ?_;have:=Et (ks:=ks) (j:=j) Aa (by assumption);exact⟨congrArg Value.bool (by unfold Om;rw[decide_eq_false this];rfl),hF.same⟩;refine Ba (Ad O) (Pa hF (RS ks[j] (hl _ (eQ _)) _ (hG.ext hF.same)) (Ma en_194 O O) ?_);intro w hF;refine Ba (Di O) (Ba (Pb O O) (Da ?_));refine Jd O O (λhc1=>?_) (λhc1=>?_);refine Ea (Ba (Kb O) (Da ?_))
 refine Gc (v:=.bool false) O O ?_;have:=QR (f:=Lib.validD) (ks:=ks) (j:=j) Aa (by simpa using hc1);exact⟨congrArg Value.bool (by unfold Om;rw[this,Bool.and_false];rfl),hF.same⟩;refine Ka (Ha (Ja (Ba (Pu) (Ba (Ad O) ?_))));refine Z4 0 (v:=.bool true) hF underlying199 kX O O O O (by rw[H8,if_neg (by assumption)]) ?_;rintro w hF -;rw[ZQ ks j Aa]at hF;have hF:FR w0 [] [(b1,Si (Rz (ks.take (j+1))))] w:=hF;refine Va (Ya (Ha (Ja (Ba (Cl O O) (Ba (Za O) (Va ?_))))));refine Ta ⟨_,?_,j+1,O,Aa,(Nu Aa hd (by assumption)),(Qx Aa hv (by simpa using hc1)),Du,hF⟩;omega;refine Bc (Yb O ?_);refine Ha (Ea (Ba (Hd O) (Ba (Nf cX O) (Ba (Za O) (Ba (Of O O) (Ba (Kb O) (Da ?_)))))));refine Gc (v:=.bool _) O O ?_;obtain rfl:j=ks.length:=by omega
 rw[List.take_length]at hd hv;exact⟨congrArg Value.bool (by unfold Om;rw[hv,decide_eq_true hd];rfl),hF.same⟩
mutual
def Tq:Tree->Prop|.node _ t ks xs=>t.length<=140737488355328/\(∀k∈ks,k.length<=140737488355328)/\V6 xs
def V6:List Tree->Prop|[]=>True|x::xs=>Tq x/\V6 xs
end
theorem Xl:∀{xs:List Tree},V6 xs->∀x∈xs,Tq x
  | [],_,_,h=>absurd h Oa
  | y :: ys, h, x, hx => by
    rw[V6]at h;rcases oQ.1 hx with rfl|hx
    ·exact h.1
    exact Xl h.2 x hx
def nodeB:Tree->Bool
  | .node k t ks xs =>
    if k=5 then decide (ks=[])&&decide (t=[]) else
    if k=6 then Om ks xs.length&&decide (t=[]) else
    if ks≠[]\/xs≠[] then false else
    if k=1 then decide (t=[]) else
    if k=2 then decide (t=[116,114,117,101]) || decide (t=[102,97,108,115,101]) else
    if k=3 then Pj t else if k=4 then Lib.validD t else if k=7 then Ou t else false
def ZA(g:Nat)(q:Tree->Bool):Prop:=∀(x:Tree)(S:Nat->Prop)(w0:World)(cs:List Value),Rep S w0 (Ob x) cs->Tq x->Gl w0->Calls prog g #[.agg cs.toArray] w0 (Yc λv w'=>v=.bool (q x)/\Same [] w0 w')
theorem len_pos{α:Type}(l:List α):decide ((0:Int)<(l.length:Int))=decide (l≠[]):=by
  cases l <;> simp
theorem node_c  : ZA 130 nodeB:=by
 rintro⟨k,t,ks,xs⟩ S w0 cs hR hk hG;obtain⟨A,c,B,e,rfl,-,-,hK,hX⟩:=hR.tree_inv;rw[Tq]at hk;refine Fa func130 O ntmps130 Ab (Wb _) ?_;have hF:=FR.start w0 [];refine Ea (Ce hF O ?_);rintro b1 w hb1 hF -;refine Ba (Kb O) (Da (Ga ?_));refine De (zs:=.of []) (bQ [0,1,2,3,4,5,6,7,8,9] .nil) hF ?_;intro w hF;refine Ib O (Mb Tc O) (Ng O (Ie yQ O C0 0 O O) (Ib O (Nf cX O) (Ib O (Mo O O) (Ib O (Mb Tb O) (Ng O (Ie zQ O C0 0 O O) (Ib O (Nf dX O) (Ib O (Mo O O) (Ib O (Kb O) (Ib O (Kb O) (Ic (Ha (Ga (Ga ?_)))))))))))));refine Ja (Ba (Mb Xc O) (Xb (Zg xQ O hF.F 0 O O) (Da (Qa (Ea (Ba (Of O O) (Ba (Kb O) (Da ?_))))))));refine Jb O O (λhc0=>?_) (λhc0=>?_);refine Ea (Ba (Dc O) (Ba (ynd O) (Ba (Dc O) ?_)));refine Bb (d:=21) O (λhg0=>?_) (λhg0=>?_);refine Ba (Mb Id O) (Xb (Ej iZ O hF.F 0 O O) (Ba (Ry O O) (Ba (Rb O O) (Ba (Kb O) (Da ?_)))));refine Gc (v:=.bool _) O O ⟨?_,hF.same⟩;clear hF hR hK hX hb1;simp_all[nodeB,List.length_pos_iff];refine Ca (Ca (Ca (Ba (Pb O O) (Ba (Kb O) (Da ?_)))));refine Gc (v:=.bool false) O O ⟨?_,hF.same⟩;clear hF hR hK hX hb1;simp_all[nodeB,List.length_pos_iff];refine Ea (Ba (Of O O) (Ba (Kb O) (Da ?_)));refine Jb O O (λhc1=>?_) (λhc1=>?_);refine Ea (Ba (Mb Tc O) (Xb (Ie yQ O hF.F 0 O O) (Ba (Mb Tb O) (Xb (Ie zQ O hF.F 0 O O) (Ba (Nf dX O) ?_)))));refine Pa hF (keyed_c ks (xs.length:Nat) S A c (by simpa using hk.2.1) _ (hG.ext hF.same) (hF.rep hK)) (Xa en_193 O O O) ?_;intro w hF;refine Ba (Dc O) (Sc (d:=34) O (λhg1=>?_) (λhg1=>?_));refine Ba (Mb Id O) (Xb (Ej iZ O hF.F 0 O O) (Ba (Ry O O) (Ba (Rb O O) (Ba (Kb O) (Da ?_)))));refine Gc (v:=.bool _) O O ⟨?_,hF.same⟩;clear hF hR hK hX hb1;simp_all[nodeB,List.length_pos_iff];refine Ca (Ca (Ca (Ba (Pb O O) (Ba (Kb O) (Da ?_)))));refine Gc (v:=.bool false) O O ⟨?_,hF.same⟩;clear hF hR hK hX hb1
 simp_all[nodeB,List.length_pos_iff];refine Ka (Ya (Ha (Ga (Ea (Ba (Dc O) (Ba (Dc O) ?_))))));refine Bb (d:=40) O (λhg2=>?_) (λhg2=>?_);refine Ca (Ba (Rb O O) (Da (Yd O (Ea (Ba (Kb O) (Da ?_))))));refine Gc (v:=.bool false) O O ⟨?_,hF.same⟩;clear hF hR hK hX hb1;simp_all[nodeB,List.length_pos_iff];refine Ba (Dc O) (Ba (Pb O O) (Da ?_));refine Jb O O (λhc2=>?_) (λhc2=>?_);refine Ea (Ba (Kb O) (Da ?_));refine Gc (v:=.bool false) O O ⟨?_,hF.same⟩;clear hF hR hK hX hb1;simp_all[nodeB,List.length_pos_iff];refine Ka (Ha (Ga (Ea (Ba (Mb Xc O) (Xb (Zg xQ O hF.F 0 O O) (Da (Qa (Ea (Ba (Of O O) (Ba (Kb O) ?_))))))))));refine Da (Jb O O (λhc3=>?_) (λhc3=>?_));refine Ea (Ba (Mb Id O) (Xb (Ej iZ O hF.F 0 O O) (Ba (Ry O O) (Ba (Kb O) (Da ?_)))));refine Gc (v:=.bool _) O O ⟨?_,hF.same⟩;clear hF hR hK hX hb1;simp_all[nodeB,List.length_pos_iff];refine Ea (Ba (Of O O) (Ba (Kb O) (Da ?_)));refine Jb O O (λhc4=>?_) (λhc4=>?_);refine Ea (Ba (Mb Id O) (Xb (Ej iZ O hF.F 0 O O) (Ba (Ry O O) (Ba (Dc O) ?_))));refine Bb (d:=55) O (λhg3=>?_) (λhg3=>?_);refine Ca (Ca (Ca (Ba (Rb O O) (Ba (Kb O) (Da ?_)))));refine Gc (v:=.bool true) O O ⟨?_,hF.same⟩;clear hF hR hK hX hb1;simp_all[nodeB,List.length_pos_iff];refine Ba (Mb Id O) (Xb (Ej iZ O hF.F 0 O O) (Ba (Ry O O) (Ba (Pb O O) (Ba (Kb O) (Da ?_)))));refine Gc (v:=.bool _) O O ⟨?_,hF.same⟩;clear hF hR hK hX hb1;simp_all[nodeB,List.length_pos_iff];refine Ea (Ba (Of O O) (Ba (Kb O) (Da ?_)));refine Jb O O (λhc5=>?_) (λhc5=>?_);refine Ea (Ba (Mb Id O) (Xb (Ej iZ O hF.F 0 O O) ?_));refine Pa hF (Vw t hk.1 _ (hG.ext hF.same)) (Ma SD O O) ?_;intro w hF;refine Ba (Mj O) (Ba (Gt O O) (Ba (Ym O O) ?_));refine If hF tX tZ O ?_;rintro b2 w hb2 hF -;refine Ba (Kb O) (Lb (Ba (Dc O) (Ba (Kb O) (Da ?_))));refine Gc (v:=.bool _) O O ⟨?_,hF.same⟩
 clear hF hR hK hX hb1;simp_all[nodeB,List.length_pos_iff];refine Ea (Ba (Of O O) (Ba (Kb O) (Da ?_)));refine Jb O O (λhc6=>?_) (λhc6=>?_);refine Ea (Ba (Mb Id O) (Xb (Ej iZ O hF.F 0 O O) ?_));refine Pa hF (RS t hk.1 _ (hG.ext hF.same)) (Ma en_194 O O) ?_;intro w hF;refine Ba (Kb O) (Da ?_);refine Gc (v:=.bool _) O O ⟨?_,hF.same⟩;clear hF hR hK hX hb1;simp_all[nodeB,List.length_pos_iff];refine Ea (Ba (Of O O) (Ba (Kb O) (Da ?_)));refine Jb O O (λhc7=>?_) (λhc7=>?_);refine Ea (Ba (Mb Id O) (Xb (Ej iZ O hF.F 0 O O) ?_));refine Pa hF (hole_c t hk.1 _ (hG.ext hF.same)) (Ma en_195 O O) ?_;intro w hF;refine Ba (Kb O) (Da ?_);refine Gc (v:=.bool _) O O ⟨?_,hF.same⟩;clear hF hR hK hX hb1;simp_all[nodeB,List.length_pos_iff];refine Ka (Ya (Ha (Ea (Ba (Kb O) (Da ?_)))));refine Gc (v:=.bool false) O O ⟨?_,hF.same⟩;clear hF hR hK hX hb1;simp_all[nodeB,List.length_pos_iff]
theorem Tree.ind{Q:Tree->Prop}(h:∀k t ks xs,(∀x,x∈xs->Q x)->Q (.node k t ks xs))(x:Tree):Q x :=
  Tree.rec (motive_1:=Q) (motive_2:=λxs=>∀x,x∈xs->Q x) (λk t ks xs ih=>h k t ks xs ih) Oa
    (λy ys h1 h2=>by
      intro z hz;rcases oQ.1 hz with rfl|hz
      ·exact h1
      exact h2 z hz) x
mutual
def Nb:Tree->Nat|.node _ _ _ xs=>1+Ec xs
def Ec:List Tree->Nat|[]=>0|x::xs=>Nb x+Ec xs
end
mutual
def Vc:Tree->Nat|.node _ _ _ xs=>Od xs+1
def Od:List Tree->Nat|[]=>0|x::xs=>max (Vc x) (Od xs)
end
theorem Bm:∀(xs ys:List Tree),Ec (xs++ys)=Ec xs+Ec ys
  | [],ys=>by simp[Ec]
  | x::xs,ys=>by simp[Ec,Bm xs ys,Nat.add_assoc]
theorem Qv:∀(xs ys:List Tree),Od (xs++ys)=max (Od xs) (Od ys)
  | [],ys=>by simp[Od]
  | x::xs,ys=>by simp only[List.cons_append,Od,Qv xs ys];omega
theorem T4(xs:List Tree)(j:Nat)(hj:j<xs.length):Ec (xs.take (j+1))=Ec (xs.take j)+Nb xs[j]:=by
  rw[iQ hj,Bm];simp[Ec]
theorem Qz(xs:List Tree)(j:Nat)(hj:j<xs.length):Od (xs.take (j+1))=max (Od (xs.take j)) (Vc xs[j]):=by
  rw[iQ hj,Qv];simp[Od]
theorem Lg:∀{xs:List Tree}{x:Tree},x∈xs->Nb x<=Ec xs
  | [],_,h=>absurd h Oa
  | y :: ys, x, h => by
    rw[Ec];rcases oQ.1 h with rfl|h
    ·omega
    have:=Lg h;omega
theorem Q2(x:Tree):1<=Nb x:=by cases x;rw[Nb];omega
theorem Yj:∀(xs:List Tree),xs.length<=Ec xs
  | []=>by simp[Ec]
  | x::xs=>by have:=Yj xs;have:=Q2 x;simp only[Ec,kQ];omega
theorem depth_le(x:Tree):Vc x<=Nb x:=by
  refine Tree.ind (Q:=λx=>Vc x<=Nb x) (λk t ks xs ih=>?_) x;have:Od xs<=Ec xs:=by
    induction xs with
    | nil=>simp[Od,Ec]
    | cons y ys ihy =>
      have h1:=ih y Oa;have h2:=ihy (λz hz=>ih z (by simp[hz]));simp only[Od,Ec];omega
  simp only[Vc,Nb];omega
theorem Iy(xs:List Tree):Od xs<=Ec xs:=by
  have:=depth_le (.node 0 [] [] xs);simp only[Vc,Nb]at this;omega
def SizeC(x:Tree):Prop:=∀S w0 cs,Rep S w0 (Ob x) cs->Calls prog 189 #[.agg cs.toArray] w0 (Yc λv w'=>v=J (wr (Nb x))/\Same [] w0 w')
theorem VU(k:Int)(t:Str)(ks:List Str)(xs:List Tree)(ih:∀x,x∈xs->SizeC x):SizeC (.node k t ks xs):=by
 intro S w0 cs hR;obtain⟨A,c,B,e,rfl,-,-,-,hX⟩:=hR.tree_inv;have hXl:=hX.slice_len;refine Fa func189 O ntmps189 Ab (Wb _) ?_;have hF:=FR.start w0 [];refine Ea (Ce hF O ?_);rintro b1 w hb1 hF -;refine Ba (Fb O) (Lb (Ba (Fb O) (Da (Ga (Ea (Ba (Mb Tb O) (Xb (Ie zQ O hF.F 0 O O) (Ba (Nf dX O) ?_))))))));refine Ba (Za O) (Da (Qa ?_));refine Fc (λμ σ w=>∃(j:Nat),μ=xs.length-j/\(j<=xs.length)/\AllEq σ [(3,J (wr (1+Ec (xs.take j)))),(7,.slice B xs.length e),(8,J ((xs.length:Nat))),(9,J ((j:Int)))]/\FR w0 [] [(b1,.cells #[J k,I t,.slice A ks.length c,.slice B xs.length e] 36)] w) _ ⟨0,O,(Nat.zero_le _),Jj,hF⟩ ?_;rintro μ σ w ⟨j,rfl,hj,hs,hF⟩;refine Cg.slots hs ?_;clear hs;intro σ;refine Ea (Ba (Pg O O) (Da (Ga ?_)));refine Jb O O (λhc0=>?_) (λhc0=>?_);refine Ka (Ha (Ga (Qa (Ea ?_))));obtain⟨ad0,cs0,hA0,hl0,hk0,hx0⟩:=hX.tree_elem (i:=j) Aa;have ho0:=hx0.one_;refine Ia (v:=.pointer (some (ad0.add (j*4)))) (Na (i:=(j:Int)) Wf O hA0 O Aa Aa) (Ia (v:=.agg (List.toArray cs0)) (Wa (l:=cs0) aZ nZ O hl0 (hF.cells0 hk0)) ?_);refine J4 (l:=cs0) hF oX (by rw[hl0];exact nZ) (by rw[hl0];rfl) (v:=.agg (List.toArray cs0)) O O (ho0) O ?_;rintro b2 w hb2 hF -;refine Da (Ja (Ba (Za O) (Ia (v:=.agg (List.toArray cs0)) (Wa (l:=cs0) aZ nZ O hl0 (hF.cellsAll 0 O)) ?_)));refine Pa hF (ih _ (eQ _) _ _ _ (hF.rep hx0)) (Ma en_189 O O) ?_;intro w hF;refine Ia (v:=J (wr (1+Ec (xs.take (j+1))))) (Rs O O (by rw[CW,T4 xs j Aa,Int.natCast_add,Int.add_assoc])) (Ba (Fb O) (Va (Ya (Ha (Ja (Ba (Cl O O) (Ba (Za O) (Va ?_))))))));refine Ta ⟨_,?_,j+1,O,Aa,Jj,hF.drop 1⟩;omega;refine Bc (Yb O ?_);refine Ha (Ea (Ba (Za O) (Ba (Fb O) (Da ?_))));refine Gc (v:=J (wr (1+Ec (xs.take j)))) O O ?_;obtain rfl:j=xs.length:=by omega
 exact⟨by simp[Nb],hF.same⟩
theorem size_c(x:Tree):SizeC x:=Tree.ind VU x
def TQ(x:Tree):Prop:=Nb x<=1000000000->∀S w0 cs,Rep S w0 (Ob x) cs->Calls prog 190 #[.agg cs.toArray] w0 (Yc λv w'=>v=J (Vc x:Nat)/\Same [] w0 w')
theorem ZM(k:Int)(t:Str)(ks:List Str)(xs:List Tree)(ih:∀x,x∈xs->TQ x):TQ (.node k t ks xs):=by
 intro hsz S w0 cs hR;obtain⟨A,c,B,e,rfl,-,-,-,hX⟩:=hR.tree_inv;have hXl:=hX.slice_len;have hdl:=Iy xs;rw[Nb]at hsz;refine Fa func190 O ntmps190 Ab (Wb _) ?_;have hF:=FR.start w0 [];refine Ea (Ce hF O ?_);rintro b1 w hb1 hF -;refine Ba (Fb O) (Lb (Ba (Fb O) (Da (Ga (Ea (Ba (Mb Tb O) (Xb (Ie zQ O hF.F 0 O O) (Ba (Nf dX O) ?_))))))));refine Ba (Za O) (Da (Qa ?_));refine Fc (λμ σ w=>∃(j:Nat),μ=xs.length-j/\(j<=xs.length)/\AllEq σ [(3,J ((Od (xs.take j):Nat))),(7,.slice B xs.length e),(8,J ((xs.length:Nat))),(9,J ((j:Int)))]/\FR w0 [] [(b1,.cells #[J k,I t,.slice A ks.length c,.slice B xs.length e] 36)] w) _ ⟨0,O,(Nat.zero_le _),Jj,hF⟩ ?_;rintro μ σ w ⟨j,rfl,hj,hs,hF⟩;refine Cg.slots hs ?_;clear hs;intro σ;refine Ea (Ba (Pg O O) (Da (Ga ?_)));refine Jb O O (λhc0=>?_) (λhc0=>?_);refine Ka (Ha (Ga (Qa (Ea ?_))));obtain⟨ad0,cs0,hA0,hl0,hk0,hx0⟩:=hX.tree_elem (i:=j) Aa;have ho0:=hx0.one_;refine Ia (v:=.pointer (some (ad0.add (j*4)))) (Na (i:=(j:Int)) Wf O hA0 O Aa Aa) (Ia (v:=.agg (List.toArray cs0)) (Wa (l:=cs0) aZ nZ O hl0 (hF.cells0 hk0)) ?_);refine J4 (l:=cs0) hF oX (by rw[hl0];exact nZ) (by rw[hl0];rfl) (v:=.agg (List.toArray cs0)) O O (ho0) O ?_;rintro b2 w hb2 hF -;refine Da (Ja (Ba (Za O) (Ia (v:=.agg (List.toArray cs0)) (Wa (l:=cs0) aZ nZ O hl0 (hF.cellsAll 0 O)) ?_)));refine Pa hF (ih _ (eQ _) (by have:=Lg (List.getElem_mem (l:=xs) (n:=j) Aa);omega) _ _ _ (hF.rep hx0)) (Ma LZ O O) ?_;intro w hF;refine Ia (v:=J ((Od (xs.take (j+1)):Nat))) (by rw[<-show max ((Od (xs.take j):Nat):Int) ((Vc xs[j]:Nat):Int)=((Od (xs.take (j+1)):Nat):Int) from by rw[Qz xs j Aa];omega];exact x_max O O) ?_;refine Ba (Fb O) (Va (Ya (Ha (Ja (Ba (Cl O O) (Ba (Za O) (Va ?_)))))));refine Ta ⟨_,?_,j+1,O,Aa,Jj,hF.drop 1⟩;omega;refine Bc (Yb O ?_);refine Ha (Ea (Ba (Za O) ?_));have eT:xs.take j=xs:=List.take_of_length_le Aa
 refine Ia (v:=J ((Vc (.node k t ks xs):Nat))) (Rs O O (by rw[eT,Vc];exact Hg Aa Aa Aa)) ?_;refine Ba (Fb O) (Da ?_);refine Gc (v:=J ((Vc (.node k t ks xs):Nat))) O O ?_;exact⟨O,hF.same⟩
theorem depth_c(x:Tree):TQ x:=Tree.ind ZM x
theorem Same.cell{w w':World}{a:Addr}{v:Value}(h:Same [] w w')(hc:w.cell? a=some v):w'.cell? a=some v:=((FR.start w []).ext h).cell0 hc
mutual
def Me(q:Tree->Bool):Tree->Bool|.node k t ks xs=>q (.node k t ks xs)&&Gs q xs
def Gs(q:Tree->Bool):List Tree->Bool|[]=>true|x::xs=>Me q x&&Gs q xs
end
theorem Fs(q:Tree->Bool):∀xs:List Tree,Gs q xs = !(xs.any λx=>!Me q x)
  | []=>rfl
  | x::xs=>by rw[Gs,Fs q xs];simp
def EachC(w0:World)(bb:Nat)(xs:List Tree)(q:Tree->Bool):Prop:=∀x,x∈xs->∀S w cs,Same [] w0 w->Rep S w (Ob x) cs->Calls prog 192 #[.agg cs.toArray,V bb] w (Yc λv w'=>v=.bool (q x)/\Same [] w w')
theorem EachC.ext{w0 w:World}{bb:Nat}{xs:List Tree}{q:Tree->Bool}(h:EachC w0 bb xs q)(hs:Same [] w0 w):EachC w bb xs q:=λx hx S w' cs hw=>h x hx S w' cs (hs.trans hw)
theorem HW{q:Tree->Bool}{xs:List Tree}{j:Nat}(h:j<xs.length)(hn:(xs.take j).any q=false)(hq:q xs[j]=false):(xs.take (j+1)).any q=false:=by
  rw[iQ h,List.any_append,hn];simp[hq]
def Zy(g:Nat)(q:Tree->Bool)(x:Tree):Prop:=∀S w0 cs,Rep S w0 (Ob x) cs->Tq x->Gl w0->Calls prog 129 #[.agg cs.toArray,.func (.func g) #[] #[]] w0 (Yc λv w'=>v=.bool (Me q x)/\Same [] w0 w')
theorem MG(xs:List Tree)(q:Tree->Bool)(bb:Nat)(B:Option Addr)(e:Nat)(S:Nat->Prop)(w0:World)(hX:Rep S w0 (.slice (Fe xs)) [.slice B xs.length e])(hq:EachC w0 bb xs q):Calls prog 240 #[.slice B xs.length e,.func (.func 192) #[] #[V bb]] w0 (Yc λv w'=>∃n:Int,v=J n/\decide (0<=n)=xs.any q/\Same [] w0 w'):=by
 have hXl:=hX.slice_len;refine Fa func240 O ntmps240 Ab (Uc _ _) ?_;have hF:=FR.start w0 [];refine Ea (Ba (Fb O) (Da (Ga (Ea (Ba (Hd O) (Ba (Nf dX O) (Ba (Za O) (Da (Qa ?_)))))))));refine Fc (λμ σ w=>∃(j:Nat),μ=xs.length-j/\(j<=xs.length)/\((xs.take j).any q=false)/\AllEq σ [(0,.slice B xs.length e),(1,.func (.func 192) #[] #[.pointer (some (⟨bb,0,none⟩))]),(7,J ((xs.length:Nat))),(8,J ((j:Int)))]/\FR w0 [] [] w) _ ⟨0,O,(Nat.zero_le _),Oa,Jj,hF⟩ ?_;rintro μ σ w ⟨j,rfl,hj,hn,hs,hF⟩;refine Cg.slots hs ?_;clear hs;intro σ;refine Ea (Ba (Pg O O) (Da (Ga ?_)));refine Jb O O (λhc0=>?_) (λhc0=>?_);refine Ka (Ha (Ga (Qa (Ea (Ba (Za O) (Ba (Fb O) (Lb (Ba (Pu) (Ba (Hd O) ?_)))))))));refine Ba (Za O) ?_;obtain⟨ad0,cs0,hA0,hl0,hk0,hx0⟩:=hX.tree_elem (i:=j) Aa;have ho0:=hx0.one_;refine Ia (v:=.pointer (some (ad0.add (j*4)))) (Na (i:=(j:Int)) Wf O hA0 O Aa Aa) (Ia (v:=.agg (List.toArray cs0)) (Wa (l:=cs0) aZ nZ O hl0 (hF.cells0 hk0)) ?_);refine Pa hF (hq _ (List.getElem_mem (l:=xs) (n:=j) Aa) _ _ _ hF.same (hF.rep hx0)) (Lq O en_192 O O) ?_;intro w hF;refine Da (Jd O O (λhc1=>?_) (λhc1=>?_));refine Ea (Ba (Za O) (Ba (Fb O) (Da ?_)));refine Gc (v:=J ((j:Int))) O O ?_;exact⟨_,O,by rw[List.any_eq_true.2 ⟨_,List.getElem_mem (l:=xs) (n:=j) Aa,hc1⟩];simp,hF.same⟩;refine Ka (Ya (Ha (Ja (Ba (Cl O O) (Ba (Za O) (Va ?_))))));refine Ta ⟨_,?_,j+1,O,Aa,(HW Aa hn hc1),Jj,hF⟩;omega;refine Bc (Yb O ?_);refine Ha (Ea (Ba (Fb O) (Da ?_)));refine Gc (v:=J ((-1))) O O ?_;have eT:xs.take j=xs:=List.take_of_length_le Aa;rw[eT]at hn;exact⟨_,O,by rw[hn];decide,hF.same⟩
theorem Kv(xs:List Tree)(q:Tree->Bool)(bb:Nat)(B:Option Addr)(e:Nat)(S:Nat->Prop)(w0:World)(hX:Rep S w0 (.slice (Fe xs)) [.slice B xs.length e])(hq:EachC w0 bb xs q):Calls prog 191 #[.slice B xs.length e,.func (.func 192) #[] #[V bb]] w0 (Yc λv w'=>v=.bool (xs.any q)/\Same [] w0 w'):=by
 refine Fa func191 O ntmps191 Ab (Uc _ _) ?_;have hF:=FR.start w0 [];refine Ea (Ba (Kb O) (Lb (Ba (Hd O) (Ba (Pu) ?_))));refine Eb (MG xs q bb B e S _ (hF.rep hX) (hq.ext hF.same)) (Xa en_240 O O O) ?_;rintro _ w ⟨n,rfl,hn,hE⟩;have hF:=hF.ext hE;refine Ba (Vx O O) (Ba (Kb O) (Da ?_));refine Gc (v:=.bool _) O O ?_;exact⟨congrArg Value.bool hn,hF.same⟩
theorem EA(g:Nat)(q:Tree->Bool)(x:Tree)(h:Zy g q x)(bb:Nat)(S:Nat->Prop)(w0:World)(cs:List Value)(hR:Rep S w0 (Ob x) cs)(hk:Tq x)(hG:Gl w0)(hb:w0.cell? ⟨bb,0,none⟩=some (.func (.func g) #[] #[])):Calls prog 192 #[.agg cs.toArray,V bb] w0 (Yc λv w'=>v=.bool (!Me q x)/\Same [] w0 w'):=by
 have hl:cs.length=4:=hR.length.trans (Hc x);have ho:=hR.one_;refine Fa func192 O ntmps192 Ab (Uc _ _) ?_;have hF:=FR.start w0 [];refine Ea (Pl (v:=.agg (List.toArray cs)) (cs:=(List.toArray cs)) hF O O ?_);rintro b1 w hb1 hF -;refine Ba (Kb O) (Lb (Ia (v:=.agg (List.toArray cs)) (Wa (l:=cs) aZ nZ O hl (hF.cellsAll 0 O)) (Ia (v:=.func (.func g) #[] #[]) (Nc isAgg76 O (hF.cell0 hb)) ?_)));refine Pa hF (h S _ cs (hF.rep hR) hk (hG.ext hF.same)) (Xa NO O O O) ?_;intro w hF;refine Ba (Di O) (Ba (Kb O) (Da ?_));refine Gc (v:=.bool _) O O ?_;exact⟨O,hF.same⟩
theorem AD(q:Tree->Bool)(hp:ZA 147 q)(k:Int)(t:Str)(ks:List Str)(xs:List Tree)(ih:∀x,x∈xs->Zy 147 q x):Zy 147 q (.node k t ks xs):=by
 intro S w0 cs hR hk hG;have hk':=hk;rw[Tq]at hk';obtain⟨A,c,B,e,rfl,-,-,hK,hX⟩:=hR.tree_inv;refine Fa func129 O ntmps129 Ab (Uc _ _) ?_;have hF:=FR.start w0 [];refine Ea (Ce hF O ?_);rintro b1 w hb1 hF -;refine VH (.func (.func 147) #[] #[]) hF O ?_;rintro b2 w hb2 hF -;refine Ba (Kb O) (Lb (Xb (ylu isAgg76 O hF.F 0 O O) (Xb (Bf aZ nZ O hF.F 1 O O) ?_)));refine Pa hF (hp (.node k t ks xs) S _ _ (hF.rep hR) hk (hG.ext hF.same)) (Lq O en_147 O O) ?_;intro w hF;refine Ba (Dc O) (Sc (d:=8) O (λhg0=>?_) (λhg0=>?_));refine Ba (Mb Tb O) (Xb (Ie zQ O hF.F 1 O O) (Ia (v:=.func (.func 192) #[] #[V b2]) (El O) ?_));refine Pa hF (Kv xs (λx=>!Me q x) b2 B e S _ (hF.rep hX) (λx hx S' w' cs' hs hr=>EA 147 q x (ih x hx) b2 S' w' cs' hr (Xl hk'.2.2 x hx) ((hG.ext hF.same).ext hs) (hs.cell (hF.cell 0 O O)))) (Xa CZ O O O) ?_;intro w hF;refine Ba (Di O) (Ba (Rb O O) (Ba (Kb O) (Da ?_)));refine Gc (v:=.bool _) O O ⟨?_,hF.same⟩;rw[Me,Fs];simp_all;refine Ca (Ca (Ca (Ca (Ca (Ba (Pb O O) (Ba (Kb O) (Da ?_)))))));refine Gc (v:=.bool false) O O ⟨?_,hF.same⟩;rw[Me,Fs];simp_all
theorem OY(q:Tree->Bool)(hp:ZA 147 q)(x:Tree):Zy 147 q x:=Tree.ind (AD q hp) x
theorem IE(q:Tree->Bool)(hp:ZA 130 q)(k:Int)(t:Str)(ks:List Str)(xs:List Tree)(ih:∀x,x∈xs->Zy 130 q x):Zy 130 q (.node k t ks xs):=by
 intro S w0 cs hR hk hG;have hk':=hk;rw[Tq]at hk';obtain⟨A,c,B,e,rfl,-,-,hK,hX⟩:=hR.tree_inv;refine Fa func129 O ntmps129 Ab (Uc _ _) ?_;have hF:=FR.start w0 [];refine Ea (Ce hF O ?_);rintro b1 w hb1 hF -;refine VH (.func (.func 130) #[] #[]) hF O ?_;rintro b2 w hb2 hF -;refine Ba (Kb O) (Lb (Xb (ylu isAgg76 O hF.F 0 O O) (Xb (Bf aZ nZ O hF.F 1 O O) ?_)));refine Pa hF (hp (.node k t ks xs) S _ _ (hF.rep hR) hk (hG.ext hF.same)) (Lq O en_130 O O) ?_;intro w hF;refine Ba (Dc O) (Sc (d:=8) O (λhg0=>?_) (λhg0=>?_));refine Ba (Mb Tb O) (Xb (Ie zQ O hF.F 1 O O) (Ia (v:=.func (.func 192) #[] #[V b2]) (El O) ?_));refine Pa hF (Kv xs (λx=>!Me q x) b2 B e S _ (hF.rep hX) (λx hx S' w' cs' hs hr=>EA 130 q x (ih x hx) b2 S' w' cs' hr (Xl hk'.2.2 x hx) ((hG.ext hF.same).ext hs) (hs.cell (hF.cell 0 O O)))) (Xa CZ O O O) ?_;intro w hF;refine Ba (Di O) (Ba (Rb O O) (Ba (Kb O) (Da ?_)));refine Gc (v:=.bool _) O O ⟨?_,hF.same⟩;rw[Me,Fs];simp_all;refine Ca (Ca (Ca (Ca (Ca (Ba (Pb O O) (Ba (Kb O) (Da ?_)))))));refine Gc (v:=.bool false) O O ⟨?_,hF.same⟩;rw[Me,Fs];simp_all
theorem RU(q:Tree->Bool)(hp:ZA 130 q)(x:Tree):Zy 130 q x:=Tree.ind (IE q hp) x
def rnodeB(x:Tree):Bool:=decide (x.kind≠7)&&nodeB x
def Km(x:Tree):Bool:=decide (Nb x<=4096)&&decide (Vc x<=32)
def Qg(x:Tree):Bool:=Km x&&Me nodeB x
def Pf(x:Tree):Bool:=Km x&&Me rnodeB x
theorem wr_small{n:Nat}(h:n<=1000000000):wr (n:Int)=(n:Int):=Rh Aa Aa
theorem rnode_c  : ZA 147 rnodeB:=by
 rintro⟨k,t,ks,xs⟩ S w0 cs hR hk hG;obtain⟨A,c,B,e,rfl,-,-,hK,hX⟩:=hR.tree_inv;refine Fa func147 O ntmps147 Ab (Wb _) ?_;have hF:=FR.start w0 [];refine Ea (Ce hF O ?_);rintro b1 w hb1 hF -;refine Ba (Kb O) (Lb (Ba (Mb Xc O) (Xb (Zg xQ O hF.F 0 O O) (Ba (Wm O O) (Ba (Dc O) ?_)))));refine Bb (d:=6) O (λhg0=>?_) (λhg0=>?_);refine Xb (Bf aZ nZ O hF.F 0 O O) (Pa hF (node_c (.node k t ks xs) S _ _ (hF.rep hR) hk (hG.ext hF.same)) (Ma en_130 O O) ?_);intro w hF;refine Ba (Rb O O) (Ba (Kb O) (Da ?_));refine Gc (v:=.bool _) O O ⟨?_,hF.same⟩;simp_all[rnodeB,Tree.kind];refine Ca (Ca (Ba (Pb O O) (Ba (Kb O) (Da ?_))));refine Gc (v:=.bool false) O O ⟨?_,hF.same⟩;simp_all[rnodeB,Tree.kind]
theorem size_v(x:Tree)(hsz:Nb x<=1000000000)(S:Nat->Prop)(w0:World)(cs:List Value)(hR:Rep S w0 (Ob x) cs):Calls prog 189 #[.agg cs.toArray] w0 (Yc λv w'=>v=J (Nb x:Nat)/\Same [] w0 w'):=by
  have h:=size_c x S w0 cs hR
  rwa [wr_small hsz]at h
theorem HR(x:Tree)(hsz:Nb x<=1000000000)(S:Nat->Prop)(w0:World)(cs:List Value)(hR:Rep S w0 (Ob x) cs):Calls prog 128 #[.agg cs.toArray] w0 (Yc λv w'=>v=.bool (Km x)/\Same [] w0 w'):=by
 have hl:cs.length=4:=hR.length.trans (Hc x);have ho:=hR.one_;refine Fa func128 O ntmps128 Ab (Wb _) ?_;have hF:=FR.start w0 [];refine Ea (Pl (v:=.agg (List.toArray cs)) (cs:=(List.toArray cs)) hF O O ?_);rintro b1 w hb1 hF -;refine Ba (Kb O) (Lb (Ia (v:=.agg (List.toArray cs)) (Wa (l:=cs) aZ nZ O hl (hF.cellsAll 0 O)) ?_));refine Pa hF (size_v x hsz S _ cs (hF.rep hR)) (Ma en_189 O O) ?_;intro w hF;refine Ba (EB O O) (Ba (Dc O) ?_);refine Bb (d:=6) O (λhg0=>?_) (λhg0=>?_);refine Ia (v:=.agg (List.toArray cs)) (Wa (l:=cs) aZ nZ O hl (hF.cellsAll 0 O)) (Pa hF (depth_c x hsz S _ cs (hF.rep hR)) (Ma LZ O O) ?_);intro w hF;refine Ba (EB O O) (Ba (Rb O O) (Ba (Kb O) (Da ?_)));refine Gc (v:=.bool _) O O ⟨congrArg Value.bool ?_,hF.same⟩;unfold Km
 first|(rw[decide_eq_true (by omega:Nb x<=4096)];exact decide_eq_decide.2 Aa)|(rw[decide_eq_false (by omega:¬Nb x<=4096)];rfl)
 refine Ca (Ca (Ca (Ba (Pb O O) (Ba (Kb O) (Da ?_)))));refine Gc (v:=.bool false) O O ⟨congrArg Value.bool ?_,hF.same⟩;unfold Km
 first|(rw[decide_eq_true (by omega:Nb x<=4096)];exact decide_eq_decide.2 Aa)|(rw[decide_eq_false (by omega:¬Nb x<=4096)];rfl)
theorem L6(x:Tree)(hsz:Nb x<=1000000000)(S:Nat->Prop)(w0:World)(cs:List Value)(hR:Rep S w0 (Ob x) cs)(hk:Tq x)(hG:Gl w0):Calls prog 89 #[.agg cs.toArray] w0 (Yc λv w'=>v=.bool (Pf x)/\Same [] w0 w'):=by
 have hl:cs.length=4:=hR.length.trans (Hc x);have ho:=hR.one_;refine Fa func89 O ntmps89 Ab (Wb _) ?_;have hF:=FR.start w0 [];refine Ea (Pl (v:=.agg (List.toArray cs)) (cs:=(List.toArray cs)) hF O O ?_);rintro b1 w hb1 hF -;refine Ba (Kb O) (Lb (Ia (v:=.agg (List.toArray cs)) (Wa (l:=cs) aZ nZ O hl (hF.cellsAll 0 O)) ?_));refine Pa hF (HR x hsz S _ cs (hF.rep hR)) (Ma GZ O O) ?_;intro w hF;refine Ba (Dc O) (Sc (d:=5) O (λhg0=>?_) (λhg0=>?_));refine Ia (v:=.agg (List.toArray cs)) (Wa (l:=cs) aZ nZ O hl (hF.cellsAll 0 O)) (Pa hF (OY rnodeB rnode_c x S _ cs (hF.rep hR) hk (hG.ext hF.same)) (Xa NO O O O) ?_);intro w hF;refine Ba (Rb O O) (Ba (Kb O) (Da ?_));refine Gc (v:=.bool _) O O ?_;exact⟨congrArg Value.bool (by unfold Pf;simp_all),hF.same⟩;refine Ca (Ca (Ba (Pb O O) (Ba (Kb O) (Da ?_))));refine Gc (v:=.bool false) O O ?_;exact⟨congrArg Value.bool (by unfold Pf;simp_all),hF.same⟩
theorem B8(x:Tree)(hsz:Nb x<=1000000000)(S:Nat->Prop)(w0:World)(cs:List Value)(hR:Rep S w0 (Ob x) cs)(hk:Tq x)(hG:Gl w0):Calls prog 81 #[.agg cs.toArray] w0 (Yc λv w'=>v=.bool (Qg x)/\Same [] w0 w'):=by
 have hl:cs.length=4:=hR.length.trans (Hc x);have ho:=hR.one_;refine Fa func81 O ntmps81 Ab (Wb _) ?_;have hF:=FR.start w0 [];refine Ea (Pl (v:=.agg (List.toArray cs)) (cs:=(List.toArray cs)) hF O O ?_);rintro b1 w hb1 hF -;refine Ba (Kb O) (Lb (Ia (v:=.agg (List.toArray cs)) (Wa (l:=cs) aZ nZ O hl (hF.cellsAll 0 O)) ?_));refine Pa hF (HR x hsz S _ cs (hF.rep hR)) (Ma GZ O O) ?_;intro w hF;refine Ba (Dc O) (Sc (d:=5) O (λhg0=>?_) (λhg0=>?_));refine Ia (v:=.agg (List.toArray cs)) (Wa (l:=cs) aZ nZ O hl (hF.cellsAll 0 O)) (Pa hF (RU nodeB node_c x S _ cs (hF.rep hR) hk (hG.ext hF.same)) (Xa NO O O O) ?_);intro w hF;refine Ba (Rb O O) (Ba (Kb O) (Da ?_));refine Gc (v:=.bool _) O O ?_;exact⟨congrArg Value.bool (by unfold Qg;simp_all),hF.same⟩;refine Ca (Ca (Ba (Pb O O) (Ba (Kb O) (Da ?_))));refine Gc (v:=.bool false) O O ?_;exact⟨congrArg Value.bool (by unfold Qg;simp_all),hF.same⟩
end Go.Scarf
