/- A part of the proof. -/
import Derived.Test.YtndkhbfnfagbgaaGreatDoorW2
import Derived.Test.YtndkhbfnfagbgaaGreatDoorShelf2
import Derived.Lib.ValidLaws
import Derived.Lib.TrimUEq
import Derived.Lib.MapLaws
set_option linter.all false
set_option maxHeartbeats 8000000
set_option maxRecDepth 10000
namespace Go.Scarf
open Go.RowKit Go.Proofs Go.Proofs.Tryz
def Nt(s:Str):Bool:=decide ((Vf s).2=0)&&decide (Ip (Vf s).1=s)
def GJ(s:Str):Bool:=Nt s&&(VH (Vf s).1).2&&decide (0<=(VH (Vf s).1).1)
theorem KF(s:Str):Rg (Vf s).1=true:=by
  rw[Yo]
  repeat' split
  all_goals first|rfl|simp_all
theorem Jz(s:Str):(Vf s).1.digits.length<=1000:=(Se (KF s)).1
theorem Gs(s:Str)(q:Nat):Lib.decodeL (s.drop q)=Utf8.decode (bs s) q:=Lib.decodeL_drop (bs s) q
theorem Ph(s:Str)(q:Nat):1<=(Utf8.decode (bs s) q).2:=by rw[<-Gs];exact Lib.decodeL_width _
theorem O_(s:Str)(q:Nat)(h:q<s.length):q+(Utf8.decode (bs s) q).2<=s.length:=by
  have:=Lib.decodeL_le (s.drop q) (by rw[ne_eq,List.drop_eq_nil_iff];omega);rw[Gs,List.length_drop]at this;omega
theorem J_(s:Str)(q:Nat)(h:q<s.length)(hv:Lib.validD (s.drop q)=false)(hn:¬((Utf8.decode (bs s) q).1=65533/\(Utf8.decode (bs s) q).2=1)):Lib.validD (s.drop (q+(Utf8.decode (bs s) q).2))=false:=by
  rw[Lib.validD_step _ (by rw[ne_eq,List.drop_eq_nil_iff];omega),Gs,if_neg hn,List.drop_drop]at hv;exact hv
theorem Ny(s:Str)(q:Nat)(h:q<s.length):Lib.decodeGo (bs (s.drop q))=Utf8.decode (bs s) q:=by
  have h1:(bs (s.drop q)).size≠0:=by rw[Bs,List.length_drop];omega
  rw[Lib.decodeGo,if_neg h1];exact Gs s q
theorem MA(s:Str)(hl:s.length<=140737488355328){w:World}(hG:Gl w):Calls prog 108 #[I s] w (Td λv w'=>v=.bool (Lib.validD s)/\Same [] w w') :=
  Sx (utf8_ValidString (bs s) w (by rw[Bs];omega) hG.tabs)
theorem PE(s:Str){w:World}(hG:Gl w):Calls prog 109 #[I s] w (Td λv w'=>v=.tuple #[.int .i32 (Lib.decodeGo (bs s)).1,J (Lib.decodeGo (bs s)).2]/\Same [] w w') :=
  Sx (utf8_DecodeRuneInString (bs s) w hG.tabs)
theorem Q6(s:Str)(hl:s.length<=140737488355328)(w0:World)(hG:Gl w0):Calls prog 70 #[I s] w0 (Td λv w'=>∃n,v=.tuple #[J n,.bool (Lib.validD s)]/\Same [] w0 w'):=by
  refine Ga func70 O ntmps70 Fb (Ad _) ?_;have hF:=FR.start w0 [];refine Ha (Fa ?_);refine Ca (Sc O) (Ca (Hc O) ?_);refine Db (Ia ?_);refine Ha (Ha ?_);refine Fa (Ca (Ug O) ?_);refine Gb hF (MA s hl (hG.ext hF.same)) (Ra en_108 O O) ?_;intro w hF;refine Db (Ia ?_);refine Uf O O (λhc0=>?_) (λhc0=>?_)
  ·
   refine Ha (Fa ?_);refine Ca (Ug O) (Ca (GI kX O) ?_);refine Ca (Sc O) (Ca (Hc O) ?_);refine Db (Ia ?_);refine Cc (Bc (Sa (Bg (v:=J ((((s):Str).length:Int))) (x:=.bool true) O O O) ?_));exact⟨_,by rw[hc0],hF.same⟩
  refine Ta (Ia ?_);refine Ha (Ha ?_);refine Fa (Ca (Ug O) ?_);refine O0 (str:=s) hF kX O ?_;intro b1 w hb1 hF hE;refine Db (Ia ?_);refine Va (Rc (λμ σ w=>∃(q:Nat),μ=s.length-q/\(q<=s.length)/\(Lib.validD (s.drop q)=false)/\AllEq σ [(0,I s),(13,V b1)]/\FR w0 [] [(b1,.stringIter (bs s) (q))] w) _ ⟨0,O,(Nat.zero_le _),(by simpa using hc0),ED,hF⟩ ?_);rintro μ σ w ⟨q,rfl,hq,hv,hs,hF⟩;refine Cg.slots hs ?_;clear hs;intro σ;refine Ha (Fa ?_);by_cases hn0:(q)<(s:Str).length
  ·
   refine X6 0 (p:=q) (str:=s) hF O O hn0 ?_;intro w hF hE;refine Ca (Fq O O) (Db ?_);refine Ia (Ha ?_);refine Ge O (Ta ?_);refine Ia (Va ?_);refine Ha (Fa ?_);refine Ca (Rs O O) (Ca (Rs O O) ?_);refine Ca (Sc O) (Ca (Sc O) ?_);refine Db (Ia ?_);refine Ha (Ha ?_);refine Fa (Ca (Kb O) ?_);refine Ca (Mz O O) (Db ?_);refine Ia (Pc O O (λhc2=>?_) (λhc2=>?_))
   ·
    refine Nc (Kc O ?_);have h1:=Ph s q;have hw:¬((Utf8.decode (bs s) q).1=65533/\(Utf8.decode (bs s) q).2=1):=by
      first
      | (intro hh;omega)
      | (rw[Ny s q sX]at hc3;intro hh;omega)
    refine Yb ⟨_,?_,q+(Utf8.decode (bs s) q).2,O,(O_ s q sX),(J_ s q sX hv hw),ED,hF⟩;omega
   refine Ta (Ia ?_);refine Ha (Fa ?_);refine Ca (Ug O) (Ca (Kb O) ?_);refine Ka (v:=I ((s:Str).drop (q))) (KH (q) kX O O sX) (Gb hF (PE (s.drop q) (hG.ext hF.same)) (Ra en_109 O O) ?_);intro w hF;refine Ca (Ro O) (Ca (Rs O O) ?_);refine Ca (Rs O O) (Ca (Sc O) ?_);refine Ca (Sc O) (Db ?_);refine Ia (Ha ?_);refine Fa (Ca (Kb O) ?_);refine Ca (Pq O O) (Db ?_);refine Ia (Pc O O (λhc3=>?_) (λhc3=>?_))
   ·
    refine Ha (Fa ?_);refine Ca (Kb O) (Ca (Sc O) ?_);refine Ca (Hc O) (Db ?_);refine Ia (Cc (Bc (Sa (Bg (v:=J (((q:Nat):Int))) (x:=.bool false) O O O) ?_)));exact⟨_,by rw[hc0],hF.same⟩
   refine Ta (Ib ?_);have h1:=Ph s q;have hw:¬((Utf8.decode (bs s) q).1=65533/\(Utf8.decode (bs s) q).2=1):=by
     first
     | (intro hh;omega)
     | (rw[Ny s q sX]at hc3;intro hh;omega)
   refine Yb ⟨_,?_,q+(Utf8.decode (bs s) q).2,O,(O_ s q sX),(J_ s q sX hv hw),ED,hF⟩;omega
  refine Yu 0 (p:=q) (str:=s) hF O O hn0 (Ca (Fq O O) ?_);refine Db (Ia ?_);refine Ha (Kg O ?_);refine Nc (Kc O ?_);refine Ia (Ha ?_);refine Fa (Ca (Ug O) ?_);refine Ca (GI kX O) (Ca (Sc O) ?_);refine Ca (Hc O) (Db ?_);refine Ia (Cc (Bc (Sa (Bg (v:=J ((((s):Str).length:Int))) (x:=.bool true) O O O) ?_)));have e:s.drop q=[]:=List.drop_eq_nil_of_le sX;rw[e]at hv;cases hv
theorem WP(s:Str)(hl:s.length<=140737488355328)(w0:World)(hG:Gl w0):Calls prog 88 #[I s] w0 (Td λv w'=>v=.bool (Lib.validD s)/\Same [] w0 w'):=by
 refine Ga func88 O ntmps88 Fb (Ad _) ?_;have hF:=FR.start w0 [];refine Ja (Ca (Hc O) (Fc (Ca (Ug O) ?_)));refine Cb (Q6 s hl _ (hG.ext hF.same)) (Ra JQ O O) ?_;rintro _ w ⟨n,rfl,hE⟩;have hF:=hF.ext hE;refine Ca (Ro O) (Ca (Rs O O) (Ca (Fq O O) (Ca (Sc O) (Ca (Hc O) (Fc (Ca (Ae O) (Ca (Hc O) (Ea ?_))))))));refine Qd (v:=.bool _) O O ?_;exact⟨O,hF.same⟩
theorem QC(s:Str)(hl:s.length<=140737488355328)(w0:World)(hG:Gl w0):Calls prog 87 #[I s] w0 (Td λv w'=>v=.tuple #[Ju (Vf s).1,.bool (Nt s)]/\Same [] w0 w'):=by
 refine Ga func87 O ntmps87 Fb (Ad _) ?_;have hF:=FR.start w0 [];refine Ja (Od (cs:=#[.bool false,I [],J 0]) hF qX O ?_);rintro b1 w hb1 hF -;refine Ca (Hc O) (Fc (Ca (Ug O) ?_));refine Gb hF (FQ s hl _) (Ra en_60 O O) ?_;intro w hF;refine Ca (Ro O) (Ca (N4 O O) (Ca (Rs O O) ?_));refine Kh hF qX tZ O ?_;rintro b2 w hb2 hF -;refine Ca (Sc O) (Ea (Ha ?_));refine Id (.of []) (bQ [0,1,2,3,4,6] (.act 5 (.free 7 (.free 8 (.act 9 (.free 10 .nil)))))) hF ?_;rintro w hF -;refine⟨λwq=>FR w0 [] [(b2,.cells #[.bool ((Vf s).1.neg),I ((Vf s).1.digits),J ((Vf s).1.exp)] 77)] wq,hF.sub (.cons_cons _ (.cons _ .slnil)),?_⟩;refine Hl O (Ch eZ tZ O C0 0 O O) (Hb O (Kb O) (Hb O (Pq O O) (Hb O (Ae O) ?_)));refine Sq (d:=14) O (λhg0=>?_) (λhg0=>?_);refine Hl O (Ch eZ tZ O C0 0 O O) (Hb O (Ug O) ?_);refine Eh hF (LX (Vf s).1 (by have:=Jz s;omega) _ (hG.ext hF.same)) O (Ra en_34 O O) ?_;intro w hF;refine⟨hF.sub (.cons_cons _ (.cons _ .slnil)),?_⟩;refine Hb O (XK O O) (Hb O (Nd O O) ?_);refine Zw O hF tZ O O Yt ?_;rintro w hF -;refine⟨hF.sub (.cons_cons _ (.cons _ .slnil)),?_⟩;refine Hb O (Hc O) (Ec (Ia ?_));refine Cc (Bc (Sa (Me O (l:=[.bool ((Vf s).1.neg),I ((Vf s).1.digits),J ((Vf s).1.exp)]) O eZ tZ O (hF.cellsAll 1 O) (v:=.bool (decide ((Ip (Vf s).1:Str)=s))) O) ?_));exact⟨by simp_all[Nt,Ju],hF.same⟩;refine Om O (Om O ?_);refine f_skip O ?_ (hF.sub (.cons_cons _ (.cons _ .slnil)));refine Om O (Hb O (Md O O) ?_);refine Zw O hF tZ O O Yt ?_;rintro w hF -;refine⟨hF.sub (.cons_cons _ (.cons _ .slnil)),?_⟩;refine Hb O (Hc O) (Ec (Ia ?_));refine Cc (Bc (Sa (Me O (l:=[.bool ((Vf s).1.neg),I ((Vf s).1.digits),J ((Vf s).1.exp)]) O eZ tZ O (hF.cellsAll 1 O) (v:=.bool false) O) ?_));exact⟨by simp_all[Nt,Ju],hF.same⟩
theorem hole_c(s:Str)(hl:s.length<=140737488355328)(w0:World)(hG:Gl w0):Calls prog 89 #[I s] w0 (Td λv w'=>v=.bool (GJ s)/\Same [] w0 w'):=by
 refine Ga func89 O ntmps89 Fb (Ad _) ?_;have hF:=FR.start w0 [];refine Ja (Ca (Hc O) (Fc (Ca (Ug O) ?_)));refine Gb hF (QC s hl _ (hG.ext hF.same)) (Ra en_87 O O) ?_;intro w hF;refine Ca (Ro O) (Ca (N4 O O) (Ca (Fq O O) ?_));refine Kh hF qX tZ O ?_;rintro b1 w hb1 hF -;refine Ca (Hc O) (Fc (Yc (Ch eZ tZ O hF.F 0 O O) ?_));refine Gb hF (QW (Vf s).1 (by have:=Jz s;omega) _ (hG.ext hF.same)) (Ra en_129 O O) ?_;intro w hF;refine Ca (Ro O) (Ca (Rs O O) (Ca (Fq O O) (Ca (Sc O) (Ca (Hc O) (Fc (Ca (Ae O) (Ca (Ae O) ?_)))))));refine Oe (d:=18) O (λhg0=>?_) (λhg0=>?_);refine Ca (Ae O) (Ca (Nd O O) (Ca (Ae O) ?_));refine Oe (d:=21) O (λhg1=>?_) (λhg1=>?_);refine Ca (Kb O) (Ca (GC O O) (Ca (Nd O O) (Ca (Hc O) (Ea ?_))));refine Qd (v:=.bool _) O O ?_;exact⟨by simp_all[GJ],hF.same⟩;refine Oa (Oa (Ca (Md O O) (Ca (Hc O) (Ea ?_))));refine Qd (v:=.bool false) O O ?_;exact⟨by simp_all[GJ],hF.same⟩;refine Oa (Ca (Md O O) (Ca (Ae O) (Oa (Oa (Ca (Md O O) (Ca (Hc O) (Ea ?_)))))));refine Qd (v:=.bool false) O O ?_;exact⟨by simp_all[GJ],hF.same⟩
def Ms(ks:List Str)(n:Int):Bool:=decide ks.Nodup&&ks.all Lib.validD&&decide ((ks.length:Int)=n)
def Wp(ks:List Str):MapL:=ks.map λk=>(k,.bool true)
theorem Cu(ks:List Str)(k:Str):Lg (Wp ks) k=if k∈ks then some (.bool true) else none:=by
  induction ks with
  | nil=>rfl
  | cons a r ih =>
    have e:Wp (a::r)=[(a,.bool true)]++Wp r:=rfl;rw[e,XE,ih];by_cases h:a=k
    ·subst h;simp[Lg]
    have h' : ¬ k = a := λe => h e.symm;simp[Lg,h,h']
theorem UO(ks:List Str)(j:Nat)(h:j<ks.length):Wp (ks.take j)++[(ks[j],.bool true)]=Wp (ks.take (j+1)):=by
  unfold Wp;rw[iQ h,jQ];rfl
theorem L6{ks:List Str}{j:Nat}(h:j<ks.length)(hn:(ks.take j).Nodup)(hi:¬ks[j]∈ks.take j):(ks.take (j+1)).Nodup:=by
  rw[iQ h,List.nodup_append];refine⟨hn,by simp,?_⟩;intro a ha b hb e;simp only[pQ]at hb;subst e;subst hb;exact hi ha
theorem Z2{ks:List Str}{j:Nat}(h:j<ks.length)(hi:ks[j]∈ks.take j):¬ks.Nodup:=by
  intro hn;obtain⟨i,hi',he⟩:=List.getElem_of_mem hi;rw[List.getElem_take]at he;have hi2:i<j:=by rw[List.length_take]at hi';omega
  have:=(List.pairwise_iff_getElem.1 hn) i j sX h hi2;exact this he
theorem X_{f:Str->Bool}{ks:List Str}{j:Nat}(h:j<ks.length)(ha:(ks.take j).all f=true)(hv:f ks[j]=true):(ks.take (j+1)).all f=true:=by
  rw[iQ h,List.all_append,ha];simp[hv]
theorem not_all{f:Str->Bool}{ks:List Str}{j:Nat}(h:j<ks.length)(hv:f ks[j]=false):ks.all f=false:=by
  rw[Bool.eq_false_iff];intro ha;have:=List.all_eq_true.1 ha ks[j] (eQ h);rw[hv]at this;cases this
theorem keyed_c(ks:List Str)(n:Int)(S:Nat->Prop)(A:Option Addr)(c:Nat)(hl:∀k∈ks,k.length<=140737488355328)(w0:World)(hG:Gl w0)(hX:Rep S w0 (Xd ks) [.slice A ks.length c]):Calls prog 86 #[.slice A ks.length c,J n] w0 (Td λv w'=>v=.bool (Ms ks n)/\Same [] w0 w'):=by
 have hXl:=hX.slice_len;refine Ga func86 O ntmps86 Fb (Zc _ _) ?_;have hF:=FR.start w0 [];refine Ja (Ca (Hc O) (Fc (Ca (Pd O) (Ca (Ye dX O) ?_))));refine Xp (v:=λb=>.map (some b)) hF (JD wZ O) ?_;rintro b1 w hb1 hF -;refine Ca (Ry) (Ea (Ha (Ja (Ca (Pd O) (Ca (Ye dX O) (Ca (Kb O) (Ea (Va ?_))))))));have hF:FR w0 [] [(b1,Ji (Wp (ks.take 0)))] w:=hF;refine Rc (λμ σ w=>∃(j:Nat),μ=ks.length-j/\(j<=ks.length)/\((ks.take j).Nodup)/\((ks.take j).all Lib.validD=true)/\AllEq σ [(0,.slice A ks.length c),(1,J n),(5,.map (some b1)),(11,.slice A ks.length c),(12,J ((ks.length:Nat))),(13,J ((j:Int)))]/\FR w0 [] [(b1,Ji (Wp (ks.take j)))] w) _ ⟨0,O,(Nat.zero_le _),Da,Da,I6,hF⟩ ?_;rintro μ σ w ⟨j,rfl,hj,hd,hv,hs,hF⟩;refine Cg.slots hs ?_;clear hs;intro σ;refine Ja (Ca (Kl O O) (Ea (Ha ?_)));refine Pc O O (λhc0=>?_) (λhc0=>?_);refine Ta (Ia (Ha (Va (Ja ?_))));obtain⟨ad0,hA0,hk0,hx0⟩:=hX.str_elem (i:=j) sX;refine Ka (v:=.pointer (some (ad0.add (j*1)))) (Pa (i:=(j:Int)) Cr O hA0 O sX sX) (Ka (v:=I (ks[j])) (Jb fZ O (hF.cell0 hk0)) (Ca (Qm O) (Ea (Ha (Ja (Ca (Mr) (Ca (Ug O) ?_)))))));refine Ka (v:=.bool (decide (ks[j]∈ks.take j))) (T4 wZ kX zeroValue4 O O (hF.heap (i:=0) O) (by rw[Cu];split <;> rename_i hh <;> simp only[hh,decide_true,decide_false] <;> rfl)) ?_;refine Ca (Ae O) (Dd (d:=20) O (λhg1=>?_) (λhg1=>?_));refine Oa (Oa (Oa (Ca (Nd O O) (Ea (Ge O (Ja (Ca (Hc O) (Ea ?_))))))));refine Qd (v:=.bool false) O O ?_;have:=Z2 (ks:=ks) (j:=j) sX (by assumption);exact⟨congrArg Value.bool (by unfold Ms;rw[decide_eq_false this];rfl),hF.same⟩;refine Ca (Ug O) (Gb hF (WP ks[j] (hl _ (eQ _)) _ (hG.ext hF.same)) (Ra en_88 O O) ?_);intro w hF;refine Ca (Zj O) (Ca (Md O O) (Ea ?_));refine Uf O O (λhc1=>?_) (λhc1=>?_);refine Ja (Ca (Hc O) (Ea ?_));refine Qd (v:=.bool false) O O ?_
 have:=not_all (f:=Lib.validD) (ks:=ks) (j:=j) sX (by simpa using hc1);exact⟨congrArg Value.bool (by unfold Ms;rw[this,Bool.and_false];rfl),hF.same⟩;refine Ta (Ia (Fa (Ca (Mr) (Ca (Ug O) ?_))));refine Lx 0 (v:=.bool true) hF wZ kX O O O O (by rw[Cu,if_neg (by assumption)]) ?_;rintro w hF -;rw[UO ks j sX]at hF;have hF:FR w0 [] [(b1,Ji (Wp (ks.take (j+1))))] w:=hF;refine Db (Ib (Ia (Fa (Ca (Um O O) (Ca (Kb O) (Db ?_))))));refine Yb ⟨_,?_,j+1,O,sX,(L6 sX hd (by assumption)),(X_ sX hv (by simpa using hc1)),I6,hF⟩;omega;refine Nc (Kc O ?_);refine Ia (Ja (Ca (Pd O) (Ca (Ye dX O) (Ca (Kb O) (Ca (Pq O O) (Ca (Hc O) (Ea ?_)))))));refine Qd (v:=.bool _) O O ?_;obtain rfl:j=ks.length:=by omega
 rw[List.take_length]at hd hv;exact⟨congrArg Value.bool (by unfold Ms;rw[hv,decide_eq_true hd];rfl),hF.same⟩
mutual
def Yz:Tree->Prop|.node _ t ks xs=>t.length<=140737488355328/\(∀k∈ks,k.length<=140737488355328)/\WJ xs
def WJ:List Tree->Prop|[]=>True|x::xs=>Yz x/\WJ xs
end
theorem Ww:∀{xs:List Tree},WJ xs->∀x∈xs,Yz x
  | [],_,_,h=>absurd h Da
  | y :: ys, h, x, hx => by
    rw[WJ]at h;rcases oQ.1 hx with rfl|hx
    ·exact h.1
    exact Ww h.2 x hx
def nodeB:Tree->Bool
  | .node k t ks xs =>
    if k=5 then decide (ks=[])&&decide (t=[]) else
    if k=6 then Ms ks xs.length&&decide (t=[]) else
    if ks≠[]\/xs≠[] then false else
    if k=1 then decide (t=[]) else
    if k=2 then decide (t=[116,114,117,101]) || decide (t=[102,97,108,115,101]) else
    if k=3 then Nt t else if k=4 then Lib.validD t else if k=7 then GJ t else false
def IC(g:Nat)(q:Tree->Bool):Prop:=∀(x:Tree)(S:Nat->Prop)(w0:World)(cs:List Value),Rep S w0 (Zb x) cs->Yz x->Gl w0->Calls prog g #[.agg cs.toArray] w0 (Td λv w'=>v=.bool (q x)/\Same [] w0 w')
theorem MZ  : IC 57 nodeB:=by
 rintro⟨k,t,ks,xs⟩ S w0 cs hR hk hG;obtain⟨A,c,B,e,rfl,-,-,hK,hX⟩:=hR.tree_inv;rw[Yz]at hk;refine Ga func57 O ntmps57 Fb (Ad _) ?_;have hF:=FR.start w0 [];refine Ja (Ve hF O ?_);rintro b1 w hb1 hF -;refine Ca (Hc O) (Ea (Ha ?_));refine If (zs:=.of []) (bQ [0,1,2,3,4,5,6,7,8,9] .nil) hF ?_;intro w hF;refine Hb O (Xb Of O) (Hl O (Rf xQ O C0 0 O O) (Hb O (Ye dX O) (Hb O (QB O O) (Hb O (Xb Jc O) (Hl O (Rf yQ O C0 0 O O) (Hb O (Ye fX O) (Hb O (QB O O) (Hb O (Hc O) (Hb O (Hc O) (Ec (Ia (Ha (Ha ?_)))))))))))));refine Fa (Ca (Xb Wh O) (Yc (Xs bZ O hF.F 0 O O) (Ea (Va (Ja (Ca (Pq O O) (Ca (Hc O) (Ea ?_))))))));refine Pc O O (λhc0=>?_) (λhc0=>?_);refine Ja (Ca (Ae O) (Ca (ynd O) (Ca (Ae O) ?_)));refine Dd (d:=21) O (λhg0=>?_) (λhg0=>?_);refine Ca (Xb Vh O) (Yc (Wy fZ O hF.F 0 O O) (Ca (XK O O) (Ca (Nd O O) (Ca (Hc O) (Ea ?_)))));refine Qd (v:=.bool _) O O ⟨?_,hF.same⟩;clear hF hR hK hX hb1;simp_all[nodeB,List.length_pos_iff];refine Oa (Oa (Oa (Ca (Md O O) (Ca (Hc O) (Ea ?_)))));refine Qd (v:=.bool false) O O ⟨?_,hF.same⟩;clear hF hR hK hX hb1;simp_all[nodeB,List.length_pos_iff];refine Ja (Ca (Pq O O) (Ca (Hc O) (Ea ?_)));refine Pc O O (λhc1=>?_) (λhc1=>?_);refine Ja (Ca (Xb Of O) (Yc (Rf xQ O hF.F 0 O O) (Ca (Xb Jc O) (Yc (Rf yQ O hF.F 0 O O) (Ca (Ye fX O) ?_)))));refine Gb hF (keyed_c ks (xs.length:Nat) S A c (by simpa using hk.2.1) _ (hG.ext hF.same) (hF.rep hK)) (Za en_86 O O O) ?_;intro w hF;refine Ca (Ae O) (Oe (d:=34) O (λhg1=>?_) (λhg1=>?_));refine Ca (Xb Vh O) (Yc (Wy fZ O hF.F 0 O O) (Ca (XK O O) (Ca (Nd O O) (Ca (Hc O) (Ea ?_)))));refine Qd (v:=.bool _) O O ⟨?_,hF.same⟩;clear hF hR hK hX hb1;simp_all[nodeB,List.length_pos_iff];refine Oa (Oa (Oa (Ca (Md O O) (Ca (Hc O) (Ea ?_)))));refine Qd (v:=.bool false) O O ⟨?_,hF.same⟩;clear hF hR hK hX hb1
 simp_all[nodeB,List.length_pos_iff];refine Ta (Ib (Ia (Ha (Ja (Ca (Ae O) (Ca (Ae O) ?_))))));refine Dd (d:=40) O (λhg2=>?_) (λhg2=>?_);refine Oa (Ca (Nd O O) (Ea (Ge O (Ja (Ca (Hc O) (Ea ?_))))));refine Qd (v:=.bool false) O O ⟨?_,hF.same⟩;clear hF hR hK hX hb1;simp_all[nodeB,List.length_pos_iff];refine Ca (Ae O) (Ca (Md O O) (Ea ?_));refine Pc O O (λhc2=>?_) (λhc2=>?_);refine Ja (Ca (Hc O) (Ea ?_));refine Qd (v:=.bool false) O O ⟨?_,hF.same⟩;clear hF hR hK hX hb1;simp_all[nodeB,List.length_pos_iff];refine Ta (Ia (Ha (Ja (Ca (Xb Wh O) (Yc (Xs bZ O hF.F 0 O O) (Ea (Va (Ja (Ca (Pq O O) (Ca (Hc O) ?_))))))))));refine Ea (Pc O O (λhc3=>?_) (λhc3=>?_));refine Ja (Ca (Xb Vh O) (Yc (Wy fZ O hF.F 0 O O) (Ca (XK O O) (Ca (Hc O) (Ea ?_)))));refine Qd (v:=.bool _) O O ⟨?_,hF.same⟩;clear hF hR hK hX hb1;simp_all[nodeB,List.length_pos_iff];refine Ja (Ca (Pq O O) (Ca (Hc O) (Ea ?_)));refine Pc O O (λhc4=>?_) (λhc4=>?_);refine Ja (Ca (Xb Vh O) (Yc (Wy fZ O hF.F 0 O O) (Ca (XK O O) (Ca (Ae O) ?_))));refine Dd (d:=55) O (λhg3=>?_) (λhg3=>?_);refine Oa (Oa (Oa (Ca (Nd O O) (Ca (Hc O) (Ea ?_)))));refine Qd (v:=.bool true) O O ⟨?_,hF.same⟩;clear hF hR hK hX hb1;simp_all[nodeB,List.length_pos_iff];refine Ca (Xb Vh O) (Yc (Wy fZ O hF.F 0 O O) (Ca (XK O O) (Ca (Md O O) (Ca (Hc O) (Ea ?_)))));refine Qd (v:=.bool _) O O ⟨?_,hF.same⟩;clear hF hR hK hX hb1;simp_all[nodeB,List.length_pos_iff];refine Ja (Ca (Pq O O) (Ca (Hc O) (Ea ?_)));refine Pc O O (λhc5=>?_) (λhc5=>?_);refine Ja (Ca (Xb Vh O) (Yc (Wy fZ O hF.F 0 O O) ?_));refine Gb hF (QC t hk.1 _ (hG.ext hF.same)) (Ra en_87 O O) ?_;intro w hF;refine Ca (Ro O) (Ca (N4 O O) (Ca (Fq O O) ?_));refine Kh hF qX tZ O ?_;rintro b2 w hb2 hF -;refine Ca (Hc O) (Fc (Ca (Ae O) (Ca (Hc O) (Ea ?_))));refine Qd (v:=.bool _) O O ⟨?_,hF.same⟩
 clear hF hR hK hX hb1;simp_all[nodeB,List.length_pos_iff];refine Ja (Ca (Pq O O) (Ca (Hc O) (Ea ?_)));refine Pc O O (λhc6=>?_) (λhc6=>?_);refine Ja (Ca (Xb Vh O) (Yc (Wy fZ O hF.F 0 O O) ?_));refine Gb hF (WP t hk.1 _ (hG.ext hF.same)) (Ra en_88 O O) ?_;intro w hF;refine Ca (Hc O) (Ea ?_);refine Qd (v:=.bool _) O O ⟨?_,hF.same⟩;clear hF hR hK hX hb1;simp_all[nodeB,List.length_pos_iff];refine Ja (Ca (Pq O O) (Ca (Hc O) (Ea ?_)));refine Pc O O (λhc7=>?_) (λhc7=>?_);refine Ja (Ca (Xb Vh O) (Yc (Wy fZ O hF.F 0 O O) ?_));refine Gb hF (hole_c t hk.1 _ (hG.ext hF.same)) (Ra en_89 O O) ?_;intro w hF;refine Ca (Hc O) (Ea ?_);refine Qd (v:=.bool _) O O ⟨?_,hF.same⟩;clear hF hR hK hX hb1;simp_all[nodeB,List.length_pos_iff];refine Ta (Ib (Ia (Ja (Ca (Hc O) (Ea ?_)))));refine Qd (v:=.bool false) O O ⟨?_,hF.same⟩;clear hF hR hK hX hb1;simp_all[nodeB,List.length_pos_iff]
theorem Tree.ind{Q:Tree->Prop}(h:∀k t ks xs,(∀x,x∈xs->Q x)->Q (.node k t ks xs))(x:Tree):Q x :=
  Tree.rec (motive_1:=Q) (motive_2:=λxs=>∀x,x∈xs->Q x) (λk t ks xs ih=>h k t ks xs ih) Da
    (λy ys h1 h2=>by
      intro z hz;rcases oQ.1 hz with rfl|hz
      ·exact h1
      exact h2 z hz) x
mutual
def Wb:Tree->Nat|.node _ _ _ xs=>1+Rb xs
def Rb:List Tree->Nat|[]=>0|x::xs=>Wb x+Rb xs
end
mutual
def Cd:Tree->Nat|.node _ _ _ xs=>Ed xs+1
def Ed:List Tree->Nat|[]=>0|x::xs=>max (Cd x) (Ed xs)
end
theorem Qe:∀(xs ys:List Tree),Rb (xs++ys)=Rb xs+Rb ys
  | [],ys=>by simp[Rb]
  | x::xs,ys=>by simp[Rb,Qe xs ys,Nat.add_assoc]
theorem Ho:∀(xs ys:List Tree),Ed (xs++ys)=max (Ed xs) (Ed ys)
  | [],ys=>by simp[Ed]
  | x::xs,ys=>by simp only[List.cons_append,Ed,Ho xs ys];omega
theorem TJ(xs:List Tree)(j:Nat)(hj:j<xs.length):Rb (xs.take (j+1))=Rb (xs.take j)+Wb xs[j]:=by
  rw[iQ hj,Qe];simp[Rb]
theorem OE(xs:List Tree)(j:Nat)(hj:j<xs.length):Ed (xs.take (j+1))=max (Ed (xs.take j)) (Cd xs[j]):=by
  rw[iQ hj,Ho];simp[Ed]
theorem Uh:∀{xs:List Tree}{x:Tree},x∈xs->Wb x<=Rb xs
  | [],_,h=>absurd h Da
  | y :: ys, x, h => by
    rw[Rb];rcases oQ.1 h with rfl|h
    ·omega
    have:=Uh h;omega
theorem Bt(x:Tree):1<=Wb x:=by cases x;rw[Wb];omega
theorem Mj:∀(xs:List Tree),xs.length<=Rb xs
  | []=>by simp[Rb]
  | x::xs=>by have:=Mj xs;have:=Bt x;simp only[Rb,kQ];omega
theorem depth_le(x:Tree):Cd x<=Wb x:=by
  refine Tree.ind (Q:=λx=>Cd x<=Wb x) (λk t ks xs ih=>?_) x;have:Ed xs<=Rb xs:=by
    induction xs with
    | nil=>simp[Ed,Rb]
    | cons y ys ihy =>
      have h1:=ih y Da;have h2:=ihy (λz hz=>ih z (by simp[hz]));simp only[Ed,Rb];omega
  simp only[Cd,Wb];omega
theorem LO(xs:List Tree):Ed xs<=Rb xs:=by
  have:=depth_le (.node 0 [] [] xs);simp only[Cd,Wb]at this;omega
def SizeC(x:Tree):Prop:=∀S w0 cs,Rep S w0 (Zb x) cs->Calls prog 83 #[.agg cs.toArray] w0 (Td λv w'=>v=J (wr (Wb x))/\Same [] w0 w')
theorem NT(k:Int)(t:Str)(ks:List Str)(xs:List Tree)(ih:∀x,x∈xs->SizeC x):SizeC (.node k t ks xs):=by
 intro S w0 cs hR;obtain⟨A,c,B,e,rfl,-,-,-,hX⟩:=hR.tree_inv;have hXl:=hX.slice_len;refine Ga func83 O ntmps83 Fb (Ad _) ?_;have hF:=FR.start w0 [];refine Ja (Ve hF O ?_);rintro b1 w hb1 hF -;refine Ca (Sc O) (Fc (Ca (Sc O) (Ea (Ha (Ja (Ca (Xb Jc O) (Yc (Rf yQ O hF.F 0 O O) (Ca (Ye fX O) ?_))))))));refine Ca (Kb O) (Ea (Va ?_));refine Rc (λμ σ w=>∃(j:Nat),μ=xs.length-j/\(j<=xs.length)/\AllEq σ [(3,J (wr (1+Rb (xs.take j)))),(7,.slice B xs.length e),(8,J ((xs.length:Nat))),(9,J ((j:Int)))]/\FR w0 [] [(b1,.cells #[J k,I t,.slice A ks.length c,.slice B xs.length e] 27)] w) _ ⟨0,O,(Nat.zero_le _),Tq,hF⟩ ?_;rintro μ σ w ⟨j,rfl,hj,hs,hF⟩;refine Cg.slots hs ?_;clear hs;intro σ;refine Ja (Ca (Kl O O) (Ea (Ha ?_)));refine Pc O O (λhc0=>?_) (λhc0=>?_);refine Ta (Ia (Ha (Va (Ja ?_))));obtain⟨ad0,cs0,hA0,hl0,hk0,hx0⟩:=hX.tree_elem (i:=j) sX;have ho0:=hx0.one_;refine Ka (v:=.pointer (some (ad0.add (j*4)))) (Pa (i:=(j:Int)) Hj O hA0 O sX sX) (Ka (v:=.agg (List.toArray cs0)) (Ya (l:=cs0) aZ oZ O hl0 (hF.cells0 hk0)) ?_);refine Nw (l:=cs0) hF nX (by rw[hl0];exact oZ) (by rw[hl0];rfl) (v:=.agg (List.toArray cs0)) O O (ho0) O ?_;rintro b2 w hb2 hF -;refine Ea (Fa (Ca (Kb O) (Ka (v:=.agg (List.toArray cs0)) (Ya (l:=cs0) aZ oZ O hl0 (hF.cellsAll 0 O)) ?_)));refine Gb hF (ih _ (eQ _) _ _ _ (hF.rep hx0)) (Ra en_83 O O) ?_;intro w hF;refine Ka (v:=J (wr (1+Rb (xs.take (j+1))))) (C6 O O (by rw[XU,TJ xs j sX,Int.natCast_add,Int.add_assoc])) (Ca (Sc O) (Db (Ib (Ia (Fa (Ca (Um O O) (Ca (Kb O) (Db ?_))))))));refine Yb ⟨_,?_,j+1,O,sX,Tq,hF.drop 1⟩;omega;refine Nc (Kc O ?_);refine Ia (Ja (Ca (Kb O) (Ca (Sc O) (Ea ?_))));refine Qd (v:=J (wr (1+Rb (xs.take j)))) O O ?_;obtain rfl:j=xs.length:=by omega
 exact⟨by simp[Wb],hF.same⟩
theorem size_c(x:Tree):SizeC x:=Tree.ind NT x
def VN(x:Tree):Prop:=Wb x<=1000000000->∀S w0 cs,Rep S w0 (Zb x) cs->Calls prog 84 #[.agg cs.toArray] w0 (Td λv w'=>v=J (Cd x:Nat)/\Same [] w0 w')
theorem VM(k:Int)(t:Str)(ks:List Str)(xs:List Tree)(ih:∀x,x∈xs->VN x):VN (.node k t ks xs):=by
 intro hsz S w0 cs hR;obtain⟨A,c,B,e,rfl,-,-,-,hX⟩:=hR.tree_inv;have hXl:=hX.slice_len;have hdl:=LO xs;rw[Wb]at hsz;refine Ga func84 O ntmps84 Fb (Ad _) ?_;have hF:=FR.start w0 [];refine Ja (Ve hF O ?_);rintro b1 w hb1 hF -;refine Ca (Sc O) (Fc (Ca (Sc O) (Ea (Ha (Ja (Ca (Xb Jc O) (Yc (Rf yQ O hF.F 0 O O) (Ca (Ye fX O) ?_))))))));refine Ca (Kb O) (Ea (Va ?_));refine Rc (λμ σ w=>∃(j:Nat),μ=xs.length-j/\(j<=xs.length)/\AllEq σ [(3,J ((Ed (xs.take j):Nat))),(7,.slice B xs.length e),(8,J ((xs.length:Nat))),(9,J ((j:Int)))]/\FR w0 [] [(b1,.cells #[J k,I t,.slice A ks.length c,.slice B xs.length e] 27)] w) _ ⟨0,O,(Nat.zero_le _),Tq,hF⟩ ?_;rintro μ σ w ⟨j,rfl,hj,hs,hF⟩;refine Cg.slots hs ?_;clear hs;intro σ;refine Ja (Ca (Kl O O) (Ea (Ha ?_)));refine Pc O O (λhc0=>?_) (λhc0=>?_);refine Ta (Ia (Ha (Va (Ja ?_))));obtain⟨ad0,cs0,hA0,hl0,hk0,hx0⟩:=hX.tree_elem (i:=j) sX;have ho0:=hx0.one_;refine Ka (v:=.pointer (some (ad0.add (j*4)))) (Pa (i:=(j:Int)) Hj O hA0 O sX sX) (Ka (v:=.agg (List.toArray cs0)) (Ya (l:=cs0) aZ oZ O hl0 (hF.cells0 hk0)) ?_);refine Nw (l:=cs0) hF nX (by rw[hl0];exact oZ) (by rw[hl0];rfl) (v:=.agg (List.toArray cs0)) O O (ho0) O ?_;rintro b2 w hb2 hF -;refine Ea (Fa (Ca (Kb O) (Ka (v:=.agg (List.toArray cs0)) (Ya (l:=cs0) aZ oZ O hl0 (hF.cellsAll 0 O)) ?_)));refine Gb hF (ih _ (eQ _) (by have:=Uh (List.getElem_mem (l:=xs) (n:=j) sX);omega) _ _ _ (hF.rep hx0)) (Ra en_84 O O) ?_;intro w hF;refine Ka (v:=J ((Ed (xs.take (j+1)):Nat))) (by rw[<-show max ((Ed (xs.take j):Nat):Int) ((Cd xs[j]:Nat):Int)=((Ed (xs.take (j+1)):Nat):Int) from by rw[OE xs j sX];omega];exact x_max O O) ?_;refine Ca (Sc O) (Db (Ib (Ia (Fa (Ca (Um O O) (Ca (Kb O) (Db ?_)))))));refine Yb ⟨_,?_,j+1,O,sX,Tq,hF.drop 1⟩;omega;refine Nc (Kc O ?_);refine Ia (Ja (Ca (Kb O) ?_))
 have eT:xs.take j=xs:=List.take_of_length_le sX;refine Ka (v:=J ((Cd (.node k t ks xs):Nat))) (C6 O O (by rw[eT,Cd];exact Ul sX sX sX)) ?_;refine Ca (Sc O) (Ea ?_);refine Qd (v:=J ((Cd (.node k t ks xs):Nat))) O O ?_;exact⟨O,hF.same⟩
theorem depth_c(x:Tree):VN x:=Tree.ind VM x
theorem Same.cell{w w':World}{a:Addr}{v:Value}(h:Same [] w w')(hc:w.cell? a=some v):w'.cell? a=some v:=((FR.start w []).ext h).cell0 hc
mutual
def Af(q:Tree->Bool):Tree->Bool|.node k t ks xs=>q (.node k t ks xs)&&Tt q xs
def Tt(q:Tree->Bool):List Tree->Bool|[]=>true|x::xs=>Af q x&&Tt q xs
end
theorem Ys(q:Tree->Bool):∀xs:List Tree,Tt q xs = !(xs.any λx=>!Af q x)
  | []=>rfl
  | x::xs=>by rw[Tt,Ys q xs];simp
def EachC(w0:World)(bb:Nat)(xs:List Tree)(q:Tree->Bool):Prop:=∀x,x∈xs->∀S w cs,Same [] w0 w->Rep S w (Zb x) cs->Calls prog 85 #[.agg cs.toArray,V bb] w (Td λv w'=>v=.bool (q x)/\Same [] w w')
theorem EachC.ext{w0 w:World}{bb:Nat}{xs:List Tree}{q:Tree->Bool}(h:EachC w0 bb xs q)(hs:Same [] w0 w):EachC w bb xs q:=λx hx S w' cs hw=>h x hx S w' cs (hs.trans hw)
theorem WA{q:Tree->Bool}{xs:List Tree}{j:Nat}(h:j<xs.length)(hn:(xs.take j).any q=false)(hq:q xs[j]=false):(xs.take (j+1)).any q=false:=by
  rw[iQ h,List.any_append,hn];simp[hq]
def Rz(g:Nat)(q:Tree->Bool)(x:Tree):Prop:=∀S w0 cs,Rep S w0 (Zb x) cs->Yz x->Gl w0->Calls prog 56 #[.agg cs.toArray,.func (.func g) #[] #[]] w0 (Td λv w'=>v=.bool (Af q x)/\Same [] w0 w')
theorem QK(xs:List Tree)(q:Tree->Bool)(bb:Nat)(B:Option Addr)(e:Nat)(S:Nat->Prop)(w0:World)(hX:Rep S w0 (.slice (Gd xs)) [.slice B xs.length e])(hq:EachC w0 bb xs q):Calls prog 68 #[.slice B xs.length e,.func (.func 85) #[] #[V bb]] w0 (Td λv w'=>∃n:Int,v=J n/\decide (0<=n)=xs.any q/\Same [] w0 w'):=by
 have hXl:=hX.slice_len;refine Ga func68 O ntmps68 Fb (Zc _ _) ?_;have hF:=FR.start w0 [];refine Ja (Ca (Sc O) (Ea (Ha (Ja (Ca (Pd O) (Ca (Ye fX O) (Ca (Kb O) (Ea (Va ?_)))))))));refine Rc (λμ σ w=>∃(j:Nat),μ=xs.length-j/\(j<=xs.length)/\((xs.take j).any q=false)/\AllEq σ [(0,.slice B xs.length e),(1,.func (.func 85) #[] #[.pointer (some (⟨bb,0,none⟩))]),(7,J ((xs.length:Nat))),(8,J ((j:Int)))]/\FR w0 [] [] w) _ ⟨0,O,(Nat.zero_le _),Da,Tq,hF⟩ ?_;rintro μ σ w ⟨j,rfl,hj,hn,hs,hF⟩;refine Cg.slots hs ?_;clear hs;intro σ;refine Ja (Ca (Kl O O) (Ea (Ha ?_)));refine Pc O O (λhc0=>?_) (λhc0=>?_);refine Ta (Ia (Ha (Va (Ja (Ca (Kb O) (Ca (Sc O) (Fc (Ca (Mr) (Ca (Pd O) ?_)))))))));refine Ca (Kb O) ?_;obtain⟨ad0,cs0,hA0,hl0,hk0,hx0⟩:=hX.tree_elem (i:=j) sX;have ho0:=hx0.one_;refine Ka (v:=.pointer (some (ad0.add (j*4)))) (Pa (i:=(j:Int)) Hj O hA0 O sX sX) (Ka (v:=.agg (List.toArray cs0)) (Ya (l:=cs0) aZ oZ O hl0 (hF.cells0 hk0)) ?_);refine Gb hF (hq _ (List.getElem_mem (l:=xs) (n:=j) sX) _ _ _ hF.same (hF.rep hx0)) (Yi O en_85 O O) ?_;intro w hF;refine Ea (Uf O O (λhc1=>?_) (λhc1=>?_));refine Ja (Ca (Kb O) (Ca (Sc O) (Ea ?_)));refine Qd (v:=J ((j:Int))) O O ?_;exact⟨_,O,by rw[List.any_eq_true.2 ⟨_,List.getElem_mem (l:=xs) (n:=j) sX,hc1⟩];simp,hF.same⟩;refine Ta (Ib (Ia (Fa (Ca (Um O O) (Ca (Kb O) (Db ?_))))));refine Yb ⟨_,?_,j+1,O,sX,(WA sX hn hc1),Tq,hF⟩;omega;refine Nc (Kc O ?_);refine Ia (Ja (Ca (Sc O) (Ea ?_)));refine Qd (v:=J ((-1))) O O ?_;have eT:xs.take j=xs:=List.take_of_length_le sX;rw[eT]at hn;exact⟨_,O,by rw[hn];decide,hF.same⟩
theorem Gx(xs:List Tree)(q:Tree->Bool)(bb:Nat)(B:Option Addr)(e:Nat)(S:Nat->Prop)(w0:World)(hX:Rep S w0 (.slice (Gd xs)) [.slice B xs.length e])(hq:EachC w0 bb xs q):Calls prog 43 #[.slice B xs.length e,.func (.func 85) #[] #[V bb]] w0 (Td λv w'=>v=.bool (xs.any q)/\Same [] w0 w'):=by
 refine Ga func43 O ntmps43 Fb (Zc _ _) ?_;have hF:=FR.start w0 [];refine Ja (Ca (Hc O) (Fc (Ca (Pd O) (Ca (Mr) ?_))));refine Cb (QK xs q bb B e S _ (hF.rep hX) (hq.ext hF.same)) (Za en_68 O O O) ?_;rintro _ w ⟨n,rfl,hn,hE⟩;have hF:=hF.ext hE;refine Ca (GC O O) (Ca (Hc O) (Ea ?_));refine Qd (v:=.bool _) O O ?_;exact⟨congrArg Value.bool hn,hF.same⟩
theorem GD(g:Nat)(q:Tree->Bool)(x:Tree)(h:Rz g q x)(bb:Nat)(S:Nat->Prop)(w0:World)(cs:List Value)(hR:Rep S w0 (Zb x) cs)(hk:Yz x)(hG:Gl w0)(hb:w0.cell? ⟨bb,0,none⟩=some (.func (.func g) #[] #[])):Calls prog 85 #[.agg cs.toArray,V bb] w0 (Td λv w'=>v=.bool (!Af q x)/\Same [] w0 w'):=by
 have hl:cs.length=4:=hR.length.trans (Tc x);have ho:=hR.one_;refine Ga func85 O ntmps85 Fb (Zc _ _) ?_;have hF:=FR.start w0 [];refine Ja (Ar (v:=.agg (List.toArray cs)) (cs:=(List.toArray cs)) hF O O ?_);rintro b1 w hb1 hF -;refine Ca (Hc O) (Fc (Ka (v:=.agg (List.toArray cs)) (Ya (l:=cs) aZ oZ O hl (hF.cellsAll 0 O)) (Ka (v:=.func (.func g) #[] #[]) (Jb isAgg50 O (hF.cell0 hb)) ?_)));refine Gb hF (h S _ cs (hF.rep hR) hk (hG.ext hF.same)) (Za OY O O O) ?_;intro w hF;refine Ca (Zj O) (Ca (Hc O) (Ea ?_));refine Qd (v:=.bool _) O O ?_;exact⟨O,hF.same⟩
theorem DE(q:Tree->Bool)(hp:IC 62 q)(k:Int)(t:Str)(ks:List Str)(xs:List Tree)(ih:∀x,x∈xs->Rz 62 q x):Rz 62 q (.node k t ks xs):=by
 intro S w0 cs hR hk hG;have hk':=hk;rw[Yz]at hk';obtain⟨A,c,B,e,rfl,-,-,hK,hX⟩:=hR.tree_inv;refine Ga func56 O ntmps56 Fb (Zc _ _) ?_;have hF:=FR.start w0 [];refine Ja (Ve hF O ?_);rintro b1 w hb1 hF -;refine EE (.func (.func 62) #[] #[]) hF O ?_;rintro b2 w hb2 hF -;refine Ca (Hc O) (Fc (Yc (ylu isAgg50 O hF.F 0 O O) (Yc (Ch aZ oZ O hF.F 1 O O) ?_)));refine Gb hF (hp (.node k t ks xs) S _ _ (hF.rep hR) hk (hG.ext hF.same)) (Yi O en_62 O O) ?_;intro w hF;refine Ca (Ae O) (Oe (d:=8) O (λhg0=>?_) (λhg0=>?_));refine Ca (Xb Jc O) (Yc (Rf yQ O hF.F 1 O O) (Ka (v:=.func (.func 85) #[] #[V b2]) (Ol O) ?_));refine Gb hF (Gx xs (λx=>!Af q x) b2 B e S _ (hF.rep hX) (λx hx S' w' cs' hs hr=>GD 62 q x (ih x hx) b2 S' w' cs' hr (Ww hk'.2.2 x hx) ((hG.ext hF.same).ext hs) (hs.cell (hF.cell 0 O O)))) (Za en_43 O O O) ?_;intro w hF;refine Ca (Zj O) (Ca (Nd O O) (Ca (Hc O) (Ea ?_)));refine Qd (v:=.bool _) O O ⟨?_,hF.same⟩;rw[Af,Ys];simp_all;refine Oa (Oa (Oa (Oa (Oa (Ca (Md O O) (Ca (Hc O) (Ea ?_)))))));refine Qd (v:=.bool false) O O ⟨?_,hF.same⟩;rw[Af,Ys];simp_all
theorem ZU(q:Tree->Bool)(hp:IC 62 q)(x:Tree):Rz 62 q x:=Tree.ind (DE q hp) x
theorem AE(q:Tree->Bool)(hp:IC 57 q)(k:Int)(t:Str)(ks:List Str)(xs:List Tree)(ih:∀x,x∈xs->Rz 57 q x):Rz 57 q (.node k t ks xs):=by
 intro S w0 cs hR hk hG;have hk':=hk;rw[Yz]at hk';obtain⟨A,c,B,e,rfl,-,-,hK,hX⟩:=hR.tree_inv;refine Ga func56 O ntmps56 Fb (Zc _ _) ?_;have hF:=FR.start w0 [];refine Ja (Ve hF O ?_);rintro b1 w hb1 hF -;refine EE (.func (.func 57) #[] #[]) hF O ?_;rintro b2 w hb2 hF -;refine Ca (Hc O) (Fc (Yc (ylu isAgg50 O hF.F 0 O O) (Yc (Ch aZ oZ O hF.F 1 O O) ?_)));refine Gb hF (hp (.node k t ks xs) S _ _ (hF.rep hR) hk (hG.ext hF.same)) (Yi O en_57 O O) ?_;intro w hF;refine Ca (Ae O) (Oe (d:=8) O (λhg0=>?_) (λhg0=>?_));refine Ca (Xb Jc O) (Yc (Rf yQ O hF.F 1 O O) (Ka (v:=.func (.func 85) #[] #[V b2]) (Ol O) ?_));refine Gb hF (Gx xs (λx=>!Af q x) b2 B e S _ (hF.rep hX) (λx hx S' w' cs' hs hr=>GD 57 q x (ih x hx) b2 S' w' cs' hr (Ww hk'.2.2 x hx) ((hG.ext hF.same).ext hs) (hs.cell (hF.cell 0 O O)))) (Za en_43 O O O) ?_;intro w hF;refine Ca (Zj O) (Ca (Nd O O) (Ca (Hc O) (Ea ?_)));refine Qd (v:=.bool _) O O ⟨?_,hF.same⟩;rw[Af,Ys];simp_all;refine Oa (Oa (Oa (Oa (Oa (Ca (Md O O) (Ca (Hc O) (Ea ?_)))))));refine Qd (v:=.bool false) O O ⟨?_,hF.same⟩;rw[Af,Ys];simp_all
theorem BT(q:Tree->Bool)(hp:IC 57 q)(x:Tree):Rz 57 q x:=Tree.ind (AE q hp) x
def rnodeB(x:Tree):Bool:=decide (x.kind≠7)&&nodeB x
def Ir(x:Tree):Bool:=decide (Wb x<=4096)&&decide (Cd x<=32)
def Di(x:Tree):Bool:=Ir x&&Af nodeB x
def Kd(x:Tree):Bool:=Ir x&&Af rnodeB x
theorem wr_small{n:Nat}(h:n<=1000000000):wr (n:Int)=(n:Int):=Es sX sX
theorem rnode_c  : IC 62 rnodeB:=by
 rintro⟨k,t,ks,xs⟩ S w0 cs hR hk hG;obtain⟨A,c,B,e,rfl,-,-,hK,hX⟩:=hR.tree_inv;refine Ga func62 O ntmps62 Fb (Ad _) ?_;have hF:=FR.start w0 [];refine Ja (Ve hF O ?_);rintro b1 w hb1 hF -;refine Ca (Hc O) (Fc (Ca (Xb Wh O) (Yc (Xs bZ O hF.F 0 O O) (Ca (Mz O O) (Ca (Ae O) ?_)))));refine Dd (d:=6) O (λhg0=>?_) (λhg0=>?_);refine Yc (Ch aZ oZ O hF.F 0 O O) (Gb hF (MZ (.node k t ks xs) S _ _ (hF.rep hR) hk (hG.ext hF.same)) (Ra en_57 O O) ?_);intro w hF;refine Ca (Nd O O) (Ca (Hc O) (Ea ?_));refine Qd (v:=.bool _) O O ⟨?_,hF.same⟩;simp_all[rnodeB,Tree.kind];refine Oa (Oa (Ca (Md O O) (Ca (Hc O) (Ea ?_))));refine Qd (v:=.bool false) O O ⟨?_,hF.same⟩;simp_all[rnodeB,Tree.kind]
theorem size_v(x:Tree)(hsz:Wb x<=1000000000)(S:Nat->Prop)(w0:World)(cs:List Value)(hR:Rep S w0 (Zb x) cs):Calls prog 83 #[.agg cs.toArray] w0 (Td λv w'=>v=J (Wb x:Nat)/\Same [] w0 w'):=by
  have h:=size_c x S w0 cs hR
  rwa [wr_small hsz]at h
theorem WQ(x:Tree)(hsz:Wb x<=1000000000)(S:Nat->Prop)(w0:World)(cs:List Value)(hR:Rep S w0 (Zb x) cs):Calls prog 55 #[.agg cs.toArray] w0 (Td λv w'=>v=.bool (Ir x)/\Same [] w0 w'):=by
 have hl:cs.length=4:=hR.length.trans (Tc x);have ho:=hR.one_;refine Ga func55 O ntmps55 Fb (Ad _) ?_;have hF:=FR.start w0 [];refine Ja (Ar (v:=.agg (List.toArray cs)) (cs:=(List.toArray cs)) hF O O ?_);rintro b1 w hb1 hF -;refine Ca (Hc O) (Fc (Ka (v:=.agg (List.toArray cs)) (Ya (l:=cs) aZ oZ O hl (hF.cellsAll 0 O)) ?_));refine Gb hF (size_v x hsz S _ cs (hF.rep hR)) (Ra en_83 O O) ?_;intro w hF;refine Ca (HW O O) (Ca (Ae O) ?_);refine Dd (d:=6) O (λhg0=>?_) (λhg0=>?_);refine Ka (v:=.agg (List.toArray cs)) (Ya (l:=cs) aZ oZ O hl (hF.cellsAll 0 O)) (Gb hF (depth_c x hsz S _ cs (hF.rep hR)) (Ra en_84 O O) ?_);intro w hF;refine Ca (HW O O) (Ca (Nd O O) (Ca (Hc O) (Ea ?_)));refine Qd (v:=.bool _) O O ⟨congrArg Value.bool ?_,hF.same⟩;unfold Ir
 first|(rw[decide_eq_true (by omega:Wb x<=4096)];exact decide_eq_decide.2 sX)|(rw[decide_eq_false (by omega:¬Wb x<=4096)];rfl)
 refine Oa (Oa (Oa (Ca (Md O O) (Ca (Hc O) (Ea ?_)))));refine Qd (v:=.bool false) O O ⟨congrArg Value.bool ?_,hF.same⟩;unfold Ir
 first|(rw[decide_eq_true (by omega:Wb x<=4096)];exact decide_eq_decide.2 sX)|(rw[decide_eq_false (by omega:¬Wb x<=4096)];rfl)
theorem G0(x:Tree)(hsz:Wb x<=1000000000)(S:Nat->Prop)(w0:World)(cs:List Value)(hR:Rep S w0 (Zb x) cs)(hk:Yz x)(hG:Gl w0):Calls prog 37 #[.agg cs.toArray] w0 (Td λv w'=>v=.bool (Kd x)/\Same [] w0 w'):=by
 have hl:cs.length=4:=hR.length.trans (Tc x);have ho:=hR.one_;refine Ga func37 O ntmps37 Fb (Ad _) ?_;have hF:=FR.start w0 [];refine Ja (Ar (v:=.agg (List.toArray cs)) (cs:=(List.toArray cs)) hF O O ?_);rintro b1 w hb1 hF -;refine Ca (Hc O) (Fc (Ka (v:=.agg (List.toArray cs)) (Ya (l:=cs) aZ oZ O hl (hF.cellsAll 0 O)) ?_));refine Gb hF (WQ x hsz S _ cs (hF.rep hR)) (Ra en_55 O O) ?_;intro w hF;refine Ca (Ae O) (Oe (d:=5) O (λhg0=>?_) (λhg0=>?_));refine Ka (v:=.agg (List.toArray cs)) (Ya (l:=cs) aZ oZ O hl (hF.cellsAll 0 O)) (Gb hF (ZU rnodeB rnode_c x S _ cs (hF.rep hR) hk (hG.ext hF.same)) (Za OY O O O) ?_);intro w hF;refine Ca (Nd O O) (Ca (Hc O) (Ea ?_));refine Qd (v:=.bool _) O O ?_;exact⟨congrArg Value.bool (by unfold Kd;simp_all),hF.same⟩;refine Oa (Oa (Ca (Md O O) (Ca (Hc O) (Ea ?_))));refine Qd (v:=.bool false) O O ?_;exact⟨congrArg Value.bool (by unfold Kd;simp_all),hF.same⟩
theorem S4(x:Tree)(hsz:Wb x<=1000000000)(S:Nat->Prop)(w0:World)(cs:List Value)(hR:Rep S w0 (Zb x) cs)(hk:Yz x)(hG:Gl w0):Calls prog 32 #[.agg cs.toArray] w0 (Td λv w'=>v=.bool (Di x)/\Same [] w0 w'):=by
 have hl:cs.length=4:=hR.length.trans (Tc x);have ho:=hR.one_;refine Ga func32 O ntmps32 Fb (Ad _) ?_;have hF:=FR.start w0 [];refine Ja (Ar (v:=.agg (List.toArray cs)) (cs:=(List.toArray cs)) hF O O ?_);rintro b1 w hb1 hF -;refine Ca (Hc O) (Fc (Ka (v:=.agg (List.toArray cs)) (Ya (l:=cs) aZ oZ O hl (hF.cellsAll 0 O)) ?_));refine Gb hF (WQ x hsz S _ cs (hF.rep hR)) (Ra en_55 O O) ?_;intro w hF;refine Ca (Ae O) (Oe (d:=5) O (λhg0=>?_) (λhg0=>?_));refine Ka (v:=.agg (List.toArray cs)) (Ya (l:=cs) aZ oZ O hl (hF.cellsAll 0 O)) (Gb hF (BT nodeB MZ x S _ cs (hF.rep hR) hk (hG.ext hF.same)) (Za OY O O O) ?_);intro w hF;refine Ca (Nd O O) (Ca (Hc O) (Ea ?_));refine Qd (v:=.bool _) O O ?_;exact⟨congrArg Value.bool (by unfold Di;simp_all),hF.same⟩;refine Oa (Oa (Ca (Md O O) (Ca (Hc O) (Ea ?_))));refine Qd (v:=.bool false) O O ?_;exact⟨congrArg Value.bool (by unfold Di;simp_all),hF.same⟩
end Go.Scarf
