/- A part of the proof. -/
import Derived.Test.YthnkjgpjdbdchaaGreatDoorW2
import Derived.Test.YthnkjgpjdbdchaaGreatDoorShelf2
import Derived.Lib.ValidLaws
import Derived.Lib.TrimUEq
import Derived.Lib.MapLaws
set_option linter.all false
set_option maxHeartbeats 8000000
set_option maxRecDepth 10000
namespace Go.Scarf
open Go.RowKit Go.Proofs Go.Proofs.Tryz
def Qs(s:Str):Bool:=decide ((Hf s).2=0)&&decide (Io (Hf s).1=s)
def V3(s:Str):Bool:=Qs s&&(KB (Hf s).1).2&&decide (0<=(KB (Hf s).1).1)
theorem CI(s:Str):Mh (Hf s).1=true:=by
  rw[Cp]
  repeat' split
  all_goals first|rfl|simp_all
theorem Gs(s:Str):(Hf s).1.digits.length<=1000:=(Df (CI s)).1
theorem Ht(s:Str)(q:Nat):Lib.decodeL (s.drop q)=Utf8.decode (bs s) q:=Lib.decodeL_drop (bs s) q
theorem Qi(s:Str)(q:Nat):1<=(Utf8.decode (bs s) q).2:=by rw[<-Ht];exact Lib.decodeL_width _
theorem X_(s:Str)(q:Nat)(h:q<s.length):q+(Utf8.decode (bs s) q).2<=s.length:=by
  have:=Lib.decodeL_le (s.drop q) (by rw[ne_eq,List.drop_eq_nil_iff];omega);rw[Ht,List.length_drop]at this;omega
theorem YB(s:Str)(q:Nat)(h:q<s.length)(hv:Lib.validD (s.drop q)=false)(hn:¬((Utf8.decode (bs s) q).1=65533/\(Utf8.decode (bs s) q).2=1)):Lib.validD (s.drop (q+(Utf8.decode (bs s) q).2))=false:=by
  rw[Lib.validD_step _ (by rw[ne_eq,List.drop_eq_nil_iff];omega),Ht,if_neg hn,List.drop_drop]at hv;exact hv
theorem Sz(s:Str)(q:Nat)(h:q<s.length):Lib.decodeGo (bs (s.drop q))=Utf8.decode (bs s) q:=by
  have h1:(bs (s.drop q)).size≠0:=by rw[Ws,List.length_drop];omega
  rw[Lib.decodeGo,if_neg h1];exact Ht s q
theorem OC(s:Str)(hl:s.length<=140737488355328){w:World}(hG:Gl w):Calls prog 105 #[I s] w (Be λv w'=>v=.bool (Lib.validD s)/\Same [] w w') :=
  Ky (utf8_ValidString (bs s) w (by rw[Ws];omega) hG.tabs)
theorem FH(s:Str){w:World}(hG:Gl w):Calls prog 106 #[I s] w (Be λv w'=>v=.tuple #[.int .i32 (Lib.decodeGo (bs s)).1,J (Lib.decodeGo (bs s)).2]/\Same [] w w') :=
  Ky (utf8_DecodeRuneInString (bs s) w hG.tabs)
theorem K8(s:Str)(hl:s.length<=140737488355328)(w0:World)(hG:Gl w0):Calls prog 80 #[I s] w0 (Be λv w'=>∃n,v=.tuple #[J n,.bool (Lib.validD s)]/\Same [] w0 w'):=by
  refine Ga func80 O ntmps80 Ib (Id _) ?_;have hF:=FR.start w0 [];refine Ja (Fa ?_);refine Ca (Yc O) (Ca (Jc O) ?_);refine Gb (Ha ?_);refine Ja (Ja ?_);refine Fa (Ca (Dh O) ?_);refine Hb hF (OC s hl (hG.ext hF.same)) (Ra en_105 O O) ?_;intro w hF;refine Gb (Ha ?_);refine Jg O O (λhc0=>?_) (λhc0=>?_)
  ·
   refine Ja (Fa ?_);refine Ca (Dh O) (Ca (UM kX O) ?_);refine Ca (Yc O) (Ca (Jc O) ?_);refine Gb (Ha ?_);refine Ec (Dc (Ua (Wh (v:=J ((((s):Str).length:Int))) (x:=.bool true) O O O) ?_));exact⟨_,by rw[hc0],hF.same⟩
  refine Va (Ha ?_);refine Ja (Ja ?_);refine Fa (Ca (Dh O) ?_);refine O1 (str:=s) hF kX O ?_;intro b1 w hb1 hF hE;refine Gb (Ha ?_);refine Za (Fd (λμ σ w=>∃(q:Nat),μ=s.length-q/\(q<=s.length)/\(Lib.validD (s.drop q)=false)/\AllEq σ [(0,I s),(13,V b1)]/\FR w0 [] [(b1,.stringIter (bs s) (q))] w) _ ⟨0,O,(Nat.zero_le _),(by simpa using hc0),GE,hF⟩ ?_);rintro μ σ w ⟨q,rfl,hq,hv,hs,hF⟩;refine Cg.slots hs ?_;clear hs;intro σ;refine Ja (Fa ?_);by_cases hn0:(q)<(s:Str).length
  ·
   refine E8 0 (p:=q) (str:=s) hF O O hn0 ?_;intro w hF hE;refine Ca (Tq O O) (Gb ?_);refine Ha (Ja ?_);refine Se O (Va ?_);refine Ha (Za ?_);refine Ja (Fa ?_);refine Ca (Sy O O) (Ca (Sy O O) ?_);refine Ca (Yc O) (Ca (Yc O) ?_);refine Gb (Ha ?_);refine Ja (Ja ?_);refine Fa (Ca (Vb O) ?_);refine Ca (Bw O O) (Gb ?_);refine Ha (Rc O O (λhc2=>?_) (λhc2=>?_))
   ·
    refine Wc (Vc O ?_);have h1:=Qi s q;have hw:¬((Utf8.decode (bs s) q).1=65533/\(Utf8.decode (bs s) q).2=1):=by
      first
      | (intro hh;omega)
      | (rw[Sz s q tX]at hc3;intro hh;omega)
    refine Cc ⟨_,?_,q+(Utf8.decode (bs s) q).2,O,(X_ s q tX),(YB s q tX hv hw),GE,hF⟩;omega
   refine Va (Ha ?_);refine Ja (Fa ?_);refine Ca (Dh O) (Ca (Vb O) ?_);refine Ma (v:=I ((s:Str).drop (q))) (DM (q) kX O O tX) (Hb hF (FH (s.drop q) (hG.ext hF.same)) (Ra en_106 O O) ?_);intro w hF;refine Ca (So O) (Ca (Sy O O) ?_);refine Ca (Sy O O) (Ca (Yc O) ?_);refine Ca (Yc O) (Gb ?_);refine Ha (Ja ?_);refine Fa (Ca (Vb O) ?_);refine Ca (Rq O O) (Gb ?_);refine Ha (Rc O O (λhc3=>?_) (λhc3=>?_))
   ·
    refine Ja (Fa ?_);refine Ca (Vb O) (Ca (Yc O) ?_);refine Ca (Jc O) (Gb ?_);refine Ha (Ec (Dc (Ua (Wh (v:=J (((q:Nat):Int))) (x:=.bool false) O O O) ?_)));exact⟨_,by rw[hc0],hF.same⟩
   refine Va (Fb ?_);have h1:=Qi s q;have hw:¬((Utf8.decode (bs s) q).1=65533/\(Utf8.decode (bs s) q).2=1):=by
     first
     | (intro hh;omega)
     | (rw[Sz s q tX]at hc3;intro hh;omega)
   refine Cc ⟨_,?_,q+(Utf8.decode (bs s) q).2,O,(X_ s q tX),(YB s q tX hv hw),GE,hF⟩;omega
  refine Hv 0 (p:=q) (str:=s) hF O O hn0 (Ca (Tq O O) ?_);refine Gb (Ha ?_);refine Ja (Bg O ?_);refine Wc (Vc O ?_);refine Ha (Ja ?_);refine Fa (Ca (Dh O) ?_);refine Ca (UM kX O) (Ca (Yc O) ?_);refine Ca (Jc O) (Gb ?_);refine Ha (Ec (Dc (Ua (Wh (v:=J ((((s):Str).length:Int))) (x:=.bool true) O O O) ?_)));have e:s.drop q=[]:=List.drop_eq_nil_of_le tX;rw[e]at hv;cases hv
theorem ZT(s:Str)(hl:s.length<=140737488355328)(w0:World)(hG:Gl w0):Calls prog 67 #[I s] w0 (Be λv w'=>v=.bool (Lib.validD s)/\Same [] w0 w'):=by
 refine Ga func67 O ntmps67 Ib (Id _) ?_;have hF:=FR.start w0 [];refine Ia (Ca (Jc O) (Lc (Ca (Dh O) ?_)));refine Db (K8 s hl _ (hG.ext hF.same)) (Ra QT O O) ?_;rintro _ w ⟨n,rfl,hE⟩;have hF:=hF.ext hE;refine Ca (So O) (Ca (Sy O O) (Ca (Tq O O) (Ca (Yc O) (Ca (Jc O) (Lc (Ca (Hd O) (Ca (Jc O) (Ea ?_))))))));refine Rd (v:=.bool _) O O ?_;exact⟨O,hF.same⟩
theorem DE(s:Str)(hl:s.length<=140737488355328)(w0:World)(hG:Gl w0):Calls prog 66 #[I s] w0 (Be λv w'=>v=.tuple #[Yu (Hf s).1,.bool (Qs s)]/\Same [] w0 w'):=by
 refine Ga func66 O ntmps66 Ib (Id _) ?_;have hF:=FR.start w0 [];refine Ia (Td (cs:=#[.bool false,I [],J 0]) hF qX O ?_);rintro b1 w hb1 hF -;refine Ca (Jc O) (Lc (Ca (Dh O) ?_));refine Hb hF (UH s hl _) (Ra en_77 O O) ?_;intro w hF;refine Ca (So O) (Ca (Zz O O) (Ca (Sy O O) ?_));refine Qg hF qX uZ O ?_;rintro b2 w hb2 hF -;refine Ca (Yc O) (Ea (Ja ?_));refine Od (.of []) (bQ [0,1,2,3,4,6] (.act 5 (.free 7 (.free 8 (.act 9 (.free 10 .nil)))))) hF ?_;rintro w hF -;refine⟨λwq=>FR w0 [] [(b2,.cells #[.bool ((Hf s).1.neg),I ((Hf s).1.digits),J ((Hf s).1.exp)] 75)] wq,hF.sub (.cons_cons _ (.cons _ .slnil)),?_⟩;refine Wj O (Of eZ uZ O C0 0 O O) (Cb O (Vb O) (Cb O (Rq O O) (Cb O (Hd O) ?_)));refine Ns (d:=14) O (λhg0=>?_) (λhg0=>?_);refine Wj O (Of eZ uZ O C0 0 O O) (Cb O (Dh O) ?_);refine Sj hF (XO (Hf s).1 (by have:=Gs s;omega) _ (hG.ext hF.same)) O (Ra en_42 O O) ?_;intro w hF;refine⟨hF.sub (.cons_cons _ (.cons _ .slnil)),?_⟩;refine Cb O (BL O O) (Cb O (Kc O O) ?_);refine Eu O hF uZ O O Yt ?_;rintro w hF -;refine⟨hF.sub (.cons_cons _ (.cons _ .slnil)),?_⟩;refine Cb O (Jc O) (Hc (Ha ?_));refine Ec (Dc (Ua (He O (l:=[.bool ((Hf s).1.neg),I ((Hf s).1.digits),J ((Hf s).1.exp)]) O eZ uZ O (hF.cellsAll 1 O) (v:=.bool (decide ((Io (Hf s).1:Str)=s))) O) ?_));exact⟨by simp_all[Qs,Yu],hF.same⟩;refine An O (An O ?_);refine f_skip O ?_ (hF.sub (.cons_cons _ (.cons _ .slnil)));refine An O (Cb O (Ld O O) ?_);refine Eu O hF uZ O O Yt ?_;rintro w hF -;refine⟨hF.sub (.cons_cons _ (.cons _ .slnil)),?_⟩;refine Cb O (Jc O) (Hc (Ha ?_));refine Ec (Dc (Ua (He O (l:=[.bool ((Hf s).1.neg),I ((Hf s).1.digits),J ((Hf s).1.exp)]) O eZ uZ O (hF.cellsAll 1 O) (v:=.bool false) O) ?_));exact⟨by simp_all[Qs,Yu],hF.same⟩
theorem hole_c(s:Str)(hl:s.length<=140737488355328)(w0:World)(hG:Gl w0):Calls prog 68 #[I s] w0 (Be λv w'=>v=.bool (V3 s)/\Same [] w0 w'):=by
 refine Ga func68 O ntmps68 Ib (Id _) ?_;have hF:=FR.start w0 [];refine Ia (Ca (Jc O) (Lc (Ca (Dh O) ?_)));refine Hb hF (DE s hl _ (hG.ext hF.same)) (Ra en_66 O O) ?_;intro w hF;refine Ca (So O) (Ca (Zz O O) (Ca (Tq O O) ?_));refine Qg hF qX uZ O ?_;rintro b1 w hb1 hF -;refine Ca (Jc O) (Lc (Sc (Of eZ uZ O hF.F 0 O O) ?_));refine Hb hF (BM (Hf s).1 (by have:=Gs s;omega) _ (hG.ext hF.same)) (Ra en_99 O O) ?_;intro w hF;refine Ca (So O) (Ca (Sy O O) (Ca (Tq O O) (Ca (Yc O) (Ca (Jc O) (Lc (Ca (Hd O) (Ca (Hd O) ?_)))))));refine Zd (d:=18) O (λhg0=>?_) (λhg0=>?_);refine Ca (Hd O) (Ca (Kc O O) (Ca (Hd O) ?_));refine Zd (d:=21) O (λhg1=>?_) (λhg1=>?_);refine Ca (Vb O) (Ca (KN O O) (Ca (Kc O O) (Ca (Jc O) (Ea ?_))));refine Rd (v:=.bool _) O O ?_;exact⟨by simp_all[V3],hF.same⟩;refine Ka (Ka (Ca (Ld O O) (Ca (Jc O) (Ea ?_))));refine Rd (v:=.bool false) O O ?_;exact⟨by simp_all[V3],hF.same⟩;refine Ka (Ca (Ld O O) (Ca (Hd O) (Ka (Ka (Ca (Ld O O) (Ca (Jc O) (Ea ?_)))))));refine Rd (v:=.bool false) O O ?_;exact⟨by simp_all[V3],hF.same⟩
def Tp(ks:List Str)(n:Int):Bool:=decide ks.Nodup&&ks.all Lib.validD&&decide ((ks.length:Int)=n)
def Br(ks:List Str):MapL:=ks.map λk=>(k,.bool true)
theorem Qv(ks:List Str)(k:Str):Bh (Br ks) k=if k∈ks then some (.bool true) else none:=by
  induction ks with
  | nil=>rfl
  | cons a r ih =>
    have e:Br (a::r)=[(a,.bool true)]++Br r:=rfl;rw[e,EI,ih];by_cases h:a=k
    ·subst h;simp[Bh]
    have h' : ¬ k = a := λe => h e.symm;simp[Bh,h,h']
theorem GQ(ks:List Str)(j:Nat)(h:j<ks.length):Br (ks.take j)++[(ks[j],.bool true)]=Br (ks.take (j+1)):=by
  unfold Br;rw[iQ h,jQ];rfl
theorem P7{ks:List Str}{j:Nat}(h:j<ks.length)(hn:(ks.take j).Nodup)(hi:¬ks[j]∈ks.take j):(ks.take (j+1)).Nodup:=by
  rw[iQ h,List.nodup_append];refine⟨hn,by simp,?_⟩;intro a ha b hb e;simp only[pQ]at hb;subst e;subst hb;exact hi ha
theorem W1{ks:List Str}{j:Nat}(h:j<ks.length)(hi:ks[j]∈ks.take j):¬ks.Nodup:=by
  intro hn;obtain⟨i,hi',he⟩:=List.getElem_of_mem hi;rw[List.getElem_take]at he;have hi2:i<j:=by rw[List.length_take]at hi';omega
  have:=(List.pairwise_iff_getElem.1 hn) i j tX h hi2;exact this he
theorem DC{f:Str->Bool}{ks:List Str}{j:Nat}(h:j<ks.length)(ha:(ks.take j).all f=true)(hv:f ks[j]=true):(ks.take (j+1)).all f=true:=by
  rw[iQ h,List.all_append,ha];simp[hv]
theorem not_all{f:Str->Bool}{ks:List Str}{j:Nat}(h:j<ks.length)(hv:f ks[j]=false):ks.all f=false:=by
  rw[Bool.eq_false_iff];intro ha;have:=List.all_eq_true.1 ha ks[j] (eQ h);rw[hv]at this;cases this
theorem keyed_c(ks:List Str)(n:Int)(S:Nat->Prop)(A:Option Addr)(c:Nat)(hl:∀k∈ks,k.length<=140737488355328)(w0:World)(hG:Gl w0)(hX:Rep S w0 (Ud ks) [.slice A ks.length c]):Calls prog 65 #[.slice A ks.length c,J n] w0 (Be λv w'=>v=.bool (Tp ks n)/\Same [] w0 w'):=by
 have hXl:=hX.slice_len;refine Ga func65 O ntmps65 Ib (Md _ _) ?_;have hF:=FR.start w0 [];refine Ia (Ca (Jc O) (Lc (Ca (Je O) (Ca (Tf cX O) ?_))));refine Us (v:=λb=>.map (some b)) hF (RF xZ O) ?_;rintro b1 w hb1 hF -;refine Ca (C4) (Ea (Ja (Ia (Ca (Je O) (Ca (Tf cX O) (Ca (Vb O) (Ea (Za ?_))))))));have hF:FR w0 [] [(b1,Rg (Br (ks.take 0)))] w:=hF;refine Fd (λμ σ w=>∃(j:Nat),μ=ks.length-j/\(j<=ks.length)/\((ks.take j).Nodup)/\((ks.take j).all Lib.validD=true)/\AllEq σ [(0,.slice A ks.length c),(1,J n),(5,.map (some b1)),(11,.slice A ks.length c),(12,J ((ks.length:Nat))),(13,J ((j:Int)))]/\FR w0 [] [(b1,Rg (Br (ks.take j)))] w) _ ⟨0,O,(Nat.zero_le _),Da,Da,AQ,hF⟩ ?_;rintro μ σ w ⟨j,rfl,hj,hd,hv,hs,hF⟩;refine Cg.slots hs ?_;clear hs;intro σ;refine Ia (Ca (Hn O O) (Ea (Ja ?_)));refine Rc O O (λhc0=>?_) (λhc0=>?_);refine Va (Ha (Ja (Za (Ia ?_))));obtain⟨ad0,hA0,hk0,hx0⟩:=hX.str_elem (i:=j) tX;refine Ma (v:=.pointer (some (ad0.add (j*1)))) (Ta (i:=(j:Int)) Zm O hA0 O tX tX) (Ma (v:=I (ks[j])) (Pb fZ O (hF.cell0 hk0)) (Ca (Cn O) (Ea (Ja (Ia (Ca (Zt) (Ca (Dh O) ?_)))))));refine Ma (v:=.bool (decide (ks[j]∈ks.take j))) (Qu xZ kX zeroValue4 O O (hF.heap (i:=0) O) (by rw[Qv];split <;> rename_i hh <;> simp only[hh,decide_true,decide_false] <;> rfl)) ?_;refine Ca (Hd O) (Tc (d:=20) O (λhg1=>?_) (λhg1=>?_));refine Ka (Ka (Ka (Ca (Kc O O) (Ea (Se O (Ia (Ca (Jc O) (Ea ?_))))))));refine Rd (v:=.bool false) O O ?_;have:=W1 (ks:=ks) (j:=j) tX (by assumption);exact⟨congrArg Value.bool (by unfold Tp;rw[decide_eq_false this];rfl),hF.same⟩;refine Ca (Dh O) (Hb hF (ZT ks[j] (hl _ (eQ _)) _ (hG.ext hF.same)) (Ra en_67 O O) ?_);intro w hF;refine Ca (Fk O) (Ca (Ld O O) (Ea ?_));refine Jg O O (λhc1=>?_) (λhc1=>?_);refine Ia (Ca (Jc O) (Ea ?_));refine Rd (v:=.bool false) O O ?_
 have:=not_all (f:=Lib.validD) (ks:=ks) (j:=j) tX (by simpa using hc1);exact⟨congrArg Value.bool (by unfold Tp;rw[this,Bool.and_false];rfl),hF.same⟩;refine Va (Ha (Fa (Ca (Zt) (Ca (Dh O) ?_))));refine Sx 0 (v:=.bool true) hF xZ kX O O O O (by rw[Qv,if_neg (by assumption)]) ?_;rintro w hF -;rw[GQ ks j tX]at hF;have hF:FR w0 [] [(b1,Rg (Br (ks.take (j+1))))] w:=hF;refine Gb (Fb (Ha (Fa (Ca (Bo O O) (Ca (Vb O) (Gb ?_))))));refine Cc ⟨_,?_,j+1,O,tX,(P7 tX hd (by assumption)),(DC tX hv (by simpa using hc1)),AQ,hF⟩;omega;refine Wc (Vc O ?_);refine Ha (Ia (Ca (Je O) (Ca (Tf cX O) (Ca (Vb O) (Ca (Rq O O) (Ca (Jc O) (Ea ?_)))))));refine Rd (v:=.bool _) O O ?_;obtain rfl:j=ks.length:=by omega
 rw[List.take_length]at hd hv;exact⟨congrArg Value.bool (by unfold Tp;rw[hv,decide_eq_true hd];rfl),hF.same⟩
mutual
def H3:Tree->Prop|.node _ t ks xs=>t.length<=140737488355328/\(∀k∈ks,k.length<=140737488355328)/\HM xs
def HM:List Tree->Prop|[]=>True|x::xs=>H3 x/\HM xs
end
theorem Rx:∀{xs:List Tree},HM xs->∀x∈xs,H3 x
  | [],_,_,h=>absurd h Da
  | y :: ys, h, x, hx => by
    rw[HM]at h;rcases oQ.1 hx with rfl|hx
    ·exact h.1
    exact Rx h.2 x hx
def nodeB:Tree->Bool
  | .node k t ks xs =>
    if k=5 then decide (ks=[])&&decide (t=[]) else
    if k=6 then Tp ks xs.length&&decide (t=[]) else
    if ks≠[]\/xs≠[] then false else
    if k=1 then decide (t=[]) else
    if k=2 then decide (t=[116,114,117,101]) || decide (t=[102,97,108,115,101]) else
    if k=3 then Qs t else if k=4 then Lib.validD t else if k=7 then V3 t else false
def FD(g:Nat)(q:Tree->Bool):Prop:=∀(x:Tree)(S:Nat->Prop)(w0:World)(cs:List Value),Rep S w0 (Ub x) cs->H3 x->Gl w0->Calls prog g #[.agg cs.toArray] w0 (Be λv w'=>v=.bool (q x)/\Same [] w0 w')
theorem node_c  : FD 37 nodeB:=by
 rintro⟨k,t,ks,xs⟩ S w0 cs hR hk hG;obtain⟨A,c,B,e,rfl,-,-,hK,hX⟩:=hR.tree_inv;rw[H3]at hk;refine Ga func37 O ntmps37 Ib (Id _) ?_;have hF:=FR.start w0 [];refine Ia (Bf hF O ?_);rintro b1 w hb1 hF -;refine Ca (Jc O) (Ea (Ja ?_));refine Xg (zs:=.of []) (bQ [0,1,2,3,4,5,6,7,8,9] .nil) hF ?_;intro w hF;refine Cb O (Bc Ff O) (Wj O (Xf wQ O C0 0 O O) (Cb O (Tf cX O) (Cb O (W6 O O) (Cb O (Bc Gc O) (Wj O (Xf xQ O C0 0 O O) (Cb O (Tf dX O) (Cb O (W6 O O) (Cb O (Jc O) (Cb O (Jc O) (Hc (Ha (Ja (Ja ?_)))))))))))));refine Fa (Ca (Bc Wf O) (Sc (Zq aZ O hF.F 0 O O) (Ea (Za (Ia (Ca (Rq O O) (Ca (Jc O) (Ea ?_))))))));refine Rc O O (λhc0=>?_) (λhc0=>?_);refine Ia (Ca (Hd O) (Ca (ynd O) (Ca (Hd O) ?_)));refine Tc (d:=21) O (λhg0=>?_) (λhg0=>?_);refine Ca (Bc Fi O) (Sc (Zy fZ O hF.F 0 O O) (Ca (BL O O) (Ca (Kc O O) (Ca (Jc O) (Ea ?_)))));refine Rd (v:=.bool _) O O ⟨?_,hF.same⟩;clear hF hR hK hX hb1;simp_all[nodeB,List.length_pos_iff];refine Ka (Ka (Ka (Ca (Ld O O) (Ca (Jc O) (Ea ?_)))));refine Rd (v:=.bool false) O O ⟨?_,hF.same⟩;clear hF hR hK hX hb1;simp_all[nodeB,List.length_pos_iff];refine Ia (Ca (Rq O O) (Ca (Jc O) (Ea ?_)));refine Rc O O (λhc1=>?_) (λhc1=>?_);refine Ia (Ca (Bc Ff O) (Sc (Xf wQ O hF.F 0 O O) (Ca (Bc Gc O) (Sc (Xf xQ O hF.F 0 O O) (Ca (Tf dX O) ?_)))));refine Hb hF (keyed_c ks (xs.length:Nat) S A c (by simpa using hk.2.1) _ (hG.ext hF.same) (hF.rep hK)) (Xa en_65 O O O) ?_;intro w hF;refine Ca (Hd O) (Zd (d:=34) O (λhg1=>?_) (λhg1=>?_));refine Ca (Bc Fi O) (Sc (Zy fZ O hF.F 0 O O) (Ca (BL O O) (Ca (Kc O O) (Ca (Jc O) (Ea ?_)))));refine Rd (v:=.bool _) O O ⟨?_,hF.same⟩;clear hF hR hK hX hb1;simp_all[nodeB,List.length_pos_iff];refine Ka (Ka (Ka (Ca (Ld O O) (Ca (Jc O) (Ea ?_)))));refine Rd (v:=.bool false) O O ⟨?_,hF.same⟩;clear hF hR hK hX hb1
 simp_all[nodeB,List.length_pos_iff];refine Va (Fb (Ha (Ja (Ia (Ca (Hd O) (Ca (Hd O) ?_))))));refine Tc (d:=40) O (λhg2=>?_) (λhg2=>?_);refine Ka (Ca (Kc O O) (Ea (Se O (Ia (Ca (Jc O) (Ea ?_))))));refine Rd (v:=.bool false) O O ⟨?_,hF.same⟩;clear hF hR hK hX hb1;simp_all[nodeB,List.length_pos_iff];refine Ca (Hd O) (Ca (Ld O O) (Ea ?_));refine Rc O O (λhc2=>?_) (λhc2=>?_);refine Ia (Ca (Jc O) (Ea ?_));refine Rd (v:=.bool false) O O ⟨?_,hF.same⟩;clear hF hR hK hX hb1;simp_all[nodeB,List.length_pos_iff];refine Va (Ha (Ja (Ia (Ca (Bc Wf O) (Sc (Zq aZ O hF.F 0 O O) (Ea (Za (Ia (Ca (Rq O O) (Ca (Jc O) ?_))))))))));refine Ea (Rc O O (λhc3=>?_) (λhc3=>?_));refine Ia (Ca (Bc Fi O) (Sc (Zy fZ O hF.F 0 O O) (Ca (BL O O) (Ca (Jc O) (Ea ?_)))));refine Rd (v:=.bool _) O O ⟨?_,hF.same⟩;clear hF hR hK hX hb1;simp_all[nodeB,List.length_pos_iff];refine Ia (Ca (Rq O O) (Ca (Jc O) (Ea ?_)));refine Rc O O (λhc4=>?_) (λhc4=>?_);refine Ia (Ca (Bc Fi O) (Sc (Zy fZ O hF.F 0 O O) (Ca (BL O O) (Ca (Hd O) ?_))));refine Tc (d:=55) O (λhg3=>?_) (λhg3=>?_);refine Ka (Ka (Ka (Ca (Kc O O) (Ca (Jc O) (Ea ?_)))));refine Rd (v:=.bool true) O O ⟨?_,hF.same⟩;clear hF hR hK hX hb1;simp_all[nodeB,List.length_pos_iff];refine Ca (Bc Fi O) (Sc (Zy fZ O hF.F 0 O O) (Ca (BL O O) (Ca (Ld O O) (Ca (Jc O) (Ea ?_)))));refine Rd (v:=.bool _) O O ⟨?_,hF.same⟩;clear hF hR hK hX hb1;simp_all[nodeB,List.length_pos_iff];refine Ia (Ca (Rq O O) (Ca (Jc O) (Ea ?_)));refine Rc O O (λhc5=>?_) (λhc5=>?_);refine Ia (Ca (Bc Fi O) (Sc (Zy fZ O hF.F 0 O O) ?_));refine Hb hF (DE t hk.1 _ (hG.ext hF.same)) (Ra en_66 O O) ?_;intro w hF;refine Ca (So O) (Ca (Zz O O) (Ca (Tq O O) ?_));refine Qg hF qX uZ O ?_;rintro b2 w hb2 hF -;refine Ca (Jc O) (Lc (Ca (Hd O) (Ca (Jc O) (Ea ?_))));refine Rd (v:=.bool _) O O ⟨?_,hF.same⟩
 clear hF hR hK hX hb1;simp_all[nodeB,List.length_pos_iff];refine Ia (Ca (Rq O O) (Ca (Jc O) (Ea ?_)));refine Rc O O (λhc6=>?_) (λhc6=>?_);refine Ia (Ca (Bc Fi O) (Sc (Zy fZ O hF.F 0 O O) ?_));refine Hb hF (ZT t hk.1 _ (hG.ext hF.same)) (Ra en_67 O O) ?_;intro w hF;refine Ca (Jc O) (Ea ?_);refine Rd (v:=.bool _) O O ⟨?_,hF.same⟩;clear hF hR hK hX hb1;simp_all[nodeB,List.length_pos_iff];refine Ia (Ca (Rq O O) (Ca (Jc O) (Ea ?_)));refine Rc O O (λhc7=>?_) (λhc7=>?_);refine Ia (Ca (Bc Fi O) (Sc (Zy fZ O hF.F 0 O O) ?_));refine Hb hF (hole_c t hk.1 _ (hG.ext hF.same)) (Ra en_68 O O) ?_;intro w hF;refine Ca (Jc O) (Ea ?_);refine Rd (v:=.bool _) O O ⟨?_,hF.same⟩;clear hF hR hK hX hb1;simp_all[nodeB,List.length_pos_iff];refine Va (Fb (Ha (Ia (Ca (Jc O) (Ea ?_)))));refine Rd (v:=.bool false) O O ⟨?_,hF.same⟩;clear hF hR hK hX hb1;simp_all[nodeB,List.length_pos_iff]
theorem Tree.ind{Q:Tree->Prop}(h:∀k t ks xs,(∀x,x∈xs->Q x)->Q (.node k t ks xs))(x:Tree):Q x :=
  Tree.rec (motive_1:=Q) (motive_2:=λxs=>∀x,x∈xs->Q x) (λk t ks xs ih=>h k t ks xs ih) Da
    (λy ys h1 h2=>by
      intro z hz;rcases oQ.1 hz with rfl|hz
      ·exact h1
      exact h2 z hz) x
mutual
def Mb:Tree->Nat|.node _ _ _ xs=>1+Kb xs
def Kb:List Tree->Nat|[]=>0|x::xs=>Mb x+Kb xs
end
mutual
def Uc:Tree->Nat|.node _ _ _ xs=>Dd xs+1
def Dd:List Tree->Nat|[]=>0|x::xs=>max (Uc x) (Dd xs)
end
theorem Ee:∀(xs ys:List Tree),Kb (xs++ys)=Kb xs+Kb ys
  | [],ys=>by simp[Kb]
  | x::xs,ys=>by simp[Kb,Ee xs ys,Nat.add_assoc]
theorem Po:∀(xs ys:List Tree),Dd (xs++ys)=max (Dd xs) (Dd ys)
  | [],ys=>by simp[Dd]
  | x::xs,ys=>by simp only[List.cons_append,Dd,Po xs ys];omega
theorem FK(xs:List Tree)(j:Nat)(hj:j<xs.length):Kb (xs.take (j+1))=Kb (xs.take j)+Mb xs[j]:=by
  rw[iQ hj,Ee];simp[Kb]
theorem EG(xs:List Tree)(j:Nat)(hj:j<xs.length):Dd (xs.take (j+1))=max (Dd (xs.take j)) (Uc xs[j]):=by
  rw[iQ hj,Po];simp[Dd]
theorem Yf:∀{xs:List Tree}{x:Tree},x∈xs->Mb x<=Kb xs
  | [],_,h=>absurd h Da
  | y :: ys, x, h => by
    rw[Kb];rcases oQ.1 h with rfl|h
    ·omega
    have:=Yf h;omega
theorem Rr(x:Tree):1<=Mb x:=by cases x;rw[Mb];omega
theorem Uh:∀(xs:List Tree),xs.length<=Kb xs
  | []=>by simp[Kb]
  | x::xs=>by have:=Uh xs;have:=Rr x;simp only[Kb,kQ];omega
theorem PY(x:Tree):Uc x<=Mb x:=by
  refine Tree.ind (Q:=λx=>Uc x<=Mb x) (λk t ks xs ih=>?_) x;have:Dd xs<=Kb xs:=by
    induction xs with
    | nil=>simp[Dd,Kb]
    | cons y ys ihy =>
      have h1:=ih y Da;have h2:=ihy (λz hz=>ih z (by simp[hz]));simp only[Dd,Kb];omega
  simp only[Uc,Mb];omega
theorem ZQ(xs:List Tree):Dd xs<=Kb xs:=by
  have:=PY (.node 0 [] [] xs);simp only[Uc,Mb]at this;omega
def SizeC(x:Tree):Prop:=∀S w0 cs,Rep S w0 (Ub x) cs->Calls prog 62 #[.agg cs.toArray] w0 (Be λv w'=>v=J (wr (Mb x))/\Same [] w0 w')
theorem EW(k:Int)(t:Str)(ks:List Str)(xs:List Tree)(ih:∀x,x∈xs->SizeC x):SizeC (.node k t ks xs):=by
 intro S w0 cs hR;obtain⟨A,c,B,e,rfl,-,-,-,hX⟩:=hR.tree_inv;have hXl:=hX.slice_len;refine Ga func62 O ntmps62 Ib (Id _) ?_;have hF:=FR.start w0 [];refine Ia (Bf hF O ?_);rintro b1 w hb1 hF -;refine Ca (Yc O) (Lc (Ca (Yc O) (Ea (Ja (Ia (Ca (Bc Gc O) (Sc (Xf xQ O hF.F 0 O O) (Ca (Tf dX O) ?_))))))));refine Ca (Vb O) (Ea (Za ?_));refine Fd (λμ σ w=>∃(j:Nat),μ=xs.length-j/\(j<=xs.length)/\AllEq σ [(3,J (wr (1+Kb (xs.take j)))),(7,.slice B xs.length e),(8,J ((xs.length:Nat))),(9,J ((j:Int)))]/\FR w0 [] [(b1,.cells #[J k,I t,.slice A ks.length c,.slice B xs.length e] 25)] w) _ ⟨0,O,(Nat.zero_le _),Uu,hF⟩ ?_;rintro μ σ w ⟨j,rfl,hj,hs,hF⟩;refine Cg.slots hs ?_;clear hs;intro σ;refine Ia (Ca (Hn O O) (Ea (Ja ?_)));refine Rc O O (λhc0=>?_) (λhc0=>?_);refine Va (Ha (Ja (Za (Ia ?_))));obtain⟨ad0,cs0,hA0,hl0,hk0,hx0⟩:=hX.tree_elem (i:=j) tX;have ho0:=hx0.one_;refine Ma (v:=.pointer (some (ad0.add (j*4)))) (Ta (i:=(j:Int)) Ae O hA0 O tX tX) (Ma (v:=.agg (List.toArray cs0)) (Ya (l:=cs0) zQ oZ O hl0 (hF.cells0 hk0)) ?_);refine Kw (l:=cs0) hF mX (by rw[hl0];exact oZ) (by rw[hl0];rfl) (v:=.agg (List.toArray cs0)) O O (ho0) O ?_;rintro b2 w hb2 hF -;refine Ea (Fa (Ca (Vb O) (Ma (v:=.agg (List.toArray cs0)) (Ya (l:=cs0) zQ oZ O hl0 (hF.cellsAll 0 O)) ?_)));refine Hb hF (ih _ (eQ _) _ _ _ (hF.rep hx0)) (Ra en_62 O O) ?_;intro w hF;refine Ma (v:=J (wr (1+Kb (xs.take (j+1))))) (G7 O O (by rw[TU,FK xs j tX,Int.natCast_add,Int.add_assoc])) (Ca (Yc O) (Gb (Fb (Ha (Fa (Ca (Bo O O) (Ca (Vb O) (Gb ?_))))))));refine Cc ⟨_,?_,j+1,O,tX,Uu,hF.drop 1⟩;omega;refine Wc (Vc O ?_);refine Ha (Ia (Ca (Vb O) (Ca (Yc O) (Ea ?_))));refine Rd (v:=J (wr (1+Kb (xs.take j)))) O O ?_;obtain rfl:j=xs.length:=by omega
 exact⟨by simp[Mb],hF.same⟩
theorem size_c(x:Tree):SizeC x:=Tree.ind EW x
def JR(x:Tree):Prop:=Mb x<=1000000000->∀S w0 cs,Rep S w0 (Ub x) cs->Calls prog 63 #[.agg cs.toArray] w0 (Be λv w'=>v=J (Uc x:Nat)/\Same [] w0 w')
theorem RO(k:Int)(t:Str)(ks:List Str)(xs:List Tree)(ih:∀x,x∈xs->JR x):JR (.node k t ks xs):=by
 intro hsz S w0 cs hR;obtain⟨A,c,B,e,rfl,-,-,-,hX⟩:=hR.tree_inv;have hXl:=hX.slice_len;have hdl:=ZQ xs;rw[Mb]at hsz;refine Ga func63 O ntmps63 Ib (Id _) ?_;have hF:=FR.start w0 [];refine Ia (Bf hF O ?_);rintro b1 w hb1 hF -;refine Ca (Yc O) (Lc (Ca (Yc O) (Ea (Ja (Ia (Ca (Bc Gc O) (Sc (Xf xQ O hF.F 0 O O) (Ca (Tf dX O) ?_))))))));refine Ca (Vb O) (Ea (Za ?_));refine Fd (λμ σ w=>∃(j:Nat),μ=xs.length-j/\(j<=xs.length)/\AllEq σ [(3,J ((Dd (xs.take j):Nat))),(7,.slice B xs.length e),(8,J ((xs.length:Nat))),(9,J ((j:Int)))]/\FR w0 [] [(b1,.cells #[J k,I t,.slice A ks.length c,.slice B xs.length e] 25)] w) _ ⟨0,O,(Nat.zero_le _),Uu,hF⟩ ?_;rintro μ σ w ⟨j,rfl,hj,hs,hF⟩;refine Cg.slots hs ?_;clear hs;intro σ;refine Ia (Ca (Hn O O) (Ea (Ja ?_)));refine Rc O O (λhc0=>?_) (λhc0=>?_);refine Va (Ha (Ja (Za (Ia ?_))));obtain⟨ad0,cs0,hA0,hl0,hk0,hx0⟩:=hX.tree_elem (i:=j) tX;have ho0:=hx0.one_;refine Ma (v:=.pointer (some (ad0.add (j*4)))) (Ta (i:=(j:Int)) Ae O hA0 O tX tX) (Ma (v:=.agg (List.toArray cs0)) (Ya (l:=cs0) zQ oZ O hl0 (hF.cells0 hk0)) ?_);refine Kw (l:=cs0) hF mX (by rw[hl0];exact oZ) (by rw[hl0];rfl) (v:=.agg (List.toArray cs0)) O O (ho0) O ?_;rintro b2 w hb2 hF -;refine Ea (Fa (Ca (Vb O) (Ma (v:=.agg (List.toArray cs0)) (Ya (l:=cs0) zQ oZ O hl0 (hF.cellsAll 0 O)) ?_)));refine Hb hF (ih _ (eQ _) (by have:=Yf (List.getElem_mem (l:=xs) (n:=j) tX);omega) _ _ _ (hF.rep hx0)) (Ra en_63 O O) ?_;intro w hF;refine Ma (v:=J ((Dd (xs.take (j+1)):Nat))) (by rw[<-show max ((Dd (xs.take j):Nat):Int) ((Uc xs[j]:Nat):Int)=((Dd (xs.take (j+1)):Nat):Int) from by rw[EG xs j tX];omega];exact x_max O O) ?_;refine Ca (Yc O) (Gb (Fb (Ha (Fa (Ca (Bo O O) (Ca (Vb O) (Gb ?_)))))));refine Cc ⟨_,?_,j+1,O,tX,Uu,hF.drop 1⟩;omega;refine Wc (Vc O ?_);refine Ha (Ia (Ca (Vb O) ?_))
 have eT:xs.take j=xs:=List.take_of_length_le tX;refine Ma (v:=J ((Uc (.node k t ks xs):Nat))) (G7 O O (by rw[eT,Uc];exact Im tX tX tX)) ?_;refine Ca (Yc O) (Ea ?_);refine Rd (v:=J ((Uc (.node k t ks xs):Nat))) O O ?_;exact⟨O,hF.same⟩
theorem depth_c(x:Tree):JR x:=Tree.ind RO x
theorem Same.cell{w w':World}{a:Addr}{v:Value}(h:Same [] w w')(hc:w.cell? a=some v):w'.cell? a=some v:=((FR.start w []).ext h).cell0 hc
mutual
def Pd(q:Tree->Bool):Tree->Bool|.node k t ks xs=>q (.node k t ks xs)&&Bt q xs
def Bt(q:Tree->Bool):List Tree->Bool|[]=>true|x::xs=>Pd q x&&Bt q xs
end
theorem Su(q:Tree->Bool):∀xs:List Tree,Bt q xs = !(xs.any λx=>!Pd q x)
  | []=>rfl
  | x::xs=>by rw[Bt,Su q xs];simp
def EachC(w0:World)(bb:Nat)(xs:List Tree)(q:Tree->Bool):Prop:=∀x,x∈xs->∀S w cs,Same [] w0 w->Rep S w (Ub x) cs->Calls prog 64 #[.agg cs.toArray,V bb] w (Be λv w'=>v=.bool (q x)/\Same [] w w')
theorem EachC.ext{w0 w:World}{bb:Nat}{xs:List Tree}{q:Tree->Bool}(h:EachC w0 bb xs q)(hs:Same [] w0 w):EachC w bb xs q:=λx hx S w' cs hw=>h x hx S w' cs (hs.trans hw)
theorem QE{q:Tree->Bool}{xs:List Tree}{j:Nat}(h:j<xs.length)(hn:(xs.take j).any q=false)(hq:q xs[j]=false):(xs.take (j+1)).any q=false:=by
  rw[iQ h,List.any_append,hn];simp[hq]
def Tz(g:Nat)(q:Tree->Bool)(x:Tree):Prop:=∀S w0 cs,Rep S w0 (Ub x) cs->H3 x->Gl w0->Calls prog 35 #[.agg cs.toArray,.func (.func g) #[] #[]] w0 (Be λv w'=>v=.bool (Pd q x)/\Same [] w0 w')
theorem DK(xs:List Tree)(q:Tree->Bool)(bb:Nat)(B:Option Addr)(e:Nat)(S:Nat->Prop)(w0:World)(hX:Rep S w0 (.slice (Gd xs)) [.slice B xs.length e])(hq:EachC w0 bb xs q):Calls prog 78 #[.slice B xs.length e,.func (.func 64) #[] #[V bb]] w0 (Be λv w'=>∃n:Int,v=J n/\decide (0<=n)=xs.any q/\Same [] w0 w'):=by
 have hXl:=hX.slice_len;refine Ga func78 O ntmps78 Ib (Md _ _) ?_;have hF:=FR.start w0 [];refine Ia (Ca (Yc O) (Ea (Ja (Ia (Ca (Je O) (Ca (Tf dX O) (Ca (Vb O) (Ea (Za ?_)))))))));refine Fd (λμ σ w=>∃(j:Nat),μ=xs.length-j/\(j<=xs.length)/\((xs.take j).any q=false)/\AllEq σ [(0,.slice B xs.length e),(1,.func (.func 64) #[] #[.pointer (some (⟨bb,0,none⟩))]),(7,J ((xs.length:Nat))),(8,J ((j:Int)))]/\FR w0 [] [] w) _ ⟨0,O,(Nat.zero_le _),Da,Uu,hF⟩ ?_;rintro μ σ w ⟨j,rfl,hj,hn,hs,hF⟩;refine Cg.slots hs ?_;clear hs;intro σ;refine Ia (Ca (Hn O O) (Ea (Ja ?_)));refine Rc O O (λhc0=>?_) (λhc0=>?_);refine Va (Ha (Ja (Za (Ia (Ca (Vb O) (Ca (Yc O) (Lc (Ca (Zt) (Ca (Je O) ?_)))))))));refine Ca (Vb O) ?_;obtain⟨ad0,cs0,hA0,hl0,hk0,hx0⟩:=hX.tree_elem (i:=j) tX;have ho0:=hx0.one_;refine Ma (v:=.pointer (some (ad0.add (j*4)))) (Ta (i:=(j:Int)) Ae O hA0 O tX tX) (Ma (v:=.agg (List.toArray cs0)) (Ya (l:=cs0) zQ oZ O hl0 (hF.cells0 hk0)) ?_);refine Hb hF (hq _ (List.getElem_mem (l:=xs) (n:=j) tX) _ _ _ hF.same (hF.rep hx0)) (Wm O en_64 O O) ?_;intro w hF;refine Ea (Jg O O (λhc1=>?_) (λhc1=>?_));refine Ia (Ca (Vb O) (Ca (Yc O) (Ea ?_)));refine Rd (v:=J ((j:Int))) O O ?_;exact⟨_,O,by rw[List.any_eq_true.2 ⟨_,List.getElem_mem (l:=xs) (n:=j) tX,hc1⟩];simp,hF.same⟩;refine Va (Fb (Ha (Fa (Ca (Bo O O) (Ca (Vb O) (Gb ?_))))));refine Cc ⟨_,?_,j+1,O,tX,(QE tX hn hc1),Uu,hF⟩;omega;refine Wc (Vc O ?_);refine Ha (Ia (Ca (Yc O) (Ea ?_)));refine Rd (v:=J ((-1))) O O ?_;have eT:xs.take j=xs:=List.take_of_length_le tX;rw[eT]at hn;exact⟨_,O,by rw[hn];decide,hF.same⟩
theorem Dx(xs:List Tree)(q:Tree->Bool)(bb:Nat)(B:Option Addr)(e:Nat)(S:Nat->Prop)(w0:World)(hX:Rep S w0 (.slice (Gd xs)) [.slice B xs.length e])(hq:EachC w0 bb xs q):Calls prog 44 #[.slice B xs.length e,.func (.func 64) #[] #[V bb]] w0 (Be λv w'=>v=.bool (xs.any q)/\Same [] w0 w'):=by
 refine Ga func44 O ntmps44 Ib (Md _ _) ?_;have hF:=FR.start w0 [];refine Ia (Ca (Jc O) (Lc (Ca (Je O) (Ca (Zt) ?_))));refine Db (DK xs q bb B e S _ (hF.rep hX) (hq.ext hF.same)) (Xa en_78 O O O) ?_;rintro _ w ⟨n,rfl,hn,hE⟩;have hF:=hF.ext hE;refine Ca (KN O O) (Ca (Jc O) (Ea ?_));refine Rd (v:=.bool _) O O ?_;exact⟨congrArg Value.bool hn,hF.same⟩
theorem WD(g:Nat)(q:Tree->Bool)(x:Tree)(h:Tz g q x)(bb:Nat)(S:Nat->Prop)(w0:World)(cs:List Value)(hR:Rep S w0 (Ub x) cs)(hk:H3 x)(hG:Gl w0)(hb:w0.cell? ⟨bb,0,none⟩=some (.func (.func g) #[] #[])):Calls prog 64 #[.agg cs.toArray,V bb] w0 (Be λv w'=>v=.bool (!Pd q x)/\Same [] w0 w'):=by
 have hl:cs.length=4:=hR.length.trans (Xc x);have ho:=hR.one_;refine Ga func64 O ntmps64 Ib (Md _ _) ?_;have hF:=FR.start w0 [];refine Ia (Js (v:=.agg (List.toArray cs)) (cs:=(List.toArray cs)) hF O O ?_);rintro b1 w hb1 hF -;refine Ca (Jc O) (Lc (Ma (v:=.agg (List.toArray cs)) (Ya (l:=cs) zQ oZ O hl (hF.cellsAll 0 O)) (Ma (v:=.func (.func g) #[] #[]) (Pb isAgg44 O (hF.cell0 hb)) ?_)));refine Hb hF (h S _ cs (hF.rep hR) hk (hG.ext hF.same)) (Xa en_35 O O O) ?_;intro w hF;refine Ca (Fk O) (Ca (Jc O) (Ea ?_));refine Rd (v:=.bool _) O O ?_;exact⟨O,hF.same⟩
theorem LG(q:Tree->Bool)(hp:FD 36 q)(k:Int)(t:Str)(ks:List Str)(xs:List Tree)(ih:∀x,x∈xs->Tz 36 q x):Tz 36 q (.node k t ks xs):=by
 intro S w0 cs hR hk hG;have hk':=hk;rw[H3]at hk';obtain⟨A,c,B,e,rfl,-,-,hK,hX⟩:=hR.tree_inv;refine Ga func35 O ntmps35 Ib (Md _ _) ?_;have hF:=FR.start w0 [];refine Ia (Bf hF O ?_);rintro b1 w hb1 hF -;refine GW (.func (.func 36) #[] #[]) hF O ?_;rintro b2 w hb2 hF -;refine Ca (Jc O) (Lc (Sc (ylu isAgg44 O hF.F 0 O O) (Sc (Of zQ oZ O hF.F 1 O O) ?_)));refine Hb hF (hp (.node k t ks xs) S _ _ (hF.rep hR) hk (hG.ext hF.same)) (Wm O en_36 O O) ?_;intro w hF;refine Ca (Hd O) (Zd (d:=8) O (λhg0=>?_) (λhg0=>?_));refine Ca (Bc Gc O) (Sc (Xf xQ O hF.F 1 O O) (Ma (v:=.func (.func 64) #[] #[V b2]) (To O) ?_));refine Hb hF (Dx xs (λx=>!Pd q x) b2 B e S _ (hF.rep hX) (λx hx S' w' cs' hs hr=>WD 36 q x (ih x hx) b2 S' w' cs' hr (Rx hk'.2.2 x hx) ((hG.ext hF.same).ext hs) (hs.cell (hF.cell 0 O O)))) (Xa BY O O O) ?_;intro w hF;refine Ca (Fk O) (Ca (Kc O O) (Ca (Jc O) (Ea ?_)));refine Rd (v:=.bool _) O O ⟨?_,hF.same⟩;rw[Pd,Su];simp_all;refine Ka (Ka (Ka (Ka (Ka (Ca (Ld O O) (Ca (Jc O) (Ea ?_)))))));refine Rd (v:=.bool false) O O ⟨?_,hF.same⟩;rw[Pd,Su];simp_all
theorem VV(q:Tree->Bool)(hp:FD 36 q)(x:Tree):Tz 36 q x:=Tree.ind (LG q hp) x
theorem YG(q:Tree->Bool)(hp:FD 37 q)(k:Int)(t:Str)(ks:List Str)(xs:List Tree)(ih:∀x,x∈xs->Tz 37 q x):Tz 37 q (.node k t ks xs):=by
 intro S w0 cs hR hk hG;have hk':=hk;rw[H3]at hk';obtain⟨A,c,B,e,rfl,-,-,hK,hX⟩:=hR.tree_inv;refine Ga func35 O ntmps35 Ib (Md _ _) ?_;have hF:=FR.start w0 [];refine Ia (Bf hF O ?_);rintro b1 w hb1 hF -;refine GW (.func (.func 37) #[] #[]) hF O ?_;rintro b2 w hb2 hF -;refine Ca (Jc O) (Lc (Sc (ylu isAgg44 O hF.F 0 O O) (Sc (Of zQ oZ O hF.F 1 O O) ?_)));refine Hb hF (hp (.node k t ks xs) S _ _ (hF.rep hR) hk (hG.ext hF.same)) (Wm O en_37 O O) ?_;intro w hF;refine Ca (Hd O) (Zd (d:=8) O (λhg0=>?_) (λhg0=>?_));refine Ca (Bc Gc O) (Sc (Xf xQ O hF.F 1 O O) (Ma (v:=.func (.func 64) #[] #[V b2]) (To O) ?_));refine Hb hF (Dx xs (λx=>!Pd q x) b2 B e S _ (hF.rep hX) (λx hx S' w' cs' hs hr=>WD 37 q x (ih x hx) b2 S' w' cs' hr (Rx hk'.2.2 x hx) ((hG.ext hF.same).ext hs) (hs.cell (hF.cell 0 O O)))) (Xa BY O O O) ?_;intro w hF;refine Ca (Fk O) (Ca (Kc O O) (Ca (Jc O) (Ea ?_)));refine Rd (v:=.bool _) O O ⟨?_,hF.same⟩;rw[Pd,Su];simp_all;refine Ka (Ka (Ka (Ka (Ka (Ca (Ld O O) (Ca (Jc O) (Ea ?_)))))));refine Rd (v:=.bool false) O O ⟨?_,hF.same⟩;rw[Pd,Su];simp_all
theorem SU(q:Tree->Bool)(hp:FD 37 q)(x:Tree):Tz 37 q x:=Tree.ind (YG q hp) x
def rnodeB(x:Tree):Bool:=decide (x.kind≠7)&&nodeB x
def Hl(x:Tree):Bool:=decide (Mb x<=4096)&&decide (Uc x<=32)
def Mf(x:Tree):Bool:=Hl x&&Pd nodeB x
def Nc(x:Tree):Bool:=Hl x&&Pd rnodeB x
theorem QZ{n:Nat}(h:n<=1000000000):wr (n:Int)=(n:Int):=Pt tX tX
theorem rnode_c  : FD 36 rnodeB:=by
 rintro⟨k,t,ks,xs⟩ S w0 cs hR hk hG;obtain⟨A,c,B,e,rfl,-,-,hK,hX⟩:=hR.tree_inv;refine Ga func36 O ntmps36 Ib (Id _) ?_;have hF:=FR.start w0 [];refine Ia (Bf hF O ?_);rintro b1 w hb1 hF -;refine Ca (Jc O) (Lc (Ca (Bc Wf O) (Sc (Zq aZ O hF.F 0 O O) (Ca (Bw O O) (Ca (Hd O) ?_)))));refine Tc (d:=6) O (λhg0=>?_) (λhg0=>?_);refine Sc (Of zQ oZ O hF.F 0 O O) (Hb hF (node_c (.node k t ks xs) S _ _ (hF.rep hR) hk (hG.ext hF.same)) (Ra en_37 O O) ?_);intro w hF;refine Ca (Kc O O) (Ca (Jc O) (Ea ?_));refine Rd (v:=.bool _) O O ⟨?_,hF.same⟩;simp_all[rnodeB,Tree.kind];refine Ka (Ka (Ca (Ld O O) (Ca (Jc O) (Ea ?_))));refine Rd (v:=.bool false) O O ⟨?_,hF.same⟩;simp_all[rnodeB,Tree.kind]
theorem size_v(x:Tree)(hsz:Mb x<=1000000000)(S:Nat->Prop)(w0:World)(cs:List Value)(hR:Rep S w0 (Ub x) cs):Calls prog 62 #[.agg cs.toArray] w0 (Be λv w'=>v=J (Mb x:Nat)/\Same [] w0 w'):=by
  have h:=size_c x S w0 cs hR
  rwa [QZ hsz]at h
theorem TT(x:Tree)(hsz:Mb x<=1000000000)(S:Nat->Prop)(w0:World)(cs:List Value)(hR:Rep S w0 (Ub x) cs):Calls prog 34 #[.agg cs.toArray] w0 (Be λv w'=>v=.bool (Hl x)/\Same [] w0 w'):=by
 have hl:cs.length=4:=hR.length.trans (Xc x);have ho:=hR.one_;refine Ga func34 O ntmps34 Ib (Id _) ?_;have hF:=FR.start w0 [];refine Ia (Js (v:=.agg (List.toArray cs)) (cs:=(List.toArray cs)) hF O O ?_);rintro b1 w hb1 hF -;refine Ca (Jc O) (Lc (Ma (v:=.agg (List.toArray cs)) (Ya (l:=cs) zQ oZ O hl (hF.cellsAll 0 O)) ?_));refine Hb hF (size_v x hsz S _ cs (hF.rep hR)) (Ra en_62 O O) ?_;intro w hF;refine Ca (yle O O) (Ca (Hd O) ?_);refine Tc (d:=6) O (λhg0=>?_) (λhg0=>?_);refine Ma (v:=.agg (List.toArray cs)) (Ya (l:=cs) zQ oZ O hl (hF.cellsAll 0 O)) (Hb hF (depth_c x hsz S _ cs (hF.rep hR)) (Ra en_63 O O) ?_);intro w hF;refine Ca (yle O O) (Ca (Kc O O) (Ca (Jc O) (Ea ?_)));refine Rd (v:=.bool _) O O ⟨congrArg Value.bool ?_,hF.same⟩;unfold Hl
 first|(rw[decide_eq_true (by omega:Mb x<=4096)];exact decide_eq_decide.2 tX)|(rw[decide_eq_false (by omega:¬Mb x<=4096)];rfl)
 refine Ka (Ka (Ka (Ca (Ld O O) (Ca (Jc O) (Ea ?_)))));refine Rd (v:=.bool false) O O ⟨congrArg Value.bool ?_,hF.same⟩;unfold Hl
 first|(rw[decide_eq_true (by omega:Mb x<=4096)];exact decide_eq_decide.2 tX)|(rw[decide_eq_false (by omega:¬Mb x<=4096)];rfl)
theorem Aq(x:Tree)(hsz:Mb x<=1000000000)(S:Nat->Prop)(w0:World)(cs:List Value)(hR:Rep S w0 (Ub x) cs)(hk:H3 x)(hG:Gl w0):Calls prog 16 #[.agg cs.toArray] w0 (Be λv w'=>v=.bool (Nc x)/\Same [] w0 w'):=by
 have hl:cs.length=4:=hR.length.trans (Xc x);have ho:=hR.one_;refine Ga func16 O ntmps16 Ib (Id _) ?_;have hF:=FR.start w0 [];refine Ia (Js (v:=.agg (List.toArray cs)) (cs:=(List.toArray cs)) hF O O ?_);rintro b1 w hb1 hF -;refine Ca (Jc O) (Lc (Ma (v:=.agg (List.toArray cs)) (Ya (l:=cs) zQ oZ O hl (hF.cellsAll 0 O)) ?_));refine Hb hF (TT x hsz S _ cs (hF.rep hR)) (Ra en_34 O O) ?_;intro w hF;refine Ca (Hd O) (Zd (d:=5) O (λhg0=>?_) (λhg0=>?_));refine Ma (v:=.agg (List.toArray cs)) (Ya (l:=cs) zQ oZ O hl (hF.cellsAll 0 O)) (Hb hF (VV rnodeB rnode_c x S _ cs (hF.rep hR) hk (hG.ext hF.same)) (Xa en_35 O O O) ?_);intro w hF;refine Ca (Kc O O) (Ca (Jc O) (Ea ?_));refine Rd (v:=.bool _) O O ?_;exact⟨congrArg Value.bool (by unfold Nc;simp_all),hF.same⟩;refine Ka (Ka (Ca (Ld O O) (Ca (Jc O) (Ea ?_))));refine Rd (v:=.bool false) O O ?_;exact⟨congrArg Value.bool (by unfold Nc;simp_all),hF.same⟩
theorem Uz(x:Tree)(hsz:Mb x<=1000000000)(S:Nat->Prop)(w0:World)(cs:List Value)(hR:Rep S w0 (Ub x) cs)(hk:H3 x)(hG:Gl w0):Calls prog 29 #[.agg cs.toArray] w0 (Be λv w'=>v=.bool (Mf x)/\Same [] w0 w'):=by
 have hl:cs.length=4:=hR.length.trans (Xc x);have ho:=hR.one_;refine Ga func29 O ntmps29 Ib (Id _) ?_;have hF:=FR.start w0 [];refine Ia (Js (v:=.agg (List.toArray cs)) (cs:=(List.toArray cs)) hF O O ?_);rintro b1 w hb1 hF -;refine Ca (Jc O) (Lc (Ma (v:=.agg (List.toArray cs)) (Ya (l:=cs) zQ oZ O hl (hF.cellsAll 0 O)) ?_));refine Hb hF (TT x hsz S _ cs (hF.rep hR)) (Ra en_34 O O) ?_;intro w hF;refine Ca (Hd O) (Zd (d:=5) O (λhg0=>?_) (λhg0=>?_));refine Ma (v:=.agg (List.toArray cs)) (Ya (l:=cs) zQ oZ O hl (hF.cellsAll 0 O)) (Hb hF (SU nodeB node_c x S _ cs (hF.rep hR) hk (hG.ext hF.same)) (Xa en_35 O O O) ?_);intro w hF;refine Ca (Kc O O) (Ca (Jc O) (Ea ?_));refine Rd (v:=.bool _) O O ?_;exact⟨congrArg Value.bool (by unfold Mf;simp_all),hF.same⟩;refine Ka (Ka (Ca (Ld O O) (Ca (Jc O) (Ea ?_))));refine Rd (v:=.bool false) O O ?_;exact⟨congrArg Value.bool (by unfold Mf;simp_all),hF.same⟩
end Go.Scarf
