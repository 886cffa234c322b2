/- A part of the proof. -/
import Derived.Test.YtbhneplafiapdaaGreatDoorW2
import Derived.Test.YtbhneplafiapdaaGreatDoorShelf2
import Derived.Lib.ValidLaws
import Derived.Lib.TrimUEq
import Derived.Lib.MapLaws
set_option linter.all false
set_option maxHeartbeats 8000000
set_option maxRecDepth 10000
namespace Go.Scarf
open Go.RowKit Go.Proofs Go.Proofs.Tryz
def An(s:Str):Bool:=decide ((Jd s).2=0)&&decide (Qk (Jd s).1=s)
def L1(s:Str):Bool:=An s&&(O4 (Jd s).1).2&&decide (0<=(O4 (Jd s).1).1)
theorem L0(s:Str):Ud (Jd s).1=true:=by
  rw[Mh]
  repeat' split
  all_goals first|rfl|simp_all
theorem So(s:Str):(Jd s).1.digits.length<=1000:=(Pc (L0 s)).1
theorem Lj(s:Str)(q:Nat):Lib.decodeL (s.drop q)=Utf8.decode (bs s) q:=Lib.decodeL_drop (bs s) q
theorem Bw(s:Str)(q:Nat):1<=(Utf8.decode (bs s) q).2:=by rw[<-Lj];exact Lib.decodeL_width _
theorem Ou(s:Str)(q:Nat)(h:q<s.length):q+(Utf8.decode (bs s) q).2<=s.length:=by
  have:=Lib.decodeL_le (s.drop q) (by rw[ne_eq,List.drop_eq_nil_iff];omega);rw[Lj,List.length_drop]at this;omega
theorem Gw(s:Str)(q:Nat)(h:q<s.length)(hv:Lib.validD (s.drop q)=false)(hn:¬((Utf8.decode (bs s) q).1=65533/\(Utf8.decode (bs s) q).2=1)):Lib.validD (s.drop (q+(Utf8.decode (bs s) q).2))=false:=by
  rw[Lib.validD_step _ (by rw[ne_eq,List.drop_eq_nil_iff];omega),Lj,if_neg hn,List.drop_drop]at hv;exact hv
theorem Bo(s:Str)(q:Nat)(h:q<s.length):Lib.decodeGo (bs (s.drop q))=Utf8.decode (bs s) q:=by
  have h1:(bs (s.drop q)).size≠0:=by rw[Nn,List.length_drop];omega
  rw[Lib.decodeGo,if_neg h1];exact Lj s q
theorem Xw(s:Str)(hl:s.length<=140737488355328){w:World}(hG:Gl w):Calls prog 132 #[I s] w (Hd λv w'=>v=.bool (Lib.validD s)/\Same [] w w') :=
  Zq (utf8_ValidString (bs s) w (by rw[Nn];omega) hG.tabs)
theorem Xz(s:Str){w:World}(hG:Gl w):Calls prog 133 #[I s] w (Hd λv w'=>v=.tuple #[.int .i32 (Lib.decodeGo (bs s)).1,J (Lib.decodeGo (bs s)).2]/\Same [] w w') :=
  Zq (utf8_DecodeRuneInString (bs s) w hG.tabs)
theorem Lz(s:Str)(hl:s.length<=140737488355328)(w0:World)(hG:Gl w0):Calls prog 91 #[I s] w0 (Hd λv w'=>∃n,v=.tuple #[J n,.bool (Lib.validD s)]/\Same [] w0 w'):=by
  refine Ga func91 O ntmps91 Ib (Kc _) ?_;have hF:=FR.start w0 [];refine Ja (Ma ?_);refine Da (Gd O) (Da (Kb O) ?_);refine Eb (Ha ?_);refine Ja (Ja ?_);refine Ma (Da (Oe O) ?_);refine Ra hF (Xw s hl (hG.ext hF.same)) (Sa GL O O) ?_;intro w hF;refine Eb (Ha ?_);refine Me O O (λhc0=>?_) (λhc0=>?_)
  ·
   refine Ja (Ma ?_);refine Da (Oe O) (Da (N9 mZ O) ?_);refine Da (Gd O) (Da (Kb O) ?_);refine Eb (Ha ?_);refine Wb (Rb (Ua (Uk (v:=J ((((s):Str).length:Int))) (x:=.bool true) O O O) ?_));exact⟨_,by rw[hc0],hF.same⟩
  refine Ta (Ha ?_);refine Ja (Ja ?_);refine Ma (Da (Oe O) ?_);refine Wv (str:=s) hF mZ O ?_;intro b1 w hb1 hF hE;refine Eb (Ha ?_);refine Cb (Yc (λμ σ w=>∃(q:Nat),μ=s.length-q/\(q<=s.length)/\(Lib.validD (s.drop q)=false)/\AllEq σ [(0,I s),(13,V b1)]/\FR w0 [] [(b1,.stringIter (bs s) (q))] w) _ ⟨0,O,(Nat.zero_le _),(by simpa using hc0),D9,hF⟩ ?_);rintro μ σ w ⟨q,rfl,hq,hv,hs,hF⟩;refine Cg.slots hs ?_;clear hs;intro σ;refine Ja (Ma ?_);by_cases hn0:(q)<(s:Str).length
  ·
   refine I0 0 (p:=q) (str:=s) hF O O hn0 ?_;intro w hF hE;refine Da (Fq O O) (Eb ?_);refine Ha (Ja ?_);refine Ie O (Ta ?_);refine Ha (Cb ?_);refine Ja (Ma ?_);refine Da (Rr O O) (Da (Rr O O) ?_);refine Da (Gd O) (Da (Gd O) ?_);refine Eb (Ha ?_);refine Ja (Ja ?_);refine Ma (Da (Bc O) ?_);refine Da (Zz O O) (Eb ?_);refine Ha (Tc O O (λhc2=>?_) (λhc2=>?_))
   ·
    refine Rc (Nc O ?_);have h1:=Bw s q;have hw:¬((Utf8.decode (bs s) q).1=65533/\(Utf8.decode (bs s) q).2=1):=by
      first
      | (intro hh;omega)
      | (rw[Bo s q Ca]at hc3;intro hh;omega)
    refine Hc ⟨_,?_,q+(Utf8.decode (bs s) q).2,O,(Ou s q Ca),(Gw s q Ca hv hw),D9,hF⟩;omega
   refine Ta (Ha ?_);refine Ja (Ma ?_);refine Da (Oe O) (Da (Bc O) ?_);refine Oa (v:=I ((s:Str).drop (q))) (O2 (q) mZ O O Ca) (Ra hF (Xz (s.drop q) (hG.ext hF.same)) (Sa VK O O) ?_);intro w hF;refine Da (Yq O) (Da (Rr O O) ?_);refine Da (Rr O O) (Da (Gd O) ?_);refine Da (Gd O) (Eb ?_);refine Ha (Ja ?_);refine Ma (Da (Bc O) ?_);refine Da (G5 O O) (Eb ?_);refine Ha (Tc O O (λhc3=>?_) (λhc3=>?_))
   ·
    refine Ja (Ma ?_);refine Da (Bc O) (Da (Gd O) ?_);refine Da (Kb O) (Eb ?_);refine Ha (Wb (Rb (Ua (Uk (v:=J (((q:Nat):Int))) (x:=.bool false) O O O) ?_)));exact⟨_,by rw[hc0],hF.same⟩
   refine Ta (Ub ?_);have h1:=Bw s q;have hw:¬((Utf8.decode (bs s) q).1=65533/\(Utf8.decode (bs s) q).2=1):=by
     first
     | (intro hh;omega)
     | (rw[Bo s q Ca]at hc3;intro hh;omega)
   refine Hc ⟨_,?_,q+(Utf8.decode (bs s) q).2,O,(Ou s q Ca),(Gw s q Ca hv hw),D9,hF⟩;omega
  refine Qo 0 (p:=q) (str:=s) hF O O hn0 (Da (Fq O O) ?_);refine Eb (Ha ?_);refine Ja (Fk O ?_);refine Rc (Nc O ?_);refine Ha (Ja ?_);refine Ma (Da (Oe O) ?_);refine Da (N9 mZ O) (Da (Gd O) ?_);refine Da (Kb O) (Eb ?_);refine Ha (Wb (Rb (Ua (Uk (v:=J ((((s):Str).length:Int))) (x:=.bool true) O O O) ?_)));have e:s.drop q=[]:=List.drop_eq_nil_of_le Ca;rw[e]at hv;cases hv
theorem H_(s:Str)(hl:s.length<=140737488355328)(w0:World)(hG:Gl w0):Calls prog 100 #[I s] w0 (Hd λv w'=>v=.bool (Lib.validD s)/\Same [] w0 w'):=by
 refine Ga func100 O ntmps100 Ib (Kc _) ?_;have hF:=FR.start w0 [];refine Ka (Da (Kb O) (Yb (Da (Oe O) ?_)));refine Cc (Lz s hl _ (hG.ext hF.same)) (Sa EE O O) ?_;rintro _ w ⟨n,rfl,hE⟩;have hF:=hF.ext hE;refine Da (Yq O) (Da (Rr O O) (Da (Fq O O) (Da (Gd O) (Da (Kb O) (Yb (Da (Nd O) (Da (Kb O) (Ea ?_))))))));refine Sc (v:=.bool _) O O ?_;exact⟨O,hF.same⟩
theorem Rx(s:Str)(hl:s.length<=140737488355328)(w0:World)(hG:Gl w0):Calls prog 99 #[I s] w0 (Hd λv w'=>v=.tuple #[Kl (Jd s).1,.bool (An s)]/\Same [] w0 w'):=by
 refine Ga func99 O ntmps99 Ib (Kc _) ?_;have hF:=FR.start w0 [];refine Ka (Ce (cs:=#[.bool false,I [],J 0]) hF qZ O ?_);rintro b1 w hb1 hF -;refine Da (Kb O) (Yb (Da (Oe O) ?_));refine Ra hF (U8 s hl _) (Sa UJ O O) ?_;intro w hF;refine Da (Yq O) (Da (E5 O O) (Da (Rr O O) ?_));refine Zi hF qZ dZ O ?_;rintro b2 w hb2 hF -;refine Da (Gd O) (Ea (Ja ?_));refine Kj (.of []) (bQ [0,1,2,3,4,6] (.act 5 (.free 7 (.free 8 (.act 9 (.free 10 .nil)))))) hF ?_;rintro w hF -;refine⟨λwq=>FR w0 [] [(b2,.cells #[.bool ((Jd s).1.neg),I ((Jd s).1.digits),J ((Jd s).1.exp)] 73)] wq,hF.sub (.cons_cons _ (.cons _ .slnil)),?_⟩;refine Mq O (Hj xQ dZ O C0 0 O O) (Lc O (Bc O) (Lc O (G5 O O) (Lc O (Nd O) ?_)));refine Yi (d:=14) O (λhg0=>?_) (λhg0=>?_);refine Mq O (Hj xQ dZ O C0 0 O O) (Lc O (Oe O) ?_);refine Yf hF (PE (Jd s).1 (by have:=So s;omega) _ (hG.ext hF.same)) O (Sa NK O O) ?_;intro w hF;refine⟨hF.sub (.cons_cons _ (.cons _ .slnil)),?_⟩;refine Lc O (F7 O O) (Lc O (Ec O O) ?_);refine Vo O hF dZ O O D1 ?_;rintro w hF -;refine⟨hF.sub (.cons_cons _ (.cons _ .slnil)),?_⟩;refine Lc O (Kb O) (Zd (Ha ?_));refine Wb (Rb (Ua (Fd O (l:=[.bool ((Jd s).1.neg),I ((Jd s).1.digits),J ((Jd s).1.exp)]) O xQ dZ O (hF.cellsAll 1 O) (v:=.bool (decide ((Qk (Jd s).1:Str)=s))) O) ?_));exact⟨by simp_all[An,Kl],hF.same⟩;refine Xf O (Xf O ?_);refine YM O ?_ (hF.sub (.cons_cons _ (.cons _ .slnil)));refine Xf O (Lc O (Ed O O) ?_);refine Vo O hF dZ O O D1 ?_;rintro w hF -;refine⟨hF.sub (.cons_cons _ (.cons _ .slnil)),?_⟩;refine Lc O (Kb O) (Zd (Ha ?_));refine Wb (Rb (Ua (Fd O (l:=[.bool ((Jd s).1.neg),I ((Jd s).1.digits),J ((Jd s).1.exp)]) O xQ dZ O (hF.cellsAll 1 O) (v:=.bool false) O) ?_));exact⟨by simp_all[An,Kl],hF.same⟩
theorem WM(s:Str)(hl:s.length<=140737488355328)(w0:World)(hG:Gl w0):Calls prog 101 #[I s] w0 (Hd λv w'=>v=.bool (L1 s)/\Same [] w0 w'):=by
 refine Ga func101 O ntmps101 Ib (Kc _) ?_;have hF:=FR.start w0 [];refine Ka (Da (Kb O) (Yb (Da (Oe O) ?_)));refine Ra hF (Rx s hl _ (hG.ext hF.same)) (Sa DK O O) ?_;intro w hF;refine Da (Yq O) (Da (E5 O O) (Da (Fq O O) ?_));refine Zi hF qZ dZ O ?_;rintro b1 w hb1 hF -;refine Da (Kb O) (Yb (Qd (Hj xQ dZ O hF.F 0 O O) ?_));refine Ra hF (KF (Jd s).1 (by have:=So s;omega) _ (hG.ext hF.same)) (Sa BN O O) ?_;intro w hF;refine Da (Yq O) (Da (Rr O O) (Da (Fq O O) (Da (Gd O) (Da (Kb O) (Yb (Da (Nd O) (Da (Nd O) ?_)))))));refine Uc (d:=18) O (λhg0=>?_) (λhg0=>?_);refine Da (Nd O) (Da (Ec O O) (Da (Nd O) ?_));refine Uc (d:=21) O (λhg1=>?_) (λhg1=>?_);refine Da (Bc O) (Da (U9 O O) (Da (Ec O O) (Da (Kb O) (Ea ?_))));refine Sc (v:=.bool _) O O ?_;exact⟨by simp_all[L1],hF.same⟩;refine Ia (Ia (Da (Ed O O) (Da (Kb O) (Ea ?_))));refine Sc (v:=.bool false) O O ?_;exact⟨by simp_all[L1],hF.same⟩;refine Ia (Da (Ed O O) (Da (Nd O) (Ia (Ia (Da (Ed O O) (Da (Kb O) (Ea ?_)))))));refine Sc (v:=.bool false) O O ?_;exact⟨by simp_all[L1],hF.same⟩
def Pq(ks:List Str)(n:Int):Bool:=decide ks.Nodup&&ks.all Lib.validD&&decide ((ks.length:Int)=n)
def Kp(ks:List Str):MapL:=ks.map λk=>(k,.bool true)
theorem Zt(ks:List Str)(k:Str):Af (Kp ks) k=if k∈ks then some (.bool true) else none:=by
  induction ks with
  | nil=>rfl
  | cons a r ih =>
    have e:Kp (a::r)=[(a,.bool true)]++Kp r:=rfl;rw[e,T0,ih];by_cases h:a=k
    ·subst h;simp[Af]
    have h' : ¬ k = a := λe => h e.symm;simp[Af,h,h']
theorem W5(ks:List Str)(j:Nat)(h:j<ks.length):Kp (ks.take j)++[(ks[j],.bool true)]=Kp (ks.take (j+1)):=by
  unfold Kp;rw[iQ h,jQ];rfl
theorem Ns{ks:List Str}{j:Nat}(h:j<ks.length)(hn:(ks.take j).Nodup)(hi:¬ks[j]∈ks.take j):(ks.take (j+1)).Nodup:=by
  rw[iQ h,List.nodup_append];refine⟨hn,by simp,?_⟩;intro a ha b hb e;simp only[pQ]at hb;subst e;subst hb;exact hi ha
theorem Up{ks:List Str}{j:Nat}(h:j<ks.length)(hi:ks[j]∈ks.take j):¬ks.Nodup:=by
  intro hn;obtain⟨i,hi',he⟩:=List.getElem_of_mem hi;rw[List.getElem_take]at he;have hi2:i<j:=by rw[List.length_take]at hi';omega
  have:=(List.pairwise_iff_getElem.1 hn) i j Ca h hi2;exact this he
theorem Jx{f:Str->Bool}{ks:List Str}{j:Nat}(h:j<ks.length)(ha:(ks.take j).all f=true)(hv:f ks[j]=true):(ks.take (j+1)).all f=true:=by
  rw[iQ h,List.all_append,ha];simp[hv]
theorem PI{f:Str->Bool}{ks:List Str}{j:Nat}(h:j<ks.length)(hv:f ks[j]=false):ks.all f=false:=by
  rw[Bool.eq_false_iff];intro ha;have:=List.all_eq_true.1 ha ks[j] (eQ h);rw[hv]at this;cases this
theorem AH(ks:List Str)(n:Int)(S:Nat->Prop)(A:Option Addr)(c:Nat)(hl:∀k∈ks,k.length<=140737488355328)(w0:World)(hG:Gl w0)(hX:Rep S w0 (Te ks) [.slice A ks.length c]):Calls prog 98 #[.slice A ks.length c,J n] w0 (Hd λv w'=>v=.bool (Pq ks n)/\Same [] w0 w'):=by
 have hXl:=hX.slice_len;refine Ga func98 O ntmps98 Ib (Kd _ _) ?_;have hF:=FR.start w0 [];refine Ka (Da (Kb O) (Yb (Da (Wd O) (Da (Fh iZ O) ?_))));refine Rp (v:=λb=>.map (some b)) hF (Gy underlying167 O) ?_;rintro b1 w hb1 hF -;refine Da (JG) (Ea (Ja (Ka (Da (Wd O) (Da (Fh iZ O) (Da (Bc O) (Ea (Cb ?_))))))));have hF:FR w0 [] [(b1,Wf (Kp (ks.take 0)))] w:=hF;refine Yc (λμ σ w=>∃(j:Nat),μ=ks.length-j/\(j<=ks.length)/\((ks.take j).Nodup)/\((ks.take j).all Lib.validD=true)/\AllEq σ [(0,.slice A ks.length c),(1,J n),(5,.map (some b1)),(11,.slice A ks.length c),(12,J ((ks.length:Nat))),(13,J ((j:Int)))]/\FR w0 [] [(b1,Wf (Kp (ks.take j)))] w) _ ⟨0,O,(Nat.zero_le _),Pa,Pa,TQ,hF⟩ ?_;rintro μ σ w ⟨j,rfl,hj,hd,hv,hs,hF⟩;refine Cg.slots hs ?_;clear hs;intro σ;refine Ka (Da (Wo O O) (Ea (Ja ?_)));refine Tc O O (λhc0=>?_) (λhc0=>?_);refine Ta (Ha (Ja (Cb (Ka ?_))));obtain⟨ad0,hA0,hk0,hx0⟩:=hX.str_elem (i:=j) Ca;refine Oa (v:=.pointer (some (ad0.add (j*1)))) (Va (i:=(j:Int)) A9 O hA0 O Ca Ca) (Oa (v:=I (ks[j])) (Xd zQ O (hF.cell0 hk0)) (Da (Bm O) (Ea (Ja (Ka (Da (Lq) (Da (Oe O) ?_)))))));refine Oa (v:=.bool (decide (ks[j]∈ks.take j))) (VB underlying167 mZ zeroValue4 O O (hF.heap (i:=0) O) (by rw[Zt];split <;> rename_i hh <;> simp only[hh,decide_true,decide_false] <;> rfl)) ?_;refine Da (Nd O) (Xc (d:=20) O (λhg1=>?_) (λhg1=>?_));refine Ia (Ia (Ia (Da (Ec O O) (Ea (Ie O (Ka (Da (Kb O) (Ea ?_))))))));refine Sc (v:=.bool false) O O ?_;have:=Up (ks:=ks) (j:=j) Ca (by assumption);exact⟨congrArg Value.bool (by unfold Pq;rw[decide_eq_false this];rfl),hF.same⟩;refine Da (Oe O) (Ra hF (H_ ks[j] (hl _ (eQ _)) _ (hG.ext hF.same)) (Sa JD O O) ?_);intro w hF;refine Da (Ui O) (Da (Ed O O) (Ea ?_));refine Me O O (λhc1=>?_) (λhc1=>?_);refine Ka (Da (Kb O) (Ea ?_));refine Sc (v:=.bool false) O O ?_
 have:=PI (f:=Lib.validD) (ks:=ks) (j:=j) Ca (by simpa using hc1);exact⟨congrArg Value.bool (by unfold Pq;rw[this,Bool.and_false];rfl),hF.same⟩;refine Ta (Ha (Ma (Da (Lq) (Da (Oe O) ?_))));refine Sr 0 (v:=.bool true) hF underlying167 mZ O O O O (by rw[Zt,if_neg (by assumption)]) ?_;rintro w hF -;rw[W5 ks j Ca]at hF;have hF:FR w0 [] [(b1,Wf (Kp (ks.take (j+1))))] w:=hF;refine Eb (Ub (Ha (Ma (Da (Dm O O) (Da (Bc O) (Eb ?_))))));refine Hc ⟨_,?_,j+1,O,Ca,(Ns Ca hd (by assumption)),(Jx Ca hv (by simpa using hc1)),TQ,hF⟩;omega;refine Rc (Nc O ?_);refine Ha (Ka (Da (Wd O) (Da (Fh iZ O) (Da (Bc O) (Da (G5 O O) (Da (Kb O) (Ea ?_)))))));refine Sc (v:=.bool _) O O ?_;obtain rfl:j=ks.length:=by omega
 rw[List.take_length]at hd hv;exact⟨congrArg Value.bool (by unfold Pq;rw[hv,decide_eq_true hd];rfl),hF.same⟩
mutual
def Tw:Tree->Prop|.node _ t ks xs=>t.length<=140737488355328/\(∀k∈ks,k.length<=140737488355328)/\G3 xs
def G3:List Tree->Prop|[]=>True|x::xs=>Tw x/\G3 xs
end
theorem Qt:∀{xs:List Tree},G3 xs->∀x∈xs,Tw x
  | [],_,_,h=>absurd h Pa
  | y :: ys, h, x, hx => by
    rw[G3]at h;rcases oQ.1 hx with rfl|hx
    ·exact h.1
    exact Qt h.2 x hx
def nodeB:Tree->Bool
  | .node k t ks xs =>
    if k=5 then decide (ks=[])&&decide (t=[]) else
    if k=6 then Pq ks xs.length&&decide (t=[]) else
    if ks≠[]\/xs≠[] then false else
    if k=1 then decide (t=[]) else
    if k=2 then decide (t=[116,114,117,101]) || decide (t=[102,97,108,115,101]) else
    if k=3 then An t else if k=4 then Lib.validD t else if k=7 then L1 t else false
def Hy(g:Nat)(q:Tree->Bool):Prop:=∀(x:Tree)(S:Nat->Prop)(w0:World)(cs:List Value),Rep S w0 (Mb x) cs->Tw x->Gl w0->Calls prog g #[.agg cs.toArray] w0 (Hd λv w'=>v=.bool (q x)/\Same [] w0 w')
theorem SF  : Hy 67 nodeB:=by
 rintro⟨k,t,ks,xs⟩ S w0 cs hR hk hG;obtain⟨A,c,B,e,rfl,-,-,hK,hX⟩:=hR.tree_inv;rw[Tw]at hk;refine Ga func67 O ntmps67 Ib (Kc _) ?_;have hF:=FR.start w0 [];refine Ka (Mg hF O ?_);rintro b1 w hb1 hF -;refine Da (Kb O) (Ea (Ja ?_));refine Qf (zs:=.of []) (bQ [0,1,2,3,4,5,6,7,8,9] .nil) hF ?_;intro w hF;refine Lc O (Ld Qi O) (Mq O (Gm isAgg24 O C0 0 O O) (Lc O (Fh iZ O) (Lc O (AC O O) (Lc O (Ld Md O) (Mq O (Gm uQ O C0 0 O O) (Lc O (Fh jZ O) (Lc O (AC O O) (Lc O (Kb O) (Lc O (Kb O) (Zd (Ha (Ja (Ja ?_)))))))))))));refine Ma (Da (Ld Ll O) (Qd (F5 wQ O hF.F 0 O O) (Ea (Cb (Ka (Da (G5 O O) (Da (Kb O) (Ea ?_))))))));refine Tc O O (λhc0=>?_) (λhc0=>?_);refine Ka (Da (Nd O) (Da (qQq O) (Da (Nd O) ?_)));refine Xc (d:=21) O (λhg0=>?_) (λhg0=>?_);refine Da (Ld Rf O) (Qd (Xs zQ O hF.F 0 O O) (Da (F7 O O) (Da (Ec O O) (Da (Kb O) (Ea ?_)))));refine Sc (v:=.bool _) O O ⟨?_,hF.same⟩;clear hF hR hK hX hb1;simp_all[nodeB,List.length_pos_iff];refine Ia (Ia (Ia (Da (Ed O O) (Da (Kb O) (Ea ?_)))));refine Sc (v:=.bool false) O O ⟨?_,hF.same⟩;clear hF hR hK hX hb1;simp_all[nodeB,List.length_pos_iff];refine Ka (Da (G5 O O) (Da (Kb O) (Ea ?_)));refine Tc O O (λhc1=>?_) (λhc1=>?_);refine Ka (Da (Ld Qi O) (Qd (Gm isAgg24 O hF.F 0 O O) (Da (Ld Md O) (Qd (Gm uQ O hF.F 0 O O) (Da (Fh jZ O) ?_)))));refine Ra hF (AH ks (xs.length:Nat) S A c (by simpa using hk.2.1) _ (hG.ext hF.same) (hF.rep hK)) (Fb PO O O O) ?_;intro w hF;refine Da (Nd O) (Uc (d:=34) O (λhg1=>?_) (λhg1=>?_));refine Da (Ld Rf O) (Qd (Xs zQ O hF.F 0 O O) (Da (F7 O O) (Da (Ec O O) (Da (Kb O) (Ea ?_)))));refine Sc (v:=.bool _) O O ⟨?_,hF.same⟩;clear hF hR hK hX hb1;simp_all[nodeB,List.length_pos_iff];refine Ia (Ia (Ia (Da (Ed O O) (Da (Kb O) (Ea ?_)))));refine Sc (v:=.bool false) O O ⟨?_,hF.same⟩;clear hF hR hK hX hb1
 simp_all[nodeB,List.length_pos_iff];refine Ta (Ub (Ha (Ja (Ka (Da (Nd O) (Da (Nd O) ?_))))));refine Xc (d:=40) O (λhg2=>?_) (λhg2=>?_);refine Ia (Da (Ec O O) (Ea (Ie O (Ka (Da (Kb O) (Ea ?_))))));refine Sc (v:=.bool false) O O ⟨?_,hF.same⟩;clear hF hR hK hX hb1;simp_all[nodeB,List.length_pos_iff];refine Da (Nd O) (Da (Ed O O) (Ea ?_));refine Tc O O (λhc2=>?_) (λhc2=>?_);refine Ka (Da (Kb O) (Ea ?_));refine Sc (v:=.bool false) O O ⟨?_,hF.same⟩;clear hF hR hK hX hb1;simp_all[nodeB,List.length_pos_iff];refine Ta (Ha (Ja (Ka (Da (Ld Ll O) (Qd (F5 wQ O hF.F 0 O O) (Ea (Cb (Ka (Da (G5 O O) (Da (Kb O) ?_))))))))));refine Ea (Tc O O (λhc3=>?_) (λhc3=>?_));refine Ka (Da (Ld Rf O) (Qd (Xs zQ O hF.F 0 O O) (Da (F7 O O) (Da (Kb O) (Ea ?_)))));refine Sc (v:=.bool _) O O ⟨?_,hF.same⟩;clear hF hR hK hX hb1;simp_all[nodeB,List.length_pos_iff];refine Ka (Da (G5 O O) (Da (Kb O) (Ea ?_)));refine Tc O O (λhc4=>?_) (λhc4=>?_);refine Ka (Da (Ld Rf O) (Qd (Xs zQ O hF.F 0 O O) (Da (F7 O O) (Da (Nd O) ?_))));refine Xc (d:=55) O (λhg3=>?_) (λhg3=>?_);refine Ia (Ia (Ia (Da (Ec O O) (Da (Kb O) (Ea ?_)))));refine Sc (v:=.bool true) O O ⟨?_,hF.same⟩;clear hF hR hK hX hb1;simp_all[nodeB,List.length_pos_iff];refine Da (Ld Rf O) (Qd (Xs zQ O hF.F 0 O O) (Da (F7 O O) (Da (Ed O O) (Da (Kb O) (Ea ?_)))));refine Sc (v:=.bool _) O O ⟨?_,hF.same⟩;clear hF hR hK hX hb1;simp_all[nodeB,List.length_pos_iff];refine Ka (Da (G5 O O) (Da (Kb O) (Ea ?_)));refine Tc O O (λhc5=>?_) (λhc5=>?_);refine Ka (Da (Ld Rf O) (Qd (Xs zQ O hF.F 0 O O) ?_));refine Ra hF (Rx t hk.1 _ (hG.ext hF.same)) (Sa DK O O) ?_;intro w hF;refine Da (Yq O) (Da (E5 O O) (Da (Fq O O) ?_));refine Zi hF qZ dZ O ?_;rintro b2 w hb2 hF -;refine Da (Kb O) (Yb (Da (Nd O) (Da (Kb O) (Ea ?_))));refine Sc (v:=.bool _) O O ⟨?_,hF.same⟩
 clear hF hR hK hX hb1;simp_all[nodeB,List.length_pos_iff];refine Ka (Da (G5 O O) (Da (Kb O) (Ea ?_)));refine Tc O O (λhc6=>?_) (λhc6=>?_);refine Ka (Da (Ld Rf O) (Qd (Xs zQ O hF.F 0 O O) ?_));refine Ra hF (H_ t hk.1 _ (hG.ext hF.same)) (Sa JD O O) ?_;intro w hF;refine Da (Kb O) (Ea ?_);refine Sc (v:=.bool _) O O ⟨?_,hF.same⟩;clear hF hR hK hX hb1;simp_all[nodeB,List.length_pos_iff];refine Ka (Da (G5 O O) (Da (Kb O) (Ea ?_)));refine Tc O O (λhc7=>?_) (λhc7=>?_);refine Ka (Da (Ld Rf O) (Qd (Xs zQ O hF.F 0 O O) ?_));refine Ra hF (WM t hk.1 _ (hG.ext hF.same)) (Sa AN O O) ?_;intro w hF;refine Da (Kb O) (Ea ?_);refine Sc (v:=.bool _) O O ⟨?_,hF.same⟩;clear hF hR hK hX hb1;simp_all[nodeB,List.length_pos_iff];refine Ta (Ub (Ha (Ka (Da (Kb O) (Ea ?_)))));refine Sc (v:=.bool false) O O ⟨?_,hF.same⟩;clear hF hR hK hX hb1;simp_all[nodeB,List.length_pos_iff]
theorem Tree.ind{Q:Tree->Prop}(h:∀k t ks xs,(∀x,x∈xs->Q x)->Q (.node k t ks xs))(x:Tree):Q x :=
  Tree.rec (motive_1:=Q) (motive_2:=λxs=>∀x,x∈xs->Q x) (λk t ks xs ih=>h k t ks xs ih) Pa
    (λy ys h1 h2=>by
      intro z hz;rcases oQ.1 hz with rfl|hz
      ·exact h1
      exact h2 z hz) x
mutual
def Gb:Tree->Nat|.node _ _ _ xs=>1+Za xs
def Za:List Tree->Nat|[]=>0|x::xs=>Gb x+Za xs
end
mutual
def Be:Tree->Nat|.node _ _ _ xs=>Fc xs+1
def Fc:List Tree->Nat|[]=>0|x::xs=>max (Be x) (Fc xs)
end
theorem Oc:∀(xs ys:List Tree),Za (xs++ys)=Za xs+Za ys
  | [],ys=>by simp[Za]
  | x::xs,ys=>by simp[Za,Oc xs ys,Nat.add_assoc]
theorem Xg:∀(xs ys:List Tree),Fc (xs++ys)=max (Fc xs) (Fc ys)
  | [],ys=>by simp[Fc]
  | x::xs,ys=>by simp only[List.cons_append,Fc,Xg xs ys];omega
theorem Y3(xs:List Tree)(j:Nat)(hj:j<xs.length):Za (xs.take (j+1))=Za (xs.take j)+Gb xs[j]:=by
  rw[iQ hj,Oc];simp[Za]
theorem W0(xs:List Tree)(j:Nat)(hj:j<xs.length):Fc (xs.take (j+1))=max (Fc (xs.take j)) (Be xs[j]):=by
  rw[iQ hj,Xg];simp[Fc]
theorem Ih:∀{xs:List Tree}{x:Tree},x∈xs->Gb x<=Za xs
  | [],_,h=>absurd h Pa
  | y :: ys, x, h => by
    rw[Za];rcases oQ.1 h with rfl|h
    ·omega
    have:=Ih h;omega
theorem Hk(x:Tree):1<=Gb x:=by cases x;rw[Gb];omega
theorem Cj:∀(xs:List Tree),xs.length<=Za xs
  | []=>by simp[Za]
  | x::xs=>by have:=Cj xs;have:=Hk x;simp only[Za,kQ];omega
theorem AF(x:Tree):Be x<=Gb x:=by
  refine Tree.ind (Q:=λx=>Be x<=Gb x) (λk t ks xs ih=>?_) x;have:Fc xs<=Za xs:=by
    induction xs with
    | nil=>simp[Fc,Za]
    | cons y ys ihy =>
      have h1:=ih y Pa;have h2:=ihy (λz hz=>ih z (by simp[hz]));simp only[Fc,Za];omega
  simp only[Be,Gb];omega
theorem F6(xs:List Tree):Fc xs<=Za xs:=by
  have:=AF (.node 0 [] [] xs);simp only[Be,Gb]at this;omega
def UC(x:Tree):Prop:=∀S w0 cs,Rep S w0 (Mb x) cs->Calls prog 95 #[.agg cs.toArray] w0 (Hd λv w'=>v=J (wr (Gb x))/\Same [] w0 w')
theorem VA(k:Int)(t:Str)(ks:List Str)(xs:List Tree)(ih:∀x,x∈xs->UC x):UC (.node k t ks xs):=by
 intro S w0 cs hR;obtain⟨A,c,B,e,rfl,-,-,-,hX⟩:=hR.tree_inv;have hXl:=hX.slice_len;refine Ga func95 O ntmps95 Ib (Kc _) ?_;have hF:=FR.start w0 [];refine Ka (Mg hF O ?_);rintro b1 w hb1 hF -;refine Da (Gd O) (Yb (Da (Gd O) (Ea (Ja (Ka (Da (Ld Md O) (Qd (Gm uQ O hF.F 0 O O) (Da (Fh jZ O) ?_))))))));refine Da (Bc O) (Ea (Cb ?_));refine Yc (λμ σ w=>∃(j:Nat),μ=xs.length-j/\(j<=xs.length)/\AllEq σ [(3,J (wr (1+Za (xs.take j)))),(7,.slice B xs.length e),(8,J ((xs.length:Nat))),(9,J ((j:Int)))]/\FR w0 [] [(b1,.cells #[J k,I t,.slice A ks.length c,.slice B xs.length e] 27)] w) _ ⟨0,O,(Nat.zero_le _),Xp,hF⟩ ?_;rintro μ σ w ⟨j,rfl,hj,hs,hF⟩;refine Cg.slots hs ?_;clear hs;intro σ;refine Ka (Da (Wo O O) (Ea (Ja ?_)));refine Tc O O (λhc0=>?_) (λhc0=>?_);refine Ta (Ha (Ja (Cb (Ka ?_))));obtain⟨ad0,cs0,hA0,hl0,hk0,hx0⟩:=hX.tree_elem (i:=j) Ca;have ho0:=hx0.one_;refine Oa (v:=.pointer (some (ad0.add (j*4)))) (Va (i:=(j:Int)) Pk O hA0 O Ca Ca) (Oa (v:=.agg (List.toArray cs0)) (Db (l:=cs0) vQ bZ O hl0 (hF.cells0 hk0)) ?_);refine Cy (l:=cs0) hF oZ (by rw[hl0];exact bZ) (by rw[hl0];rfl) (v:=.agg (List.toArray cs0)) O O (ho0) O ?_;rintro b2 w hb2 hF -;refine Ea (Ma (Da (Bc O) (Oa (v:=.agg (List.toArray cs0)) (Db (l:=cs0) vQ bZ O hl0 (hF.cellsAll 0 O)) ?_)));refine Ra hF (ih _ (eQ _) _ _ _ (hF.rep hx0)) (Sa QK O O) ?_;intro w hF;refine Oa (v:=J (wr (1+Za (xs.take (j+1))))) (Hv O O (by rw[JA,Y3 xs j Ca,Int.natCast_add,Int.add_assoc])) (Da (Gd O) (Eb (Ub (Ha (Ma (Da (Dm O O) (Da (Bc O) (Eb ?_))))))));refine Hc ⟨_,?_,j+1,O,Ca,Xp,hF.drop 1⟩;omega;refine Rc (Nc O ?_);refine Ha (Ka (Da (Bc O) (Da (Gd O) (Ea ?_))));refine Sc (v:=J (wr (1+Za (xs.take j)))) O O ?_;obtain rfl:j=xs.length:=by omega
 exact⟨by simp[Gb],hF.same⟩
theorem NL(x:Tree):UC x:=Tree.ind VA x
def Z5(x:Tree):Prop:=Gb x<=1000000000->∀S w0 cs,Rep S w0 (Mb x) cs->Calls prog 96 #[.agg cs.toArray] w0 (Hd λv w'=>v=J (Be x:Nat)/\Same [] w0 w')
theorem Z6(k:Int)(t:Str)(ks:List Str)(xs:List Tree)(ih:∀x,x∈xs->Z5 x):Z5 (.node k t ks xs):=by
 intro hsz S w0 cs hR;obtain⟨A,c,B,e,rfl,-,-,-,hX⟩:=hR.tree_inv;have hXl:=hX.slice_len;have hdl:=F6 xs;rw[Gb]at hsz;refine Ga func96 O ntmps96 Ib (Kc _) ?_;have hF:=FR.start w0 [];refine Ka (Mg hF O ?_);rintro b1 w hb1 hF -;refine Da (Gd O) (Yb (Da (Gd O) (Ea (Ja (Ka (Da (Ld Md O) (Qd (Gm uQ O hF.F 0 O O) (Da (Fh jZ O) ?_))))))));refine Da (Bc O) (Ea (Cb ?_));refine Yc (λμ σ w=>∃(j:Nat),μ=xs.length-j/\(j<=xs.length)/\AllEq σ [(3,J ((Fc (xs.take j):Nat))),(7,.slice B xs.length e),(8,J ((xs.length:Nat))),(9,J ((j:Int)))]/\FR w0 [] [(b1,.cells #[J k,I t,.slice A ks.length c,.slice B xs.length e] 27)] w) _ ⟨0,O,(Nat.zero_le _),Xp,hF⟩ ?_;rintro μ σ w ⟨j,rfl,hj,hs,hF⟩;refine Cg.slots hs ?_;clear hs;intro σ;refine Ka (Da (Wo O O) (Ea (Ja ?_)));refine Tc O O (λhc0=>?_) (λhc0=>?_);refine Ta (Ha (Ja (Cb (Ka ?_))));obtain⟨ad0,cs0,hA0,hl0,hk0,hx0⟩:=hX.tree_elem (i:=j) Ca;have ho0:=hx0.one_;refine Oa (v:=.pointer (some (ad0.add (j*4)))) (Va (i:=(j:Int)) Pk O hA0 O Ca Ca) (Oa (v:=.agg (List.toArray cs0)) (Db (l:=cs0) vQ bZ O hl0 (hF.cells0 hk0)) ?_);refine Cy (l:=cs0) hF oZ (by rw[hl0];exact bZ) (by rw[hl0];rfl) (v:=.agg (List.toArray cs0)) O O (ho0) O ?_;rintro b2 w hb2 hF -;refine Ea (Ma (Da (Bc O) (Oa (v:=.agg (List.toArray cs0)) (Db (l:=cs0) vQ bZ O hl0 (hF.cellsAll 0 O)) ?_)));refine Ra hF (ih _ (eQ _) (by have:=Ih (List.getElem_mem (l:=xs) (n:=j) Ca);omega) _ _ _ (hF.rep hx0)) (Sa OJ O O) ?_;intro w hF;refine Oa (v:=J ((Fc (xs.take (j+1)):Nat))) (by rw[<-show max ((Fc (xs.take j):Nat):Int) ((Be xs[j]:Nat):Int)=((Fc (xs.take (j+1)):Nat):Int) from by rw[W0 xs j Ca];omega];exact NO O O) ?_;refine Da (Gd O) (Eb (Ub (Ha (Ma (Da (Dm O O) (Da (Bc O) (Eb ?_)))))));refine Hc ⟨_,?_,j+1,O,Ca,Xp,hF.drop 1⟩;omega;refine Rc (Nc O ?_);refine Ha (Ka (Da (Bc O) ?_));have eT:xs.take j=xs:=List.take_of_length_le Ca
 refine Oa (v:=J ((Be (.node k t ks xs):Nat))) (Hv O O (by rw[eT,Be];exact En Ca Ca Ca)) ?_;refine Da (Gd O) (Ea ?_);refine Sc (v:=J ((Be (.node k t ks xs):Nat))) O O ?_;exact⟨O,hF.same⟩
theorem WH(x:Tree):Z5 x:=Tree.ind Z6 x
theorem Same.cell{w w':World}{a:Addr}{v:Value}(h:Same [] w w')(hc:w.cell? a=some v):w'.cell? a=some v:=((FR.start w []).ext h).cell0 hc
mutual
def Pd(q:Tree->Bool):Tree->Bool|.node k t ks xs=>q (.node k t ks xs)&&Zk q xs
def Zk(q:Tree->Bool):List Tree->Bool|[]=>true|x::xs=>Pd q x&&Zk q xs
end
theorem Mk(q:Tree->Bool):∀xs:List Tree,Zk q xs = !(xs.any λx=>!Pd q x)
  | []=>rfl
  | x::xs=>by rw[Zk,Mk q xs];simp
def EachC(w0:World)(bb:Nat)(xs:List Tree)(q:Tree->Bool):Prop:=∀x,x∈xs->∀S w cs,Same [] w0 w->Rep S w (Mb x) cs->Calls prog 97 #[.agg cs.toArray,V bb] w (Hd λv w'=>v=.bool (q x)/\Same [] w w')
theorem EachC.ext{w0 w:World}{bb:Nat}{xs:List Tree}{q:Tree->Bool}(h:EachC w0 bb xs q)(hs:Same [] w0 w):EachC w bb xs q:=λx hx S w' cs hw=>h x hx S w' cs (hs.trans hw)
theorem Yx{q:Tree->Bool}{xs:List Tree}{j:Nat}(h:j<xs.length)(hn:(xs.take j).any q=false)(hq:q xs[j]=false):(xs.take (j+1)).any q=false:=by
  rw[iQ h,List.any_append,hn];simp[hq]
def Ko(g:Nat)(q:Tree->Bool)(x:Tree):Prop:=∀S w0 cs,Rep S w0 (Mb x) cs->Tw x->Gl w0->Calls prog 66 #[.agg cs.toArray,.func (.func g) #[] #[]] w0 (Hd λv w'=>v=.bool (Pd q x)/\Same [] w0 w')
theorem Q2(xs:List Tree)(q:Tree->Bool)(bb:Nat)(B:Option Addr)(e:Nat)(S:Nat->Prop)(w0:World)(hX:Rep S w0 (.slice (Dd xs)) [.slice B xs.length e])(hq:EachC w0 bb xs q):Calls prog 121 #[.slice B xs.length e,.func (.func 97) #[] #[V bb]] w0 (Hd λv w'=>∃n:Int,v=J n/\decide (0<=n)=xs.any q/\Same [] w0 w'):=by
 have hXl:=hX.slice_len;refine Ga func121 O ntmps121 Ib (Kd _ _) ?_;have hF:=FR.start w0 [];refine Ka (Da (Gd O) (Ea (Ja (Ka (Da (Wd O) (Da (Fh jZ O) (Da (Bc O) (Ea (Cb ?_)))))))));refine Yc (λμ σ w=>∃(j:Nat),μ=xs.length-j/\(j<=xs.length)/\((xs.take j).any q=false)/\AllEq σ [(0,.slice B xs.length e),(1,.func (.func 97) #[] #[.pointer (some (⟨bb,0,none⟩))]),(7,J ((xs.length:Nat))),(8,J ((j:Int)))]/\FR w0 [] [] w) _ ⟨0,O,(Nat.zero_le _),Pa,Xp,hF⟩ ?_;rintro μ σ w ⟨j,rfl,hj,hn,hs,hF⟩;refine Cg.slots hs ?_;clear hs;intro σ;refine Ka (Da (Wo O O) (Ea (Ja ?_)));refine Tc O O (λhc0=>?_) (λhc0=>?_);refine Ta (Ha (Ja (Cb (Ka (Da (Bc O) (Da (Gd O) (Yb (Da (Lq) (Da (Wd O) ?_)))))))));refine Da (Bc O) ?_;obtain⟨ad0,cs0,hA0,hl0,hk0,hx0⟩:=hX.tree_elem (i:=j) Ca;have ho0:=hx0.one_;refine Oa (v:=.pointer (some (ad0.add (j*4)))) (Va (i:=(j:Int)) Pk O hA0 O Ca Ca) (Oa (v:=.agg (List.toArray cs0)) (Db (l:=cs0) vQ bZ O hl0 (hF.cells0 hk0)) ?_);refine Ra hF (hq _ (List.getElem_mem (l:=xs) (n:=j) Ca) _ _ _ hF.same (hF.rep hx0)) (Rg O XN O O) ?_;intro w hF;refine Ea (Me O O (λhc1=>?_) (λhc1=>?_));refine Ka (Da (Bc O) (Da (Gd O) (Ea ?_)));refine Sc (v:=J ((j:Int))) O O ?_;exact⟨_,O,by rw[List.any_eq_true.2 ⟨_,List.getElem_mem (l:=xs) (n:=j) Ca,hc1⟩];simp,hF.same⟩;refine Ta (Ub (Ha (Ma (Da (Dm O O) (Da (Bc O) (Eb ?_))))));refine Hc ⟨_,?_,j+1,O,Ca,(Yx Ca hn hc1),Xp,hF⟩;omega;refine Rc (Nc O ?_);refine Ha (Ka (Da (Gd O) (Ea ?_)));refine Sc (v:=J ((-1))) O O ?_;have eT:xs.take j=xs:=List.take_of_length_le Ca;rw[eT]at hn;exact⟨_,O,by rw[hn];decide,hF.same⟩
theorem Xm(xs:List Tree)(q:Tree->Bool)(bb:Nat)(B:Option Addr)(e:Nat)(S:Nat->Prop)(w0:World)(hX:Rep S w0 (.slice (Dd xs)) [.slice B xs.length e])(hq:EachC w0 bb xs q):Calls prog 81 #[.slice B xs.length e,.func (.func 97) #[] #[V bb]] w0 (Hd λv w'=>v=.bool (xs.any q)/\Same [] w0 w'):=by
 refine Ga func81 O ntmps81 Ib (Kd _ _) ?_;have hF:=FR.start w0 [];refine Ka (Da (Kb O) (Yb (Da (Wd O) (Da (Lq) ?_))));refine Cc (Q2 xs q bb B e S _ (hF.rep hX) (hq.ext hF.same)) (Fb ED O O O) ?_;rintro _ w ⟨n,rfl,hn,hE⟩;have hF:=hF.ext hE;refine Da (U9 O O) (Da (Kb O) (Ea ?_));refine Sc (v:=.bool _) O O ?_;exact⟨congrArg Value.bool hn,hF.same⟩
theorem Uy(g:Nat)(q:Tree->Bool)(x:Tree)(h:Ko g q x)(bb:Nat)(S:Nat->Prop)(w0:World)(cs:List Value)(hR:Rep S w0 (Mb x) cs)(hk:Tw x)(hG:Gl w0)(hb:w0.cell? ⟨bb,0,none⟩=some (.func (.func g) #[] #[])):Calls prog 97 #[.agg cs.toArray,V bb] w0 (Hd λv w'=>v=.bool (!Pd q x)/\Same [] w0 w'):=by
 have hl:cs.length=4:=hR.length.trans (Jc x);have ho:=hR.one_;refine Ga func97 O ntmps97 Ib (Kd _ _) ?_;have hF:=FR.start w0 [];refine Ka (Im (v:=.agg (List.toArray cs)) (cs:=(List.toArray cs)) hF O O ?_);rintro b1 w hb1 hF -;refine Da (Kb O) (Yb (Oa (v:=.agg (List.toArray cs)) (Db (l:=cs) vQ bZ O hl (hF.cellsAll 0 O)) (Oa (v:=.func (.func g) #[] #[]) (Xd isAgg53 O (hF.cell0 hb)) ?_)));refine Ra hF (h S _ cs (hF.rep hR) hk (hG.ext hF.same)) (Fb ME O O O) ?_;intro w hF;refine Da (Ui O) (Da (Kb O) (Ea ?_));refine Sc (v:=.bool _) O O ?_;exact⟨O,hF.same⟩
theorem Kz(q:Tree->Bool)(hp:Hy 74 q)(k:Int)(t:Str)(ks:List Str)(xs:List Tree)(ih:∀x,x∈xs->Ko 74 q x):Ko 74 q (.node k t ks xs):=by
 intro S w0 cs hR hk hG;have hk':=hk;rw[Tw]at hk';obtain⟨A,c,B,e,rfl,-,-,hK,hX⟩:=hR.tree_inv;refine Ga func66 O ntmps66 Ib (Kd _ _) ?_;have hF:=FR.start w0 [];refine Ka (Mg hF O ?_);rintro b1 w hb1 hF -;refine SD (.func (.func 74) #[] #[]) hF O ?_;rintro b2 w hb2 hF -;refine Da (Kb O) (Yb (Qd (XQ isAgg53 O hF.F 0 O O) (Qd (Hj vQ bZ O hF.F 1 O O) ?_)));refine Ra hF (hp (.node k t ks xs) S _ _ (hF.rep hR) hk (hG.ext hF.same)) (Rg O SP O O) ?_;intro w hF;refine Da (Nd O) (Uc (d:=8) O (λhg0=>?_) (λhg0=>?_));refine Da (Ld Md O) (Qd (Gm uQ O hF.F 1 O O) (Oa (v:=.func (.func 97) #[] #[V b2]) (Sl O) ?_));refine Ra hF (Xm xs (λx=>!Pd q x) b2 B e S _ (hF.rep hX) (λx hx S' w' cs' hs hr=>Uy 74 q x (ih x hx) b2 S' w' cs' hr (Qt hk'.2.2 x hx) ((hG.ext hF.same).ext hs) (hs.cell (hF.cell 0 O O)))) (Fb KE O O O) ?_;intro w hF;refine Da (Ui O) (Da (Ec O O) (Da (Kb O) (Ea ?_)));refine Sc (v:=.bool _) O O ⟨?_,hF.same⟩;rw[Pd,Mk];simp_all;refine Ia (Ia (Ia (Ia (Ia (Da (Ed O O) (Da (Kb O) (Ea ?_)))))));refine Sc (v:=.bool false) O O ⟨?_,hF.same⟩;rw[Pd,Mk];simp_all
theorem BB(q:Tree->Bool)(hp:Hy 74 q)(x:Tree):Ko 74 q x:=Tree.ind (Kz q hp) x
theorem O0(q:Tree->Bool)(hp:Hy 67 q)(k:Int)(t:Str)(ks:List Str)(xs:List Tree)(ih:∀x,x∈xs->Ko 67 q x):Ko 67 q (.node k t ks xs):=by
 intro S w0 cs hR hk hG;have hk':=hk;rw[Tw]at hk';obtain⟨A,c,B,e,rfl,-,-,hK,hX⟩:=hR.tree_inv;refine Ga func66 O ntmps66 Ib (Kd _ _) ?_;have hF:=FR.start w0 [];refine Ka (Mg hF O ?_);rintro b1 w hb1 hF -;refine SD (.func (.func 67) #[] #[]) hF O ?_;rintro b2 w hb2 hF -;refine Da (Kb O) (Yb (Qd (XQ isAgg53 O hF.F 0 O O) (Qd (Hj vQ bZ O hF.F 1 O O) ?_)));refine Ra hF (hp (.node k t ks xs) S _ _ (hF.rep hR) hk (hG.ext hF.same)) (Rg O JK O O) ?_;intro w hF;refine Da (Nd O) (Uc (d:=8) O (λhg0=>?_) (λhg0=>?_));refine Da (Ld Md O) (Qd (Gm uQ O hF.F 1 O O) (Oa (v:=.func (.func 97) #[] #[V b2]) (Sl O) ?_));refine Ra hF (Xm xs (λx=>!Pd q x) b2 B e S _ (hF.rep hX) (λx hx S' w' cs' hs hr=>Uy 67 q x (ih x hx) b2 S' w' cs' hr (Qt hk'.2.2 x hx) ((hG.ext hF.same).ext hs) (hs.cell (hF.cell 0 O O)))) (Fb KE O O O) ?_;intro w hF;refine Da (Ui O) (Da (Ec O O) (Da (Kb O) (Ea ?_)));refine Sc (v:=.bool _) O O ⟨?_,hF.same⟩;rw[Pd,Mk];simp_all;refine Ia (Ia (Ia (Ia (Ia (Da (Ed O O) (Da (Kb O) (Ea ?_)))))));refine Sc (v:=.bool false) O O ⟨?_,hF.same⟩;rw[Pd,Mk];simp_all
theorem Y_(q:Tree->Bool)(hp:Hy 67 q)(x:Tree):Ko 67 q x:=Tree.ind (O0 q hp) x
def rnodeB(x:Tree):Bool:=decide (x.kind≠7)&&nodeB x
def Il(x:Tree):Bool:=decide (Gb x<=4096)&&decide (Be x<=32)
def Wh(x:Tree):Bool:=Il x&&Pd nodeB x
def Zb(x:Tree):Bool:=Il x&&Pd rnodeB x
theorem CF{n:Nat}(h:n<=1000000000):wr (n:Int)=(n:Int):=Nl Ca Ca
theorem VI  : Hy 74 rnodeB:=by
 rintro⟨k,t,ks,xs⟩ S w0 cs hR hk hG;obtain⟨A,c,B,e,rfl,-,-,hK,hX⟩:=hR.tree_inv;refine Ga func74 O ntmps74 Ib (Kc _) ?_;have hF:=FR.start w0 [];refine Ka (Mg hF O ?_);rintro b1 w hb1 hF -;refine Da (Kb O) (Yb (Da (Ld Ll O) (Qd (F5 wQ O hF.F 0 O O) (Da (Zz O O) (Da (Nd O) ?_)))));refine Xc (d:=6) O (λhg0=>?_) (λhg0=>?_);refine Qd (Hj vQ bZ O hF.F 0 O O) (Ra hF (SF (.node k t ks xs) S _ _ (hF.rep hR) hk (hG.ext hF.same)) (Sa JK O O) ?_);intro w hF;refine Da (Ec O O) (Da (Kb O) (Ea ?_));refine Sc (v:=.bool _) O O ⟨?_,hF.same⟩;simp_all[rnodeB,Tree.kind];refine Ia (Ia (Da (Ed O O) (Da (Kb O) (Ea ?_))));refine Sc (v:=.bool false) O O ⟨?_,hF.same⟩;simp_all[rnodeB,Tree.kind]
theorem CM(x:Tree)(hsz:Gb x<=1000000000)(S:Nat->Prop)(w0:World)(cs:List Value)(hR:Rep S w0 (Mb x) cs):Calls prog 95 #[.agg cs.toArray] w0 (Hd λv w'=>v=J (Gb x:Nat)/\Same [] w0 w'):=by
  have h:=NL x S w0 cs hR
  rwa [CF hsz]at h
theorem Z9(x:Tree)(hsz:Gb x<=1000000000)(S:Nat->Prop)(w0:World)(cs:List Value)(hR:Rep S w0 (Mb x) cs):Calls prog 65 #[.agg cs.toArray] w0 (Hd λv w'=>v=.bool (Il x)/\Same [] w0 w'):=by
 have hl:cs.length=4:=hR.length.trans (Jc x);have ho:=hR.one_;refine Ga func65 O ntmps65 Ib (Kc _) ?_;have hF:=FR.start w0 [];refine Ka (Im (v:=.agg (List.toArray cs)) (cs:=(List.toArray cs)) hF O O ?_);rintro b1 w hb1 hF -;refine Da (Kb O) (Yb (Oa (v:=.agg (List.toArray cs)) (Db (l:=cs) vQ bZ O hl (hF.cellsAll 0 O)) ?_));refine Ra hF (CM x hsz S _ cs (hF.rep hR)) (Sa QK O O) ?_;intro w hF;refine Da (CJ O O) (Da (Nd O) ?_);refine Xc (d:=6) O (λhg0=>?_) (λhg0=>?_);refine Oa (v:=.agg (List.toArray cs)) (Db (l:=cs) vQ bZ O hl (hF.cellsAll 0 O)) (Ra hF (WH x hsz S _ cs (hF.rep hR)) (Sa OJ O O) ?_);intro w hF;refine Da (CJ O O) (Da (Ec O O) (Da (Kb O) (Ea ?_)));refine Sc (v:=.bool _) O O ⟨congrArg Value.bool ?_,hF.same⟩;unfold Il
 first|(rw[decide_eq_true (by omega:Gb x<=4096)];exact decide_eq_decide.2 Ca)|(rw[decide_eq_false (by omega:¬Gb x<=4096)];rfl)
 refine Ia (Ia (Ia (Da (Ed O O) (Da (Kb O) (Ea ?_)))));refine Sc (v:=.bool false) O O ⟨congrArg Value.bool ?_,hF.same⟩;unfold Il
 first|(rw[decide_eq_true (by omega:Gb x<=4096)];exact decide_eq_decide.2 Ca)|(rw[decide_eq_false (by omega:¬Gb x<=4096)];rfl)
theorem A_(x:Tree)(hsz:Gb x<=1000000000)(S:Nat->Prop)(w0:World)(cs:List Value)(hR:Rep S w0 (Mb x) cs)(hk:Tw x)(hG:Gl w0):Calls prog 49 #[.agg cs.toArray] w0 (Hd λv w'=>v=.bool (Zb x)/\Same [] w0 w'):=by
 have hl:cs.length=4:=hR.length.trans (Jc x);have ho:=hR.one_;refine Ga func49 O ntmps49 Ib (Kc _) ?_;have hF:=FR.start w0 [];refine Ka (Im (v:=.agg (List.toArray cs)) (cs:=(List.toArray cs)) hF O O ?_);rintro b1 w hb1 hF -;refine Da (Kb O) (Yb (Oa (v:=.agg (List.toArray cs)) (Db (l:=cs) vQ bZ O hl (hF.cellsAll 0 O)) ?_));refine Ra hF (Z9 x hsz S _ cs (hF.rep hR)) (Sa SK O O) ?_;intro w hF;refine Da (Nd O) (Uc (d:=5) O (λhg0=>?_) (λhg0=>?_));refine Oa (v:=.agg (List.toArray cs)) (Db (l:=cs) vQ bZ O hl (hF.cellsAll 0 O)) (Ra hF (BB rnodeB VI x S _ cs (hF.rep hR) hk (hG.ext hF.same)) (Fb ME O O O) ?_);intro w hF;refine Da (Ec O O) (Da (Kb O) (Ea ?_));refine Sc (v:=.bool _) O O ?_;exact⟨congrArg Value.bool (by unfold Zb;simp_all),hF.same⟩;refine Ia (Ia (Da (Ed O O) (Da (Kb O) (Ea ?_))));refine Sc (v:=.bool false) O O ?_;exact⟨congrArg Value.bool (by unfold Zb;simp_all),hF.same⟩
theorem E0(x:Tree)(hsz:Gb x<=1000000000)(S:Nat->Prop)(w0:World)(cs:List Value)(hR:Rep S w0 (Mb x) cs)(hk:Tw x)(hG:Gl w0):Calls prog 45 #[.agg cs.toArray] w0 (Hd λv w'=>v=.bool (Wh x)/\Same [] w0 w'):=by
 have hl:cs.length=4:=hR.length.trans (Jc x);have ho:=hR.one_;refine Ga func45 O ntmps45 Ib (Kc _) ?_;have hF:=FR.start w0 [];refine Ka (Im (v:=.agg (List.toArray cs)) (cs:=(List.toArray cs)) hF O O ?_);rintro b1 w hb1 hF -;refine Da (Kb O) (Yb (Oa (v:=.agg (List.toArray cs)) (Db (l:=cs) vQ bZ O hl (hF.cellsAll 0 O)) ?_));refine Ra hF (Z9 x hsz S _ cs (hF.rep hR)) (Sa SK O O) ?_;intro w hF;refine Da (Nd O) (Uc (d:=5) O (λhg0=>?_) (λhg0=>?_));refine Oa (v:=.agg (List.toArray cs)) (Db (l:=cs) vQ bZ O hl (hF.cellsAll 0 O)) (Ra hF (Y_ nodeB SF x S _ cs (hF.rep hR) hk (hG.ext hF.same)) (Fb ME O O O) ?_);intro w hF;refine Da (Ec O O) (Da (Kb O) (Ea ?_));refine Sc (v:=.bool _) O O ?_;exact⟨congrArg Value.bool (by unfold Wh;simp_all),hF.same⟩;refine Ia (Ia (Da (Ed O O) (Da (Kb O) (Ea ?_))));refine Sc (v:=.bool false) O O ?_;exact⟨congrArg Value.bool (by unfold Wh;simp_all),hF.same⟩
end Go.Scarf
