/- A part of the proof. -/
import Derived.Test.YtbhneplafiapdaaGreatDoorW2
import Derived.Test.YtbhneplafiapdaaGreatDoorShelf2
import Derived.Lib.ValidLaws
import Derived.Lib.TrimUEq
import Derived.Lib.MapLaws
set_option linter.all false
set_option maxHeartbeats 8000000
set_option maxRecDepth 10000
namespace Go.Scarf
open Go.RowKit Go.Proofs Go.Proofs.Tryz
def Im(s:Str):Bool:=decide ((Md s).2=0)&&decide (Jk (Md s).1=s)
def U3(s:Str):Bool:=Im s&&(E3 (Md s).1).2&&decide (0<=(E3 (Md s).1).1)
theorem Uz(s:Str):Ae (Md s).1=true:=by
  rw[Jh]
  repeat' split
  all_goals first|rfl|simp_all
theorem Po(s:Str):(Md s).1.digits.length<=1000:=(Vc (Uz s)).1
theorem Fj(s:Str)(q:Nat):Lib.decodeL (s.drop q)=Utf8.decode (bs s) q:=Lib.decodeL_drop (bs s) q
theorem Ev(s:Str)(q:Nat):1<=(Utf8.decode (bs s) q).2:=by rw[<-Fj];exact Lib.decodeL_width _
theorem Eu(s:Str)(q:Nat)(h:q<s.length):q+(Utf8.decode (bs s) q).2<=s.length:=by
  have:=Lib.decodeL_le (s.drop q) (by rw[ne_eq,List.drop_eq_nil_iff];omega);rw[Fj,List.length_drop]at this;omega
theorem Cw(s:Str)(q:Nat)(h:q<s.length)(hv:Lib.validD (s.drop q)=false)(hn:¬((Utf8.decode (bs s) q).1=65533/\(Utf8.decode (bs s) q).2=1)):Lib.validD (s.drop (q+(Utf8.decode (bs s) q).2))=false:=by
  rw[Lib.validD_step _ (by rw[ne_eq,List.drop_eq_nil_iff];omega),Fj,if_neg hn,List.drop_drop]at hv;exact hv
theorem Vn(s:Str)(q:Nat)(h:q<s.length):Lib.decodeGo (bs (s.drop q))=Utf8.decode (bs s) q:=by
  have h1:(bs (s.drop q)).size≠0:=by rw[Bn,List.length_drop];omega
  rw[Lib.decodeGo,if_neg h1];exact Fj s q
theorem Dx(s:Str)(hl:s.length<=140737488355328){w:World}(hG:Gl w):Calls prog 132 #[I s] w (Pd λv w'=>v=.bool (Lib.validD s)/\Same [] w w') :=
  Tq (utf8_ValidString (bs s) w (by rw[Bn];omega) hG.tabs)
theorem Xz(s:Str){w:World}(hG:Gl w):Calls prog 133 #[I s] w (Pd λv w'=>v=.tuple #[.int .i32 (Lib.decodeGo (bs s)).1,J (Lib.decodeGo (bs s)).2]/\Same [] w w') :=
  Tq (utf8_DecodeRuneInString (bs s) w hG.tabs)
theorem Lz(s:Str)(hl:s.length<=140737488355328)(w0:World)(hG:Gl w0):Calls prog 91 #[I s] w0 (Pd λv w'=>∃n,v=.tuple #[J n,.bool (Lib.validD s)]/\Same [] w0 w'):=by
  refine Ia func91 O ntmps91 Kb (Pc _) ?_;have hF:=FR.start w0 [];refine Ha (Ja ?_);refine Da (Gd O) (Da (Ob O) ?_);refine Db (Fa ?_);refine Ha (Ha ?_);refine Ja (Da (Ue O) ?_);refine Ra hF (Dx s hl (hG.ext hF.same)) (Ua PM O O) ?_;intro w hF;refine Db (Fa ?_);refine Ke O O (λhc0=>?_) (λhc0=>?_)
  ·
   refine Ha (Ja ?_);refine Da (Ue O) (Da (D_ mZ O) ?_);refine Da (Gd O) (Da (Ob O) ?_);refine Db (Fa ?_);refine Yb (Xb (Va (Tk (v:=J ((((s):Str).length:Int))) (x:=.bool true) O O O) ?_));exact⟨_,by rw[hc0],hF.same⟩
  refine Sa (Fa ?_);refine Ha (Ha ?_);refine Ja (Da (Ue O) ?_);refine Wv (str:=s) hF mZ O ?_;intro b1 w hb1 hF hE;refine Db (Fa ?_);refine Wa (Xc (λμ σ w=>∃(q:Nat),μ=s.length-q/\(q<=s.length)/\(Lib.validD (s.drop q)=false)/\AllEq σ [(0,I s),(13,V b1)]/\FR w0 [] [(b1,.stringIter (bs s) (q))] w) _ ⟨0,O,(Nat.zero_le _),(by simpa using hc0),N9,hF⟩ ?_);rintro μ σ w ⟨q,rfl,hq,hv,hs,hF⟩;refine Cg.slots hs ?_;clear hs;intro σ;refine Ha (Ja ?_);by_cases hn0:(q)<(s:Str).length
  ·
   refine Nz 0 (p:=q) (str:=s) hF O O hn0 ?_;intro w hF hE;refine Da (Jp O O) (Db ?_);refine Fa (Ha ?_);refine Le O (Sa ?_);refine Fa (Wa ?_);refine Ha (Ja ?_);refine Da (Hw O O) (Da (Hw O O) ?_);refine Da (Gd O) (Da (Gd O) ?_);refine Db (Fa ?_);refine Ha (Ha ?_);refine Ja (Da (Bc O) ?_);refine Da (Ey O O) (Db ?_);refine Fa (Uc O O (λhc2=>?_) (λhc2=>?_))
   ·
    refine Nc (Fc O ?_);have h1:=Ev s q;have hw:¬((Utf8.decode (bs s) q).1=65533/\(Utf8.decode (bs s) q).2=1):=by
      first
      | (intro hh;omega)
      | (rw[Vn s q Ca]at hc3;intro hh;omega)
    refine Dc ⟨_,?_,q+(Utf8.decode (bs s) q).2,O,(Eu s q Ca),(Cw s q Ca hv hw),N9,hF⟩;omega
   refine Sa (Fa ?_);refine Ha (Ja ?_);refine Da (Ue O) (Da (Bc O) ?_);refine Oa (v:=I ((s:Str).drop (q))) (T4 (q) mZ O O Ca) (Ra hF (Xz (s.drop q) (hG.ext hF.same)) (Ua ZK O O) ?_);intro w hF;refine Da (Ct O) (Da (Hw O O) ?_);refine Da (Hw O O) (Da (Gd O) ?_);refine Da (Gd O) (Db ?_);refine Fa (Ha ?_);refine Ja (Da (Bc O) ?_);refine Da (Z4 O O) (Db ?_);refine Fa (Uc O O (λhc3=>?_) (λhc3=>?_))
   ·
    refine Ha (Ja ?_);refine Da (Bc O) (Da (Gd O) ?_);refine Da (Ob O) (Db ?_);refine Fa (Yb (Xb (Va (Tk (v:=J (((q:Nat):Int))) (x:=.bool false) O O O) ?_)));exact⟨_,by rw[hc0],hF.same⟩
   refine Sa (Qb ?_);have h1:=Ev s q;have hw:¬((Utf8.decode (bs s) q).1=65533/\(Utf8.decode (bs s) q).2=1):=by
     first
     | (intro hh;omega)
     | (rw[Vn s q Ca]at hc3;intro hh;omega)
   refine Dc ⟨_,?_,q+(Utf8.decode (bs s) q).2,O,(Eu s q Ca),(Cw s q Ca hv hw),N9,hF⟩;omega
  refine Vo 0 (p:=q) (str:=s) hF O O hn0 (Da (Jp O O) ?_);refine Db (Fa ?_);refine Ha (Kj O ?_);refine Nc (Fc O ?_);refine Fa (Ha ?_);refine Ja (Da (Ue O) ?_);refine Da (D_ mZ O) (Da (Gd O) ?_);refine Da (Ob O) (Db ?_);refine Fa (Yb (Xb (Va (Tk (v:=J ((((s):Str).length:Int))) (x:=.bool true) O O O) ?_)));have e:s.drop q=[]:=List.drop_eq_nil_of_le Ca;rw[e]at hv;cases hv
theorem A8(s:Str)(hl:s.length<=140737488355328)(w0:World)(hG:Gl w0):Calls prog 100 #[I s] w0 (Pd λv w'=>v=.bool (Lib.validD s)/\Same [] w0 w'):=by
 refine Ia func100 O ntmps100 Kb (Pc _) ?_;have hF:=FR.start w0 [];refine Ka (Da (Ob O) (Ec (Da (Ue O) ?_)));refine Zb (Lz s hl _ (hG.ext hF.same)) (Ua KC O O) ?_;rintro _ w ⟨n,rfl,hE⟩;have hF:=hF.ext hE;refine Da (Ct O) (Da (Hw O O) (Da (Jp O O) (Da (Gd O) (Da (Ob O) (Ec (Da (Yd O) (Da (Ob O) (Ea ?_))))))));refine Yc (v:=.bool _) O O ?_;exact⟨O,hF.same⟩
theorem Rx(s:Str)(hl:s.length<=140737488355328)(w0:World)(hG:Gl w0):Calls prog 99 #[I s] w0 (Pd λv w'=>v=.tuple #[Il (Md s).1,.bool (Im s)]/\Same [] w0 w'):=by
 refine Ia func99 O ntmps99 Kb (Pc _) ?_;have hF:=FR.start w0 [];refine Ka (De (cs:=#[.bool false,I [],J 0]) hF qZ O ?_);rintro b1 w hb1 hF -;refine Da (Ob O) (Ec (Da (Ue O) ?_));refine Ra hF (O8 s hl _) (Ua AK O O) ?_;intro w hF;refine Da (Ct O) (Da (GA O O) (Da (Hw O O) ?_));refine Wl hF qZ dZ O ?_;rintro b2 w hb2 hF -;refine Da (Gd O) (Ea (Ha ?_));refine Oh (.of []) (bQ [0,1,2,3,4,6] (.act 5 (.free 7 (.free 8 (.act 9 (.free 10 .nil)))))) hF ?_;rintro w hF -;refine⟨λwq=>FR w0 [] [(b2,.cells #[.bool ((Md s).1.neg),I ((Md s).1.digits),J ((Md s).1.exp)] 73)] wq,hF.sub (.cons_cons _ (.cons _ .slnil)),?_⟩;refine Js O (Lj xQ dZ O C0 0 O O) (Hc O (Bc O) (Hc O (Z4 O O) (Hc O (Yd O) ?_)));refine Jg (d:=14) O (λhg0=>?_) (λhg0=>?_);refine Js O (Lj xQ dZ O C0 0 O O) (Hc O (Ue O) ?_);refine Tf hF (FC (Md s).1 (by have:=Po s;omega) _ (hG.ext hF.same)) O (Ua WJ O O) ?_;intro w hF;refine⟨hF.sub (.cons_cons _ (.cons _ .slnil)),?_⟩;refine Hc O (G5 O O) (Hc O (Sc O O) ?_);refine Yo O hF dZ O O W0 ?_;rintro w hF -;refine⟨hF.sub (.cons_cons _ (.cons _ .slnil)),?_⟩;refine Hc O (Ob O) (Qd (Fa ?_));refine Yb (Xb (Va (Kd O (l:=[.bool ((Md s).1.neg),I ((Md s).1.digits),J ((Md s).1.exp)]) O xQ dZ O (hF.cellsAll 1 O) (v:=.bool (decide ((Jk (Md s).1:Str)=s))) O) ?_));exact⟨by simp_all[Im,Il],hF.same⟩;refine Wc O (Wc O ?_);refine Ou O ?_ (hF.sub (.cons_cons _ (.cons _ .slnil)));refine Wc O (Hc O (Ed O O) ?_);refine Yo O hF dZ O O W0 ?_;rintro w hF -;refine⟨hF.sub (.cons_cons _ (.cons _ .slnil)),?_⟩;refine Hc O (Ob O) (Qd (Fa ?_));refine Yb (Xb (Va (Kd O (l:=[.bool ((Md s).1.neg),I ((Md s).1.digits),J ((Md s).1.exp)]) O xQ dZ O (hF.cellsAll 1 O) (v:=.bool false) O) ?_));exact⟨by simp_all[Im,Il],hF.same⟩
theorem SM(s:Str)(hl:s.length<=140737488355328)(w0:World)(hG:Gl w0):Calls prog 101 #[I s] w0 (Pd λv w'=>v=.bool (U3 s)/\Same [] w0 w'):=by
 refine Ia func101 O ntmps101 Kb (Pc _) ?_;have hF:=FR.start w0 [];refine Ka (Da (Ob O) (Ec (Da (Ue O) ?_)));refine Ra hF (Rx s hl _ (hG.ext hF.same)) (Ua SJ O O) ?_;intro w hF;refine Da (Ct O) (Da (GA O O) (Da (Jp O O) ?_));refine Wl hF qZ dZ O ?_;rintro b1 w hb1 hF -;refine Da (Ob O) (Ec (Xd (Lj xQ dZ O hF.F 0 O O) ?_));refine Ra hF (CD (Md s).1 (by have:=Po s;omega) _ (hG.ext hF.same)) (Ua DL O O) ?_;intro w hF;refine Da (Ct O) (Da (Hw O O) (Da (Jp O O) (Da (Gd O) (Da (Ob O) (Ec (Da (Yd O) (Da (Yd O) ?_)))))));refine Cd (d:=18) O (λhg0=>?_) (λhg0=>?_);refine Da (Yd O) (Da (Sc O O) (Da (Yd O) ?_));refine Cd (d:=21) O (λhg1=>?_) (λhg1=>?_);refine Da (Bc O) (Da (L9 O O) (Da (Sc O O) (Da (Ob O) (Ea ?_))));refine Yc (v:=.bool _) O O ?_;exact⟨by simp_all[U3],hF.same⟩;refine Ma (Ma (Da (Ed O O) (Da (Ob O) (Ea ?_))));refine Yc (v:=.bool false) O O ?_;exact⟨by simp_all[U3],hF.same⟩;refine Ma (Da (Ed O O) (Da (Yd O) (Ma (Ma (Da (Ed O O) (Da (Ob O) (Ea ?_)))))));refine Yc (v:=.bool false) O O ?_;exact⟨by simp_all[U3],hF.same⟩
def Oq(ks:List Str)(n:Int):Bool:=decide ks.Nodup&&ks.all Lib.validD&&decide ((ks.length:Int)=n)
def Ip(ks:List Str):MapL:=ks.map λk=>(k,.bool true)
theorem St(ks:List Str)(k:Str):Af (Ip ks) k=if k∈ks then some (.bool true) else none:=by
  induction ks with
  | nil=>rfl
  | cons a r ih =>
    have e:Ip (a::r)=[(a,.bool true)]++Ip r:=rfl;rw[e,V0,ih];by_cases h:a=k
    ·subst h;simp[Af]
    have h' : ¬ k = a := λe => h e.symm;simp[Af,h,h']
theorem J7(ks:List Str)(j:Nat)(h:j<ks.length):Ip (ks.take j)++[(ks[j],.bool true)]=Ip (ks.take (j+1)):=by
  unfold Ip;rw[iQ h,jQ];rfl
theorem Qs{ks:List Str}{j:Nat}(h:j<ks.length)(hn:(ks.take j).Nodup)(hi:¬ks[j]∈ks.take j):(ks.take (j+1)).Nodup:=by
  rw[iQ h,List.nodup_append];refine⟨hn,by simp,?_⟩;intro a ha b hb e;simp only[pQ]at hb;subst e;subst hb;exact hi ha
theorem Cq{ks:List Str}{j:Nat}(h:j<ks.length)(hi:ks[j]∈ks.take j):¬ks.Nodup:=by
  intro hn;obtain⟨i,hi',he⟩:=List.getElem_of_mem hi;rw[List.getElem_take]at he;have hi2:i<j:=by rw[List.length_take]at hi';omega
  have:=(List.pairwise_iff_getElem.1 hn) i j Ca h hi2;exact this he
theorem Zw{f:Str->Bool}{ks:List Str}{j:Nat}(h:j<ks.length)(ha:(ks.take j).all f=true)(hv:f ks[j]=true):(ks.take (j+1)).all f=true:=by
  rw[iQ h,List.all_append,ha];simp[hv]
theorem KH{f:Str->Bool}{ks:List Str}{j:Nat}(h:j<ks.length)(hv:f ks[j]=false):ks.all f=false:=by
  rw[Bool.eq_false_iff];intro ha;have:=List.all_eq_true.1 ha ks[j] (eQ h);rw[hv]at this;cases this
theorem AH(ks:List Str)(n:Int)(S:Nat->Prop)(A:Option Addr)(c:Nat)(hl:∀k∈ks,k.length<=140737488355328)(w0:World)(hG:Gl w0)(hX:Rep S w0 (Xe ks) [.slice A ks.length c]):Calls prog 98 #[.slice A ks.length c,J n] w0 (Pd λv w'=>v=.bool (Oq ks n)/\Same [] w0 w'):=by
 have hXl:=hX.slice_len;refine Ia func98 O ntmps98 Kb (Rd _ _) ?_;have hF:=FR.start w0 [];refine Ka (Da (Ob O) (Ec (Da (Od O) (Da (Bh iZ O) ?_))));refine Iq (v:=λb=>.map (some b)) hF (Dy underlying167 O) ?_;rintro b1 w hb1 hF -;refine Da (GG) (Ea (Ha (Ka (Da (Od O) (Da (Bh iZ O) (Da (Bc O) (Ea (Wa ?_))))))));have hF:FR w0 [] [(b1,Rf (Ip (ks.take 0)))] w:=hF;refine Xc (λμ σ w=>∃(j:Nat),μ=ks.length-j/\(j<=ks.length)/\((ks.take j).Nodup)/\((ks.take j).all Lib.validD=true)/\AllEq σ [(0,.slice A ks.length c),(1,J n),(5,.map (some b1)),(11,.slice A ks.length c),(12,J ((ks.length:Nat))),(13,J ((j:Int)))]/\FR w0 [] [(b1,Rf (Ip (ks.take j)))] w) _ ⟨0,O,(Nat.zero_le _),Pa,Pa,WQ,hF⟩ ?_;rintro μ σ w ⟨j,rfl,hj,hd,hv,hs,hF⟩;refine Cg.slots hs ?_;clear hs;intro σ;refine Ka (Da (Um O O) (Ea (Ha ?_)));refine Uc O O (λhc0=>?_) (λhc0=>?_);refine Sa (Fa (Ha (Wa (Ka ?_))));obtain⟨ad0,hA0,hk0,hx0⟩:=hX.str_elem (i:=j) Ca;refine Oa (v:=.pointer (some (ad0.add (j*1)))) (Ta (i:=(j:Int)) P9 O hA0 O Ca Ca) (Oa (v:=I (ks[j])) (Zc zQ O (hF.cell0 hk0)) (Da (Am O) (Ea (Ha (Ka (Da (Jq) (Da (Ue O) ?_)))))));refine Oa (v:=.bool (decide (ks[j]∈ks.take j))) (NA underlying167 mZ zeroValue4 O O (hF.heap (i:=0) O) (by rw[St];split <;> rename_i hh <;> simp only[hh,decide_true,decide_false] <;> rfl)) ?_;refine Da (Yd O) (Id (d:=20) O (λhg1=>?_) (λhg1=>?_));refine Ma (Ma (Ma (Da (Sc O O) (Ea (Le O (Ka (Da (Ob O) (Ea ?_))))))));refine Yc (v:=.bool false) O O ?_;have:=Cq (ks:=ks) (j:=j) Ca (by assumption);exact⟨congrArg Value.bool (by unfold Oq;rw[decide_eq_false this];rfl),hF.same⟩;refine Da (Ue O) (Ra hF (A8 ks[j] (hl _ (eQ _)) _ (hG.ext hF.same)) (Ua YF O O) ?_);intro w hF;refine Da (Bi O) (Da (Ed O O) (Ea ?_));refine Ke O O (λhc1=>?_) (λhc1=>?_);refine Ka (Da (Ob O) (Ea ?_));refine Yc (v:=.bool false) O O ?_
 have:=KH (f:=Lib.validD) (ks:=ks) (j:=j) Ca (by simpa using hc1);exact⟨congrArg Value.bool (by unfold Oq;rw[this,Bool.and_false];rfl),hF.same⟩;refine Sa (Fa (Ja (Da (Jq) (Da (Ue O) ?_))));refine Lr 0 (v:=.bool true) hF underlying167 mZ O O O O (by rw[St,if_neg (by assumption)]) ?_;rintro w hF -;rw[J7 ks j Ca]at hF;have hF:FR w0 [] [(b1,Rf (Ip (ks.take (j+1))))] w:=hF;refine Db (Qb (Fa (Ja (Da (Zl O O) (Da (Bc O) (Db ?_))))));refine Dc ⟨_,?_,j+1,O,Ca,(Qs Ca hd (by assumption)),(Zw Ca hv (by simpa using hc1)),WQ,hF⟩;omega;refine Nc (Fc O ?_);refine Fa (Ka (Da (Od O) (Da (Bh iZ O) (Da (Bc O) (Da (Z4 O O) (Da (Ob O) (Ea ?_)))))));refine Yc (v:=.bool _) O O ?_;obtain rfl:j=ks.length:=by omega
 rw[List.take_length]at hd hv;exact⟨congrArg Value.bool (by unfold Oq;rw[hv,decide_eq_true hd];rfl),hF.same⟩
mutual
def Nw:Tree->Prop|.node _ t ks xs=>t.length<=140737488355328/\(∀k∈ks,k.length<=140737488355328)/\E2 xs
def E2:List Tree->Prop|[]=>True|x::xs=>Nw x/\E2 xs
end
theorem Xv:∀{xs:List Tree},E2 xs->∀x∈xs,Nw x
  | [],_,_,h=>absurd h Pa
  | y :: ys, h, x, hx => by
    rw[E2]at h;rcases oQ.1 hx with rfl|hx
    ·exact h.1
    exact Xv h.2 x hx
def nodeB:Tree->Bool
  | .node k t ks xs =>
    if k=5 then decide (ks=[])&&decide (t=[]) else
    if k=6 then Oq ks xs.length&&decide (t=[]) else
    if ks≠[]\/xs≠[] then false else
    if k=1 then decide (t=[]) else
    if k=2 then decide (t=[116,114,117,101]) || decide (t=[102,97,108,115,101]) else
    if k=3 then Im t else if k=4 then Lib.validD t else if k=7 then U3 t else false
def Xy(g:Nat)(q:Tree->Bool):Prop:=∀(x:Tree)(S:Nat->Prop)(w0:World)(cs:List Value),Rep S w0 (Pb x) cs->Nw x->Gl w0->Calls prog g #[.agg cs.toArray] w0 (Pd λv w'=>v=.bool (q x)/\Same [] w0 w')
theorem QF  : Xy 67 nodeB:=by
 rintro⟨k,t,ks,xs⟩ S w0 cs hR hk hG;obtain⟨A,c,B,e,rfl,-,-,hK,hX⟩:=hR.tree_inv;rw[Nw]at hk;refine Ia func67 O ntmps67 Kb (Pc _) ?_;have hF:=FR.start w0 [];refine Ka (Bg hF O ?_);rintro b1 w hb1 hF -;refine Da (Ob O) (Ea (Ha ?_));refine Nf (zs:=.of []) (bQ [0,1,2,3,4,5,6,7,8,9] .nil) hF ?_;intro w hF;refine Hc O (Ud Ki O) (Js O (Bm isAgg24 O C0 0 O O) (Hc O (Bh iZ O) (Hc O (WA O O) (Hc O (Ud Td O) (Js O (Bm uQ O C0 0 O O) (Hc O (Bh jZ O) (Hc O (WA O O) (Hc O (Ob O) (Hc O (Ob O) (Qd (Fa (Ha (Ha ?_)))))))))))));refine Ja (Da (Ud Vl O) (Xd (B5 wQ O hF.F 0 O O) (Ea (Wa (Ka (Da (Z4 O O) (Da (Ob O) (Ea ?_))))))));refine Uc O O (λhc0=>?_) (λhc0=>?_);refine Ka (Da (Yd O) (Da (GS O) (Da (Yd O) ?_)));refine Id (d:=21) O (λhg0=>?_) (λhg0=>?_);refine Da (Ud Lf O) (Xd (Is zQ O hF.F 0 O O) (Da (G5 O O) (Da (Sc O O) (Da (Ob O) (Ea ?_)))));refine Yc (v:=.bool _) O O ⟨?_,hF.same⟩;clear hF hR hK hX hb1;simp_all[nodeB,List.length_pos_iff];refine Ma (Ma (Ma (Da (Ed O O) (Da (Ob O) (Ea ?_)))));refine Yc (v:=.bool false) O O ⟨?_,hF.same⟩;clear hF hR hK hX hb1;simp_all[nodeB,List.length_pos_iff];refine Ka (Da (Z4 O O) (Da (Ob O) (Ea ?_)));refine Uc O O (λhc1=>?_) (λhc1=>?_);refine Ka (Da (Ud Ki O) (Xd (Bm isAgg24 O hF.F 0 O O) (Da (Ud Td O) (Xd (Bm uQ O hF.F 0 O O) (Da (Bh jZ O) ?_)))));refine Ra hF (AH ks (xs.length:Nat) S A c (by simpa using hk.2.1) _ (hG.ext hF.same) (hF.rep hK)) (Gb OP O O O) ?_;intro w hF;refine Da (Yd O) (Cd (d:=34) O (λhg1=>?_) (λhg1=>?_));refine Da (Ud Lf O) (Xd (Is zQ O hF.F 0 O O) (Da (G5 O O) (Da (Sc O O) (Da (Ob O) (Ea ?_)))));refine Yc (v:=.bool _) O O ⟨?_,hF.same⟩;clear hF hR hK hX hb1;simp_all[nodeB,List.length_pos_iff];refine Ma (Ma (Ma (Da (Ed O O) (Da (Ob O) (Ea ?_)))));refine Yc (v:=.bool false) O O ⟨?_,hF.same⟩;clear hF hR hK hX hb1
 simp_all[nodeB,List.length_pos_iff];refine Sa (Qb (Fa (Ha (Ka (Da (Yd O) (Da (Yd O) ?_))))));refine Id (d:=40) O (λhg2=>?_) (λhg2=>?_);refine Ma (Da (Sc O O) (Ea (Le O (Ka (Da (Ob O) (Ea ?_))))));refine Yc (v:=.bool false) O O ⟨?_,hF.same⟩;clear hF hR hK hX hb1;simp_all[nodeB,List.length_pos_iff];refine Da (Yd O) (Da (Ed O O) (Ea ?_));refine Uc O O (λhc2=>?_) (λhc2=>?_);refine Ka (Da (Ob O) (Ea ?_));refine Yc (v:=.bool false) O O ⟨?_,hF.same⟩;clear hF hR hK hX hb1;simp_all[nodeB,List.length_pos_iff];refine Sa (Fa (Ha (Ka (Da (Ud Vl O) (Xd (B5 wQ O hF.F 0 O O) (Ea (Wa (Ka (Da (Z4 O O) (Da (Ob O) ?_))))))))));refine Ea (Uc O O (λhc3=>?_) (λhc3=>?_));refine Ka (Da (Ud Lf O) (Xd (Is zQ O hF.F 0 O O) (Da (G5 O O) (Da (Ob O) (Ea ?_)))));refine Yc (v:=.bool _) O O ⟨?_,hF.same⟩;clear hF hR hK hX hb1;simp_all[nodeB,List.length_pos_iff];refine Ka (Da (Z4 O O) (Da (Ob O) (Ea ?_)));refine Uc O O (λhc4=>?_) (λhc4=>?_);refine Ka (Da (Ud Lf O) (Xd (Is zQ O hF.F 0 O O) (Da (G5 O O) (Da (Yd O) ?_))));refine Id (d:=55) O (λhg3=>?_) (λhg3=>?_);refine Ma (Ma (Ma (Da (Sc O O) (Da (Ob O) (Ea ?_)))));refine Yc (v:=.bool true) O O ⟨?_,hF.same⟩;clear hF hR hK hX hb1;simp_all[nodeB,List.length_pos_iff];refine Da (Ud Lf O) (Xd (Is zQ O hF.F 0 O O) (Da (G5 O O) (Da (Ed O O) (Da (Ob O) (Ea ?_)))));refine Yc (v:=.bool _) O O ⟨?_,hF.same⟩;clear hF hR hK hX hb1;simp_all[nodeB,List.length_pos_iff];refine Ka (Da (Z4 O O) (Da (Ob O) (Ea ?_)));refine Uc O O (λhc5=>?_) (λhc5=>?_);refine Ka (Da (Ud Lf O) (Xd (Is zQ O hF.F 0 O O) ?_));refine Ra hF (Rx t hk.1 _ (hG.ext hF.same)) (Ua SJ O O) ?_;intro w hF;refine Da (Ct O) (Da (GA O O) (Da (Jp O O) ?_));refine Wl hF qZ dZ O ?_;rintro b2 w hb2 hF -;refine Da (Ob O) (Ec (Da (Yd O) (Da (Ob O) (Ea ?_))));refine Yc (v:=.bool _) O O ⟨?_,hF.same⟩
 clear hF hR hK hX hb1;simp_all[nodeB,List.length_pos_iff];refine Ka (Da (Z4 O O) (Da (Ob O) (Ea ?_)));refine Uc O O (λhc6=>?_) (λhc6=>?_);refine Ka (Da (Ud Lf O) (Xd (Is zQ O hF.F 0 O O) ?_));refine Ra hF (A8 t hk.1 _ (hG.ext hF.same)) (Ua YF O O) ?_;intro w hF;refine Da (Ob O) (Ea ?_);refine Yc (v:=.bool _) O O ⟨?_,hF.same⟩;clear hF hR hK hX hb1;simp_all[nodeB,List.length_pos_iff];refine Ka (Da (Z4 O O) (Da (Ob O) (Ea ?_)));refine Uc O O (λhc7=>?_) (λhc7=>?_);refine Ka (Da (Ud Lf O) (Xd (Is zQ O hF.F 0 O O) ?_));refine Ra hF (SM t hk.1 _ (hG.ext hF.same)) (Ua KM O O) ?_;intro w hF;refine Da (Ob O) (Ea ?_);refine Yc (v:=.bool _) O O ⟨?_,hF.same⟩;clear hF hR hK hX hb1;simp_all[nodeB,List.length_pos_iff];refine Sa (Qb (Fa (Ka (Da (Ob O) (Ea ?_)))));refine Yc (v:=.bool false) O O ⟨?_,hF.same⟩;clear hF hR hK hX hb1;simp_all[nodeB,List.length_pos_iff]
theorem Tree.ind{Q:Tree->Prop}(h:∀k t ks xs,(∀x,x∈xs->Q x)->Q (.node k t ks xs))(x:Tree):Q x :=
  Tree.rec (motive_1:=Q) (motive_2:=λxs=>∀x,x∈xs->Q x) (λk t ks xs ih=>h k t ks xs ih) Pa
    (λy ys h1 h2=>by
      intro z hz;rcases oQ.1 hz with rfl|hz
      ·exact h1
      exact h2 z hz) x
mutual
def Jb:Tree->Nat|.node _ _ _ xs=>1+Cb xs
def Cb:List Tree->Nat|[]=>0|x::xs=>Jb x+Cb xs
end
mutual
def Ce:Tree->Nat|.node _ _ _ xs=>Ic xs+1
def Ic:List Tree->Nat|[]=>0|x::xs=>max (Ce x) (Ic xs)
end
theorem Tc:∀(xs ys:List Tree),Cb (xs++ys)=Cb xs+Cb ys
  | [],ys=>by simp[Cb]
  | x::xs,ys=>by simp[Cb,Tc xs ys,Nat.add_assoc]
theorem Ng:∀(xs ys:List Tree),Ic (xs++ys)=max (Ic xs) (Ic ys)
  | [],ys=>by simp[Ic]
  | x::xs,ys=>by simp only[List.cons_append,Ic,Ng xs ys];omega
theorem Q3(xs:List Tree)(j:Nat)(hj:j<xs.length):Cb (xs.take (j+1))=Cb (xs.take j)+Jb xs[j]:=by
  rw[iQ hj,Tc];simp[Cb]
theorem Dz(xs:List Tree)(j:Nat)(hj:j<xs.length):Ic (xs.take (j+1))=max (Ic (xs.take j)) (Ce xs[j]):=by
  rw[iQ hj,Ng];simp[Ic]
theorem Gh:∀{xs:List Tree}{x:Tree},x∈xs->Jb x<=Cb xs
  | [],_,h=>absurd h Pa
  | y :: ys, x, h => by
    rw[Cb];rcases oQ.1 h with rfl|h
    ·omega
    have:=Gh h;omega
theorem Ok(x:Tree):1<=Jb x:=by cases x;rw[Jb];omega
theorem Cj:∀(xs:List Tree),xs.length<=Cb xs
  | []=>by simp[Cb]
  | x::xs=>by have:=Cj xs;have:=Ok x;simp only[Cb,kQ];omega
theorem ME(x:Tree):Ce x<=Jb x:=by
  refine Tree.ind (Q:=λx=>Ce x<=Jb x) (λk t ks xs ih=>?_) x;have:Ic xs<=Cb xs:=by
    induction xs with
    | nil=>simp[Ic,Cb]
    | cons y ys ihy =>
      have h1:=ih y Pa;have h2:=ihy (λz hz=>ih z (by simp[hz]));simp only[Ic,Cb];omega
  simp only[Ce,Jb];omega
theorem M7(xs:List Tree):Ic xs<=Cb xs:=by
  have:=ME (.node 0 [] [] xs);simp only[Ce,Jb]at this;omega
def CG(x:Tree):Prop:=∀S w0 cs,Rep S w0 (Pb x) cs->Calls prog 95 #[.agg cs.toArray] w0 (Pd λv w'=>v=J (wr (Jb x))/\Same [] w0 w')
theorem LA(k:Int)(t:Str)(ks:List Str)(xs:List Tree)(ih:∀x,x∈xs->CG x):CG (.node k t ks xs):=by
 intro S w0 cs hR;obtain⟨A,c,B,e,rfl,-,-,-,hX⟩:=hR.tree_inv;have hXl:=hX.slice_len;refine Ia func95 O ntmps95 Kb (Pc _) ?_;have hF:=FR.start w0 [];refine Ka (Bg hF O ?_);rintro b1 w hb1 hF -;refine Da (Gd O) (Ec (Da (Gd O) (Ea (Ha (Ka (Da (Ud Td O) (Xd (Bm uQ O hF.F 0 O O) (Da (Bh jZ O) ?_))))))));refine Da (Bc O) (Ea (Wa ?_));refine Xc (λμ σ w=>∃(j:Nat),μ=xs.length-j/\(j<=xs.length)/\AllEq σ [(3,J (wr (1+Cb (xs.take j)))),(7,.slice B xs.length e),(8,J ((xs.length:Nat))),(9,J ((j:Int)))]/\FR w0 [] [(b1,.cells #[J k,I t,.slice A ks.length c,.slice B xs.length e] 27)] w) _ ⟨0,O,(Nat.zero_le _),Lp,hF⟩ ?_;rintro μ σ w ⟨j,rfl,hj,hs,hF⟩;refine Cg.slots hs ?_;clear hs;intro σ;refine Ka (Da (Um O O) (Ea (Ha ?_)));refine Uc O O (λhc0=>?_) (λhc0=>?_);refine Sa (Fa (Ha (Wa (Ka ?_))));obtain⟨ad0,cs0,hA0,hl0,hk0,hx0⟩:=hX.tree_elem (i:=j) Ca;have ho0:=hx0.one_;refine Oa (v:=.pointer (some (ad0.add (j*4)))) (Ta (i:=(j:Int)) Yk O hA0 O Ca Ca) (Oa (v:=.agg (List.toArray cs0)) (Fb (l:=cs0) vQ bZ O hl0 (hF.cells0 hk0)) ?_);refine Uy (l:=cs0) hF oZ (by rw[hl0];exact bZ) (by rw[hl0];rfl) (v:=.agg (List.toArray cs0)) O O (ho0) O ?_;rintro b2 w hb2 hF -;refine Ea (Ja (Da (Bc O) (Oa (v:=.agg (List.toArray cs0)) (Fb (l:=cs0) vQ bZ O hl0 (hF.cellsAll 0 O)) ?_)));refine Ra hF (ih _ (eQ _) _ _ _ (hF.rep hx0)) (Ua YJ O O) ?_;intro w hF;refine Oa (v:=J (wr (1+Cb (xs.take (j+1))))) (Xx O O (by rw[IB,Q3 xs j Ca,Int.natCast_add,Int.add_assoc])) (Da (Gd O) (Db (Qb (Fa (Ja (Da (Zl O O) (Da (Bc O) (Db ?_))))))));refine Dc ⟨_,?_,j+1,O,Ca,Lp,hF.drop 1⟩;omega;refine Nc (Fc O ?_);refine Fa (Ka (Da (Bc O) (Da (Gd O) (Ea ?_))));refine Yc (v:=J (wr (1+Cb (xs.take j)))) O O ?_;obtain rfl:j=xs.length:=by omega
 exact⟨by simp[Jb],hF.same⟩
theorem MM(x:Tree):CG x:=Tree.ind LA x
def T5(x:Tree):Prop:=Jb x<=1000000000->∀S w0 cs,Rep S w0 (Pb x) cs->Calls prog 96 #[.agg cs.toArray] w0 (Pd λv w'=>v=J (Ce x:Nat)/\Same [] w0 w')
theorem Y6(k:Int)(t:Str)(ks:List Str)(xs:List Tree)(ih:∀x,x∈xs->T5 x):T5 (.node k t ks xs):=by
 intro hsz S w0 cs hR;obtain⟨A,c,B,e,rfl,-,-,-,hX⟩:=hR.tree_inv;have hXl:=hX.slice_len;have hdl:=M7 xs;rw[Jb]at hsz;refine Ia func96 O ntmps96 Kb (Pc _) ?_;have hF:=FR.start w0 [];refine Ka (Bg hF O ?_);rintro b1 w hb1 hF -;refine Da (Gd O) (Ec (Da (Gd O) (Ea (Ha (Ka (Da (Ud Td O) (Xd (Bm uQ O hF.F 0 O O) (Da (Bh jZ O) ?_))))))));refine Da (Bc O) (Ea (Wa ?_));refine Xc (λμ σ w=>∃(j:Nat),μ=xs.length-j/\(j<=xs.length)/\AllEq σ [(3,J ((Ic (xs.take j):Nat))),(7,.slice B xs.length e),(8,J ((xs.length:Nat))),(9,J ((j:Int)))]/\FR w0 [] [(b1,.cells #[J k,I t,.slice A ks.length c,.slice B xs.length e] 27)] w) _ ⟨0,O,(Nat.zero_le _),Lp,hF⟩ ?_;rintro μ σ w ⟨j,rfl,hj,hs,hF⟩;refine Cg.slots hs ?_;clear hs;intro σ;refine Ka (Da (Um O O) (Ea (Ha ?_)));refine Uc O O (λhc0=>?_) (λhc0=>?_);refine Sa (Fa (Ha (Wa (Ka ?_))));obtain⟨ad0,cs0,hA0,hl0,hk0,hx0⟩:=hX.tree_elem (i:=j) Ca;have ho0:=hx0.one_;refine Oa (v:=.pointer (some (ad0.add (j*4)))) (Ta (i:=(j:Int)) Yk O hA0 O Ca Ca) (Oa (v:=.agg (List.toArray cs0)) (Fb (l:=cs0) vQ bZ O hl0 (hF.cells0 hk0)) ?_);refine Uy (l:=cs0) hF oZ (by rw[hl0];exact bZ) (by rw[hl0];rfl) (v:=.agg (List.toArray cs0)) O O (ho0) O ?_;rintro b2 w hb2 hF -;refine Ea (Ja (Da (Bc O) (Oa (v:=.agg (List.toArray cs0)) (Fb (l:=cs0) vQ bZ O hl0 (hF.cellsAll 0 O)) ?_)));refine Ra hF (ih _ (eQ _) (by have:=Gh (List.getElem_mem (l:=xs) (n:=j) Ca);omega) _ _ _ (hF.rep hx0)) (Ua JJ O O) ?_;intro w hF;refine Oa (v:=J ((Ic (xs.take (j+1)):Nat))) (by rw[<-show max ((Ic (xs.take j):Nat):Int) ((Ce xs[j]:Nat):Int)=((Ic (xs.take (j+1)):Nat):Int) from by rw[Dz xs j Ca];omega];exact GN O O) ?_;refine Da (Gd O) (Db (Qb (Fa (Ja (Da (Zl O O) (Da (Bc O) (Db ?_)))))));refine Dc ⟨_,?_,j+1,O,Ca,Lp,hF.drop 1⟩;omega;refine Nc (Fc O ?_);refine Fa (Ka (Da (Bc O) ?_));have eT:xs.take j=xs:=List.take_of_length_le Ca
 refine Oa (v:=J ((Ce (.node k t ks xs):Nat))) (Xx O O (by rw[eT,Ce];exact Kn Ca Ca Ca)) ?_;refine Da (Gd O) (Ea ?_);refine Yc (v:=J ((Ce (.node k t ks xs):Nat))) O O ?_;exact⟨O,hF.same⟩
theorem VG(x:Tree):T5 x:=Tree.ind Y6 x
theorem Same.cell{w w':World}{a:Addr}{v:Value}(h:Same [] w w')(hc:w.cell? a=some v):w'.cell? a=some v:=((FR.start w []).ext h).cell0 hc
mutual
def Wd(q:Tree->Bool):Tree->Bool|.node k t ks xs=>q (.node k t ks xs)&&Ik q xs
def Ik(q:Tree->Bool):List Tree->Bool|[]=>true|x::xs=>Wd q x&&Ik q xs
end
theorem Yj(q:Tree->Bool):∀xs:List Tree,Ik q xs = !(xs.any λx=>!Wd q x)
  | []=>rfl
  | x::xs=>by rw[Ik,Yj q xs];simp
def EachC(w0:World)(bb:Nat)(xs:List Tree)(q:Tree->Bool):Prop:=∀x,x∈xs->∀S w cs,Same [] w0 w->Rep S w (Pb x) cs->Calls prog 97 #[.agg cs.toArray,V bb] w (Pd λv w'=>v=.bool (q x)/\Same [] w w')
theorem EachC.ext{w0 w:World}{bb:Nat}{xs:List Tree}{q:Tree->Bool}(h:EachC w0 bb xs q)(hs:Same [] w0 w):EachC w bb xs q:=λx hx S w' cs hw=>h x hx S w' cs (hs.trans hw)
theorem Ry{q:Tree->Bool}{xs:List Tree}{j:Nat}(h:j<xs.length)(hn:(xs.take j).any q=false)(hq:q xs[j]=false):(xs.take (j+1)).any q=false:=by
  rw[iQ h,List.any_append,hn];simp[hq]
def Oo(g:Nat)(q:Tree->Bool)(x:Tree):Prop:=∀S w0 cs,Rep S w0 (Pb x) cs->Nw x->Gl w0->Calls prog 66 #[.agg cs.toArray,.func (.func g) #[] #[]] w0 (Pd λv w'=>v=.bool (Wd q x)/\Same [] w0 w')
theorem G4(xs:List Tree)(q:Tree->Bool)(bb:Nat)(B:Option Addr)(e:Nat)(S:Nat->Prop)(w0:World)(hX:Rep S w0 (.slice (Ld xs)) [.slice B xs.length e])(hq:EachC w0 bb xs q):Calls prog 121 #[.slice B xs.length e,.func (.func 97) #[] #[V bb]] w0 (Pd λv w'=>∃n:Int,v=J n/\decide (0<=n)=xs.any q/\Same [] w0 w'):=by
 have hXl:=hX.slice_len;refine Ia func121 O ntmps121 Kb (Rd _ _) ?_;have hF:=FR.start w0 [];refine Ka (Da (Gd O) (Ea (Ha (Ka (Da (Od O) (Da (Bh jZ O) (Da (Bc O) (Ea (Wa ?_)))))))));refine Xc (λμ σ w=>∃(j:Nat),μ=xs.length-j/\(j<=xs.length)/\((xs.take j).any q=false)/\AllEq σ [(0,.slice B xs.length e),(1,.func (.func 97) #[] #[.pointer (some (⟨bb,0,none⟩))]),(7,J ((xs.length:Nat))),(8,J ((j:Int)))]/\FR w0 [] [] w) _ ⟨0,O,(Nat.zero_le _),Pa,Lp,hF⟩ ?_;rintro μ σ w ⟨j,rfl,hj,hn,hs,hF⟩;refine Cg.slots hs ?_;clear hs;intro σ;refine Ka (Da (Um O O) (Ea (Ha ?_)));refine Uc O O (λhc0=>?_) (λhc0=>?_);refine Sa (Fa (Ha (Wa (Ka (Da (Bc O) (Da (Gd O) (Ec (Da (Jq) (Da (Od O) ?_)))))))));refine Da (Bc O) ?_;obtain⟨ad0,cs0,hA0,hl0,hk0,hx0⟩:=hX.tree_elem (i:=j) Ca;have ho0:=hx0.one_;refine Oa (v:=.pointer (some (ad0.add (j*4)))) (Ta (i:=(j:Int)) Yk O hA0 O Ca Ca) (Oa (v:=.agg (List.toArray cs0)) (Fb (l:=cs0) vQ bZ O hl0 (hF.cells0 hk0)) ?_);refine Ra hF (hq _ (List.getElem_mem (l:=xs) (n:=j) Ca) _ _ _ hF.same (hF.rep hx0)) (Sg O DP O O) ?_;intro w hF;refine Ea (Ke O O (λhc1=>?_) (λhc1=>?_));refine Ka (Da (Bc O) (Da (Gd O) (Ea ?_)));refine Yc (v:=J ((j:Int))) O O ?_;exact⟨_,O,by rw[List.any_eq_true.2 ⟨_,List.getElem_mem (l:=xs) (n:=j) Ca,hc1⟩];simp,hF.same⟩;refine Sa (Qb (Fa (Ja (Da (Zl O O) (Da (Bc O) (Db ?_))))));refine Dc ⟨_,?_,j+1,O,Ca,(Ry Ca hn hc1),Lp,hF⟩;omega;refine Nc (Fc O ?_);refine Fa (Ka (Da (Gd O) (Ea ?_)));refine Yc (v:=J ((-1))) O O ?_;have eT:xs.take j=xs:=List.take_of_length_le Ca;rw[eT]at hn;exact⟨_,O,by rw[hn];decide,hF.same⟩
theorem Mm(xs:List Tree)(q:Tree->Bool)(bb:Nat)(B:Option Addr)(e:Nat)(S:Nat->Prop)(w0:World)(hX:Rep S w0 (.slice (Ld xs)) [.slice B xs.length e])(hq:EachC w0 bb xs q):Calls prog 81 #[.slice B xs.length e,.func (.func 97) #[] #[V bb]] w0 (Pd λv w'=>v=.bool (xs.any q)/\Same [] w0 w'):=by
 refine Ia func81 O ntmps81 Kb (Rd _ _) ?_;have hF:=FR.start w0 [];refine Ka (Da (Ob O) (Ec (Da (Od O) (Da (Jq) ?_))));refine Zb (G4 xs q bb B e S _ (hF.rep hX) (hq.ext hF.same)) (Gb NF O O O) ?_;rintro _ w ⟨n,rfl,hn,hE⟩;have hF:=hF.ext hE;refine Da (L9 O O) (Da (Ob O) (Ea ?_));refine Yc (v:=.bool _) O O ?_;exact⟨congrArg Value.bool hn,hF.same⟩
theorem Vy(g:Nat)(q:Tree->Bool)(x:Tree)(h:Oo g q x)(bb:Nat)(S:Nat->Prop)(w0:World)(cs:List Value)(hR:Rep S w0 (Pb x) cs)(hk:Nw x)(hG:Gl w0)(hb:w0.cell? ⟨bb,0,none⟩=some (.func (.func g) #[] #[])):Calls prog 97 #[.agg cs.toArray,V bb] w0 (Pd λv w'=>v=.bool (!Wd q x)/\Same [] w0 w'):=by
 have hl:cs.length=4:=hR.length.trans (Rc x);have ho:=hR.one_;refine Ia func97 O ntmps97 Kb (Rd _ _) ?_;have hF:=FR.start w0 [];refine Ka (Qm (v:=.agg (List.toArray cs)) (cs:=(List.toArray cs)) hF O O ?_);rintro b1 w hb1 hF -;refine Da (Ob O) (Ec (Oa (v:=.agg (List.toArray cs)) (Fb (l:=cs) vQ bZ O hl (hF.cellsAll 0 O)) (Oa (v:=.func (.func g) #[] #[]) (Zc isAgg53 O (hF.cell0 hb)) ?_)));refine Ra hF (h S _ cs (hF.rep hR) hk (hG.ext hF.same)) (Gb KD O O O) ?_;intro w hF;refine Da (Bi O) (Da (Ob O) (Ea ?_));refine Yc (v:=.bool _) O O ?_;exact⟨O,hF.same⟩
theorem K0(q:Tree->Bool)(hp:Xy 74 q)(k:Int)(t:Str)(ks:List Str)(xs:List Tree)(ih:∀x,x∈xs->Oo 74 q x):Oo 74 q (.node k t ks xs):=by
 intro S w0 cs hR hk hG;have hk':=hk;rw[Nw]at hk';obtain⟨A,c,B,e,rfl,-,-,hK,hX⟩:=hR.tree_inv;refine Ia func66 O ntmps66 Kb (Rd _ _) ?_;have hF:=FR.start w0 [];refine Ka (Bg hF O ?_);rintro b1 w hb1 hF -;refine BD (.func (.func 74) #[] #[]) hF O ?_;rintro b2 w hb2 hF -;refine Da (Ob O) (Ec (Xd (TQ isAgg53 O hF.F 0 O O) (Xd (Lj vQ bZ O hF.F 1 O O) ?_)));refine Ra hF (hp (.node k t ks xs) S _ _ (hF.rep hR) hk (hG.ext hF.same)) (Sg O ZO O O) ?_;intro w hF;refine Da (Yd O) (Cd (d:=8) O (λhg0=>?_) (λhg0=>?_));refine Da (Ud Td O) (Xd (Bm uQ O hF.F 1 O O) (Oa (v:=.func (.func 97) #[] #[V b2]) (Bl O) ?_));refine Ra hF (Mm xs (λx=>!Wd q x) b2 B e S _ (hF.rep hX) (λx hx S' w' cs' hs hr=>Vy 74 q x (ih x hx) b2 S' w' cs' hr (Xv hk'.2.2 x hx) ((hG.ext hF.same).ext hs) (hs.cell (hF.cell 0 O O)))) (Gb XD O O O) ?_;intro w hF;refine Da (Bi O) (Da (Sc O O) (Da (Ob O) (Ea ?_)));refine Yc (v:=.bool _) O O ⟨?_,hF.same⟩;rw[Wd,Yj];simp_all;refine Ma (Ma (Ma (Ma (Ma (Da (Ed O O) (Da (Ob O) (Ea ?_)))))));refine Yc (v:=.bool false) O O ⟨?_,hF.same⟩;rw[Wd,Yj];simp_all
theorem AA(q:Tree->Bool)(hp:Xy 74 q)(x:Tree):Oo 74 q x:=Tree.ind (K0 q hp) x
theorem Q0(q:Tree->Bool)(hp:Xy 67 q)(k:Int)(t:Str)(ks:List Str)(xs:List Tree)(ih:∀x,x∈xs->Oo 67 q x):Oo 67 q (.node k t ks xs):=by
 intro S w0 cs hR hk hG;have hk':=hk;rw[Nw]at hk';obtain⟨A,c,B,e,rfl,-,-,hK,hX⟩:=hR.tree_inv;refine Ia func66 O ntmps66 Kb (Rd _ _) ?_;have hF:=FR.start w0 [];refine Ka (Bg hF O ?_);rintro b1 w hb1 hF -;refine BD (.func (.func 67) #[] #[]) hF O ?_;rintro b2 w hb2 hF -;refine Da (Ob O) (Ec (Xd (TQ isAgg53 O hF.F 0 O O) (Xd (Lj vQ bZ O hF.F 1 O O) ?_)));refine Ra hF (hp (.node k t ks xs) S _ _ (hF.rep hR) hk (hG.ext hF.same)) (Sg O CJ O O) ?_;intro w hF;refine Da (Yd O) (Cd (d:=8) O (λhg0=>?_) (λhg0=>?_));refine Da (Ud Td O) (Xd (Bm uQ O hF.F 1 O O) (Oa (v:=.func (.func 97) #[] #[V b2]) (Bl O) ?_));refine Ra hF (Mm xs (λx=>!Wd q x) b2 B e S _ (hF.rep hX) (λx hx S' w' cs' hs hr=>Vy 67 q x (ih x hx) b2 S' w' cs' hr (Xv hk'.2.2 x hx) ((hG.ext hF.same).ext hs) (hs.cell (hF.cell 0 O O)))) (Gb XD O O O) ?_;intro w hF;refine Da (Bi O) (Da (Sc O O) (Da (Ob O) (Ea ?_)));refine Yc (v:=.bool _) O O ⟨?_,hF.same⟩;rw[Wd,Yj];simp_all;refine Ma (Ma (Ma (Ma (Ma (Da (Ed O O) (Da (Ob O) (Ea ?_)))))));refine Yc (v:=.bool false) O O ⟨?_,hF.same⟩;rw[Wd,Yj];simp_all
theorem JA(q:Tree->Bool)(hp:Xy 67 q)(x:Tree):Oo 67 q x:=Tree.ind (Q0 q hp) x
def rnodeB(x:Tree):Bool:=decide (x.kind≠7)&&nodeB x
def Hl(x:Tree):Bool:=decide (Jb x<=4096)&&decide (Ce x<=32)
def Qh(x:Tree):Bool:=Hl x&&Wd nodeB x
def Kc(x:Tree):Bool:=Hl x&&Wd rnodeB x
theorem BF{n:Nat}(h:n<=1000000000):wr (n:Int)=(n:Int):=Dl Ca Ca
theorem DH  : Xy 74 rnodeB:=by
 rintro⟨k,t,ks,xs⟩ S w0 cs hR hk hG;obtain⟨A,c,B,e,rfl,-,-,hK,hX⟩:=hR.tree_inv;refine Ia func74 O ntmps74 Kb (Pc _) ?_;have hF:=FR.start w0 [];refine Ka (Bg hF O ?_);rintro b1 w hb1 hF -;refine Da (Ob O) (Ec (Da (Ud Vl O) (Xd (B5 wQ O hF.F 0 O O) (Da (Ey O O) (Da (Yd O) ?_)))));refine Id (d:=6) O (λhg0=>?_) (λhg0=>?_);refine Xd (Lj vQ bZ O hF.F 0 O O) (Ra hF (QF (.node k t ks xs) S _ _ (hF.rep hR) hk (hG.ext hF.same)) (Ua CJ O O) ?_);intro w hF;refine Da (Sc O O) (Da (Ob O) (Ea ?_));refine Yc (v:=.bool _) O O ⟨?_,hF.same⟩;simp_all[rnodeB,Tree.kind];refine Ma (Ma (Da (Ed O O) (Da (Ob O) (Ea ?_))));refine Yc (v:=.bool false) O O ⟨?_,hF.same⟩;simp_all[rnodeB,Tree.kind]
theorem ZL(x:Tree)(hsz:Jb x<=1000000000)(S:Nat->Prop)(w0:World)(cs:List Value)(hR:Rep S w0 (Pb x) cs):Calls prog 95 #[.agg cs.toArray] w0 (Pd λv w'=>v=J (Jb x:Nat)/\Same [] w0 w'):=by
  have h:=MM x S w0 cs hR
  rwa [BF hsz]at h
theorem J9(x:Tree)(hsz:Jb x<=1000000000)(S:Nat->Prop)(w0:World)(cs:List Value)(hR:Rep S w0 (Pb x) cs):Calls prog 65 #[.agg cs.toArray] w0 (Pd λv w'=>v=.bool (Hl x)/\Same [] w0 w'):=by
 have hl:cs.length=4:=hR.length.trans (Rc x);have ho:=hR.one_;refine Ia func65 O ntmps65 Kb (Pc _) ?_;have hF:=FR.start w0 [];refine Ka (Qm (v:=.agg (List.toArray cs)) (cs:=(List.toArray cs)) hF O O ?_);rintro b1 w hb1 hF -;refine Da (Ob O) (Ec (Oa (v:=.agg (List.toArray cs)) (Fb (l:=cs) vQ bZ O hl (hF.cellsAll 0 O)) ?_));refine Ra hF (ZL x hsz S _ cs (hF.rep hR)) (Ua YJ O O) ?_;intro w hF;refine Da (OK O O) (Da (Yd O) ?_);refine Id (d:=6) O (λhg0=>?_) (λhg0=>?_);refine Oa (v:=.agg (List.toArray cs)) (Fb (l:=cs) vQ bZ O hl (hF.cellsAll 0 O)) (Ra hF (VG x hsz S _ cs (hF.rep hR)) (Ua JJ O O) ?_);intro w hF;refine Da (OK O O) (Da (Sc O O) (Da (Ob O) (Ea ?_)));refine Yc (v:=.bool _) O O ⟨congrArg Value.bool ?_,hF.same⟩;unfold Hl
 first|(rw[decide_eq_true (by omega:Jb x<=4096)];exact decide_eq_decide.2 Ca)|(rw[decide_eq_false (by omega:¬Jb x<=4096)];rfl)
 refine Ma (Ma (Ma (Da (Ed O O) (Da (Ob O) (Ea ?_)))));refine Yc (v:=.bool false) O O ⟨congrArg Value.bool ?_,hF.same⟩;unfold Hl
 first|(rw[decide_eq_true (by omega:Jb x<=4096)];exact decide_eq_decide.2 Ca)|(rw[decide_eq_false (by omega:¬Jb x<=4096)];rfl)
theorem U9(x:Tree)(hsz:Jb x<=1000000000)(S:Nat->Prop)(w0:World)(cs:List Value)(hR:Rep S w0 (Pb x) cs)(hk:Nw x)(hG:Gl w0):Calls prog 49 #[.agg cs.toArray] w0 (Pd λv w'=>v=.bool (Kc x)/\Same [] w0 w'):=by
 have hl:cs.length=4:=hR.length.trans (Rc x);have ho:=hR.one_;refine Ia func49 O ntmps49 Kb (Pc _) ?_;have hF:=FR.start w0 [];refine Ka (Qm (v:=.agg (List.toArray cs)) (cs:=(List.toArray cs)) hF O O ?_);rintro b1 w hb1 hF -;refine Da (Ob O) (Ec (Oa (v:=.agg (List.toArray cs)) (Fb (l:=cs) vQ bZ O hl (hF.cellsAll 0 O)) ?_));refine Ra hF (J9 x hsz S _ cs (hF.rep hR)) (Ua EK O O) ?_;intro w hF;refine Da (Yd O) (Cd (d:=5) O (λhg0=>?_) (λhg0=>?_));refine Oa (v:=.agg (List.toArray cs)) (Fb (l:=cs) vQ bZ O hl (hF.cellsAll 0 O)) (Ra hF (AA rnodeB DH x S _ cs (hF.rep hR) hk (hG.ext hF.same)) (Gb KD O O O) ?_);intro w hF;refine Da (Sc O O) (Da (Ob O) (Ea ?_));refine Yc (v:=.bool _) O O ?_;exact⟨congrArg Value.bool (by unfold Kc;simp_all),hF.same⟩;refine Ma (Ma (Da (Ed O O) (Da (Ob O) (Ea ?_))));refine Yc (v:=.bool false) O O ?_;exact⟨congrArg Value.bool (by unfold Kc;simp_all),hF.same⟩
theorem Hz(x:Tree)(hsz:Jb x<=1000000000)(S:Nat->Prop)(w0:World)(cs:List Value)(hR:Rep S w0 (Pb x) cs)(hk:Nw x)(hG:Gl w0):Calls prog 45 #[.agg cs.toArray] w0 (Pd λv w'=>v=.bool (Qh x)/\Same [] w0 w'):=by
 have hl:cs.length=4:=hR.length.trans (Rc x);have ho:=hR.one_;refine Ia func45 O ntmps45 Kb (Pc _) ?_;have hF:=FR.start w0 [];refine Ka (Qm (v:=.agg (List.toArray cs)) (cs:=(List.toArray cs)) hF O O ?_);rintro b1 w hb1 hF -;refine Da (Ob O) (Ec (Oa (v:=.agg (List.toArray cs)) (Fb (l:=cs) vQ bZ O hl (hF.cellsAll 0 O)) ?_));refine Ra hF (J9 x hsz S _ cs (hF.rep hR)) (Ua EK O O) ?_;intro w hF;refine Da (Yd O) (Cd (d:=5) O (λhg0=>?_) (λhg0=>?_));refine Oa (v:=.agg (List.toArray cs)) (Fb (l:=cs) vQ bZ O hl (hF.cellsAll 0 O)) (Ra hF (JA nodeB QF x S _ cs (hF.rep hR) hk (hG.ext hF.same)) (Gb KD O O O) ?_);intro w hF;refine Da (Sc O O) (Da (Ob O) (Ea ?_));refine Yc (v:=.bool _) O O ?_;exact⟨congrArg Value.bool (by unfold Qh;simp_all),hF.same⟩;refine Ma (Ma (Da (Ed O O) (Da (Ob O) (Ea ?_))));refine Yc (v:=.bool false) O O ?_;exact⟨congrArg Value.bool (by unfold Qh;simp_all),hF.same⟩
end Go.Scarf
