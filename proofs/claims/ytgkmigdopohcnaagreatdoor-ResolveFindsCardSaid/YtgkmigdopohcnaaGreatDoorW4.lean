/- A part of the proof. -/
import Derived.Test.YtgkmigdopohcnaaGreatDoorW2
import Derived.Test.YtgkmigdopohcnaaGreatDoorShelf2
import Derived.Lib.ValidLaws
import Derived.Lib.TrimUEq
import Derived.Lib.MapLaws
set_option linter.all false
set_option maxHeartbeats 8000000
set_option maxRecDepth 10000
namespace Go.Scarf
open Go.RowKit Go.Proofs Go.Proofs.Tryz
def Sk(s:Str):Bool:=decide ((Oc s).2=0)&&decide (Qh (Oc s).1=s)
def NA(s:Str):Bool:=Sk s&&(C4 (Oc s).1).2&&decide (0<=(C4 (Oc s).1).1)
theorem Z8(s:Str):He (Oc s).1=true:=by
  rw[Nl]
  repeat' split
  all_goals first|rfl|simp_all
theorem Si(s:Str):(Oc s).1.digits.length<=1000:=(Hd (Z8 s)).1
theorem Kk(s:Str)(q:Nat):Lib.decodeL (s.drop q)=Utf8.decode (bs s) q:=Lib.decodeL_drop (bs s) q
theorem Vf(s:Str)(q:Nat):1<=(Utf8.decode (bs s) q).2:=by rw[<-Kk];exact Lib.decodeL_width _
theorem K0(s:Str)(q:Nat)(h:q<s.length):q+(Utf8.decode (bs s) q).2<=s.length:=by
  have:=Lib.decodeL_le (s.drop q) (by rw[ne_eq,List.drop_eq_nil_iff];omega);rw[Kk,List.length_drop]at this;omega
theorem U2(s:Str)(q:Nat)(h:q<s.length)(hv:Lib.validD (s.drop q)=false)(hn:¬((Utf8.decode (bs s) q).1=65533/\(Utf8.decode (bs s) q).2=1)):Lib.validD (s.drop (q+(Utf8.decode (bs s) q).2))=false:=by
  rw[Lib.validD_step _ (by rw[ne_eq,List.drop_eq_nil_iff];omega),Kk,if_neg hn,List.drop_drop]at hv;exact hv
theorem Fu(s:Str)(q:Nat)(h:q<s.length):Lib.decodeGo (bs (s.drop q))=Utf8.decode (bs s) q:=by
  have h1:(bs (s.drop q)).size≠0:=by rw[Nm,List.length_drop];omega
  rw[Lib.decodeGo,if_neg h1];exact Kk s q
theorem X4(s:Str)(hl:s.length<=140737488355328){w:World}(hG:Gl w):Calls prog 102 #[I s] w (Pc λv w'=>v=.bool (Lib.validD s)/\Same [] w w') :=
  Bt (utf8_ValidString (bs s) w (by rw[Nm];omega) hG.tabs)
theorem Pv(s:Str){w:World}(hG:Gl w):Calls prog 103 #[I s] w (Pc λv w'=>v=.tuple #[.int .i32 (Lib.decodeGo (bs s)).1,J (Lib.decodeGo (bs s)).2]/\Same [] w w') :=
  Bt (utf8_DecodeRuneInString (bs s) w hG.tabs)
theorem M_(s:Str)(hl:s.length<=140737488355328)(w0:World)(hG:Gl w0):Calls prog 60 #[I s] w0 (Pc λv w'=>∃n,v=.tuple #[J n,.bool (Lib.validD s)]/\Same [] w0 w'):=by
  refine Ea func60 O ntmps60 Db (Rb _) ?_;have hF:=FR.start w0 [];refine Fa (Ha ?_);refine Aa (Kb O) (Aa (Jb O) ?_);refine Ua (Ga ?_);refine Fa (Fa ?_);refine Ha (Aa (Md O) ?_);refine Oa hF (X4 s hl (hG.ext hF.same)) (Ma en_102 O O) ?_;intro w hF;refine Ua (Ga ?_);refine Ge O O (λhc0=>?_) (λhc0=>?_)
  ·
   refine Fa (Ha ?_);refine Aa (Md O) (Aa (Qr iX O) ?_);refine Aa (Kb O) (Aa (Jb O) ?_);refine Ua (Ga ?_);refine Ab (Za (Ka (Vc (v:=J ((((s):Str).length:Int))) (x:=.bool true) O O O) ?_));exact⟨_,by rw[hc0],hF.same⟩
  refine Na (Ga ?_);refine Fa (Fa ?_);refine Ha (Aa (Md O) ?_);refine Rv (str:=s) hF iX O ?_;intro b1 w hb1 hF hE;refine Ua (Ga ?_);refine Va (Sc (λμ σ w=>∃(q:Nat),μ=s.length-q/\(q<=s.length)/\(Lib.validD (s.drop q)=false)/\AllEq σ [(0,I s),(13,V b1)]/\FR w0 [] [(b1,.stringIter (bs s) (q))] w) _ ⟨0,O,(Nat.zero_le _),(by simpa using hc0),FA,hF⟩ ?_);rintro μ σ w ⟨q,rfl,hq,hv,hs,hF⟩;refine Cg.slots hs ?_;clear hs;intro σ;refine Fa (Ha ?_);by_cases hn0:(q)<(s:Str).length
  ·
   refine Uz 0 (p:=q) (str:=s) hF O O hn0 ?_;intro w hF hE;refine Aa (Ll O O) (Ua ?_);refine Ga (Fa ?_);refine Fd O (Na ?_);refine Ga (Va ?_);refine Fa (Ha ?_);refine Aa (Gj O O) (Aa (Gj O O) ?_);refine Aa (Kb O) (Aa (Kb O) ?_);refine Ua (Ga ?_);refine Fa (Fa ?_);refine Ha (Aa (Gb O) ?_);refine Aa (Om O O) (Ua ?_);refine Ga (Pb O O (λhc2=>?_) (λhc2=>?_))
   ·
    refine Kc (Ec O ?_);have h1:=Vf s q;have hw:¬((Utf8.decode (bs s) q).1=65533/\(Utf8.decode (bs s) q).2=1):=by
      first
      | (intro hh;omega)
      | (rw[Fu s q Ba]at hc3;intro hh;omega)
    refine Xb ⟨_,?_,q+(Utf8.decode (bs s) q).2,O,(K0 s q Ba),(U2 s q Ba hv hw),FA,hF⟩;omega
   refine Na (Ga ?_);refine Fa (Ha ?_);refine Aa (Md O) (Aa (Gb O) ?_);refine Ja (v:=I ((s:Str).drop (q))) (Gv (q) iX O O Ba) (Oa hF (Pv (s.drop q) (hG.ext hF.same)) (Ma JP O O) ?_);intro w hF;refine Aa (Ri O) (Aa (Gj O O) ?_);refine Aa (Gj O O) (Aa (Kb O) ?_);refine Aa (Kb O) (Ua ?_);refine Ga (Fa ?_);refine Ha (Aa (Gb O) ?_);refine Aa (Yh O O) (Ua ?_);refine Ga (Pb O O (λhc3=>?_) (λhc3=>?_))
   ·
    refine Fa (Ha ?_);refine Aa (Gb O) (Aa (Kb O) ?_);refine Aa (Jb O) (Ua ?_);refine Ga (Ab (Za (Ka (Vc (v:=J (((q:Nat):Int))) (x:=.bool false) O O O) ?_)));exact⟨_,by rw[hc0],hF.same⟩
   refine Na (Cb ?_);have h1:=Vf s q;have hw:¬((Utf8.decode (bs s) q).1=65533/\(Utf8.decode (bs s) q).2=1):=by
     first
     | (intro hh;omega)
     | (rw[Fu s q Ba]at hc3;intro hh;omega)
   refine Xb ⟨_,?_,q+(Utf8.decode (bs s) q).2,O,(K0 s q Ba),(U2 s q Ba hv hw),FA,hF⟩;omega
  refine Sq 0 (p:=q) (str:=s) hF O O hn0 (Aa (Ll O O) ?_);refine Ua (Ga ?_);refine Fa (We O ?_);refine Kc (Ec O ?_);refine Ga (Fa ?_);refine Ha (Aa (Md O) ?_);refine Aa (Qr iX O) (Aa (Kb O) ?_);refine Aa (Jb O) (Ua ?_);refine Ga (Ab (Za (Ka (Vc (v:=J ((((s):Str).length:Int))) (x:=.bool true) O O O) ?_)));have e:s.drop q=[]:=List.drop_eq_nil_of_le Ba;rw[e]at hv;cases hv
theorem IK(s:Str)(hl:s.length<=140737488355328)(w0:World)(hG:Gl w0):Calls prog 125 #[I s] w0 (Pc λv w'=>v=.bool (Lib.validD s)/\Same [] w0 w'):=by
 refine Ea func125 O ntmps125 Db (Rb _) ?_;have hF:=FR.start w0 [];refine Da (Aa (Jb O) (Qb (Aa (Md O) ?_)));refine Ya (M_ s hl _ (hG.ext hF.same)) (Ma QU O O) ?_;rintro _ w ⟨n,rfl,hE⟩;have hF:=hF.ext hE;refine Aa (Ri O) (Aa (Gj O O) (Aa (Ll O O) (Aa (Kb O) (Aa (Jb O) (Qb (Aa (Dc O) (Aa (Jb O) (Ca ?_))))))));refine Hc (v:=.bool _) O O ?_;exact⟨O,hF.same⟩
theorem Nt(s:Str)(hl:s.length<=140737488355328)(w0:World)(hG:Gl w0):Calls prog 81 #[I s] w0 (Pc λv w'=>v=.tuple #[Km (Oc s).1,.bool (Sk s)]/\Same [] w0 w'):=by
 refine Ea func81 O ntmps81 Db (Rb _) ?_;have hF:=FR.start w0 [];refine Da (Jc (cs:=#[.bool false,I [],J 0]) hF pX O ?_);rintro b1 w hb1 hF -;refine Aa (Jb O) (Qb (Aa (Md O) ?_));refine Oa hF (Ew s hl _) (Ma UD O O) ?_;intro w hF;refine Aa (Ri O) (Aa (Dq O O) (Aa (Gj O O) ?_));refine Ye hF pX qZ O ?_;rintro b2 w hb2 hF -;refine Aa (Kb O) (Ca (Fa ?_));refine Kd (.of []) (bQ [0,1,2,3,4,6] (.act 5 (.free 7 (.free 8 (.act 9 (.free 10 .nil)))))) hF ?_;rintro w hF -;refine⟨λwq=>FR w0 [] [(b2,.cells #[.bool ((Oc s).1.neg),I ((Oc s).1.digits),J ((Oc s).1.exp)] 86)] wq,hF.sub (.cons_cons _ (.cons _ .slnil)),?_⟩;refine Sf O (Ie gZ qZ O C0 0 O O) (Fb O (Gb O) (Fb O (Yh O O) (Fb O (Dc O) ?_)));refine Pk (d:=14) O (λhg0=>?_) (λhg0=>?_);refine Sf O (Ie gZ qZ O C0 0 O O) (Fb O (Md O) ?_);refine Tc hF (B9 (Oc s).1 (by have:=Si s;omega) _ (hG.ext hF.same)) O (Ma PI O O) ?_;intro w hF;refine⟨hF.sub (.cons_cons _ (.cons _ .slnil)),?_⟩;refine Fb O (M4 O O) (Fb O (Yb O O) ?_);refine Lm O hF qZ O O Nr ?_;rintro w hF -;refine⟨hF.sub (.cons_cons _ (.cons _ .slnil)),?_⟩;refine Fb O (Jb O) (Ac (Ga ?_));refine Ab (Za (Ka (Ic O (l:=[.bool ((Oc s).1.neg),I ((Oc s).1.digits),J ((Oc s).1.exp)]) O gZ qZ O (hF.cellsAll 1 O) (v:=.bool (decide ((Qh (Oc s).1:Str)=s))) O) ?_));exact⟨by simp_all[Sk,Km],hF.same⟩;refine Jd O (Jd O ?_);refine LP O ?_ (hF.sub (.cons_cons _ (.cons _ .slnil)));refine Jd O (Fb O (Bc O O) ?_);refine Lm O hF qZ O O Nr ?_;rintro w hF -;refine⟨hF.sub (.cons_cons _ (.cons _ .slnil)),?_⟩;refine Fb O (Jb O) (Ac (Ga ?_));refine Ab (Za (Ka (Ic O (l:=[.bool ((Oc s).1.neg),I ((Oc s).1.digits),J ((Oc s).1.exp)]) O gZ qZ O (hF.cellsAll 1 O) (v:=.bool false) O) ?_));exact⟨by simp_all[Sk,Km],hF.same⟩
theorem hole_c(s:Str)(hl:s.length<=140737488355328)(w0:World)(hG:Gl w0):Calls prog 126 #[I s] w0 (Pc λv w'=>v=.bool (NA s)/\Same [] w0 w'):=by
 refine Ea func126 O ntmps126 Db (Rb _) ?_;have hF:=FR.start w0 [];refine Da (Aa (Jb O) (Qb (Aa (Md O) ?_)));refine Oa hF (Nt s hl _ (hG.ext hF.same)) (Ma EJ O O) ?_;intro w hF;refine Aa (Ri O) (Aa (Dq O O) (Aa (Ll O O) ?_));refine Ye hF pX qZ O ?_;rintro b1 w hb1 hF -;refine Aa (Jb O) (Qb (Tb (Ie gZ qZ O hF.F 0 O O) ?_));refine Oa hF (PB (Oc s).1 (by have:=Si s;omega) _ (hG.ext hF.same)) (Ma XU O O) ?_;intro w hF;refine Aa (Ri O) (Aa (Gj O O) (Aa (Ll O O) (Aa (Kb O) (Aa (Jb O) (Qb (Aa (Dc O) (Aa (Dc O) ?_)))))));refine Rc (d:=18) O (λhg0=>?_) (λhg0=>?_);refine Aa (Dc O) (Aa (Yb O O) (Aa (Dc O) ?_));refine Rc (d:=21) O (λhg1=>?_) (λhg1=>?_);refine Aa (Gb O) (Aa (E6 O O) (Aa (Yb O O) (Aa (Jb O) (Ca ?_))));refine Hc (v:=.bool _) O O ?_;exact⟨by simp_all[NA],hF.same⟩;refine Ia (Ia (Aa (Bc O O) (Aa (Jb O) (Ca ?_))));refine Hc (v:=.bool false) O O ?_;exact⟨by simp_all[NA],hF.same⟩;refine Ia (Aa (Bc O O) (Aa (Dc O) (Ia (Ia (Aa (Bc O O) (Aa (Jb O) (Ca ?_)))))));refine Hc (v:=.bool false) O O ?_;exact⟨by simp_all[NA],hF.same⟩
def Yn(ks:List Str)(n:Int):Bool:=decide ks.Nodup&&ks.all Lib.validD&&decide ((ks.length:Int)=n)
def Ww(ks:List Str):MapL:=ks.map λk=>(k,.bool true)
theorem I3(ks:List Str)(k:Str):Ag (Ww ks) k=if k∈ks then some (.bool true) else none:=by
  induction ks with
  | nil=>rfl
  | cons a r ih =>
    have e:Ww (a::r)=[(a,.bool true)]++Ww r:=rfl;rw[e,Q9,ih];by_cases h:a=k
    ·subst h;simp[Ag]
    have h' : ¬ k = a := λe => h e.symm;simp[Ag,h,h']
theorem HG(ks:List Str)(j:Nat)(h:j<ks.length):Ww (ks.take j)++[(ks[j],.bool true)]=Ww (ks.take (j+1)):=by
  unfold Ww;rw[iQ h,jQ];rfl
theorem Iz{ks:List Str}{j:Nat}(h:j<ks.length)(hn:(ks.take j).Nodup)(hi:¬ks[j]∈ks.take j):(ks.take (j+1)).Nodup:=by
  rw[iQ h,List.nodup_append];refine⟨hn,by simp,?_⟩;intro a ha b hb e;simp only[pQ]at hb;subst e;subst hb;exact hi ha
theorem Yw{ks:List Str}{j:Nat}(h:j<ks.length)(hi:ks[j]∈ks.take j):¬ks.Nodup:=by
  intro hn;obtain⟨i,hi',he⟩:=List.getElem_of_mem hi;rw[List.getElem_take]at he;have hi2:i<j:=by rw[List.length_take]at hi';omega
  have:=(List.pairwise_iff_getElem.1 hn) i j Ba h hi2;exact this he
theorem V4{f:Str->Bool}{ks:List Str}{j:Nat}(h:j<ks.length)(ha:(ks.take j).all f=true)(hv:f ks[j]=true):(ks.take (j+1)).all f=true:=by
  rw[iQ h,List.all_append,ha];simp[hv]
theorem IW{f:Str->Bool}{ks:List Str}{j:Nat}(h:j<ks.length)(hv:f ks[j]=false):ks.all f=false:=by
  rw[Bool.eq_false_iff];intro ha;have:=List.all_eq_true.1 ha ks[j] (eQ h);rw[hv]at this;cases this
theorem DW(ks:List Str)(n:Int)(S:Nat->Prop)(A:Option Addr)(c:Nat)(hl:∀k∈ks,k.length<=140737488355328)(w0:World)(hG:Gl w0)(hX:Rep S w0 (Lh ks) [.slice A ks.length c]):Calls prog 124 #[.slice A ks.length c,J n] w0 (Pc λv w'=>v=.bool (Yn ks n)/\Same [] w0 w'):=by
 have hXl:=hX.slice_len;refine Ea func124 O ntmps124 Db (Lc _ _) ?_;have hF:=FR.start w0 [];refine Da (Aa (Jb O) (Qb (Aa (Xd O) (Aa (Ug xZ O) ?_))));refine Sw (v:=λb=>.map (some b)) hF (M7 underlying191 O) ?_;rintro b1 w hb1 hF -;refine Aa (Sx) (Ca (Fa (Da (Aa (Xd O) (Aa (Ug xZ O) (Aa (Gb O) (Ca (Va ?_))))))));have hF:FR w0 [] [(b1,Xg (Ww (ks.take 0)))] w:=hF;refine Sc (λμ σ w=>∃(j:Nat),μ=ks.length-j/\(j<=ks.length)/\((ks.take j).Nodup)/\((ks.take j).all Lib.validD=true)/\AllEq σ [(0,.slice A ks.length c),(1,J n),(5,.map (some b1)),(11,.slice A ks.length c),(12,J ((ks.length:Nat))),(13,J ((j:Int)))]/\FR w0 [] [(b1,Xg (Ww (ks.take j)))] w) _ ⟨0,O,(Nat.zero_le _),La,La,MC,hF⟩ ?_;rintro μ σ w ⟨j,rfl,hj,hd,hv,hs,hF⟩;refine Cg.slots hs ?_;clear hs;intro σ;refine Da (Aa (Vl O O) (Ca (Fa ?_)));refine Pb O O (λhc0=>?_) (λhc0=>?_);refine Na (Ga (Fa (Va (Da ?_))));obtain⟨ad0,hA0,hk0,hx0⟩:=hX.str_elem (i:=j) Ba;refine Ja (v:=.pointer (some (ad0.add (j*1)))) (Sa (i:=(j:Int)) Gu O hA0 O Ba Ba) (Ja (v:=I (ks[j])) (Ed iZ O (hF.cell0 hk0)) (Aa (Rf O) (Ca (Fa (Da (Aa (Mr) (Aa (Md O) ?_)))))));refine Ja (v:=.bool (decide (ks[j]∈ks.take j))) (Ct underlying191 iX zeroValue4 O O (hF.heap (i:=0) O) (by rw[I3];split <;> rename_i hh <;> simp only[hh,decide_true,decide_false] <;> rfl)) ?_;refine Aa (Dc O) (Wb (d:=20) O (λhg1=>?_) (λhg1=>?_));refine Ia (Ia (Ia (Aa (Yb O O) (Ca (Fd O (Da (Aa (Jb O) (Ca ?_))))))));refine Hc (v:=.bool false) O O ?_;have:=Yw (ks:=ks) (j:=j) Ba (by assumption);exact⟨congrArg Value.bool (by unfold Yn;rw[decide_eq_false this];rfl),hF.same⟩;refine Aa (Md O) (Oa hF (IK ks[j] (hl _ (eQ _)) _ (hG.ext hF.same)) (Ma YQ O O) ?_);intro w hF;refine Aa (Nh O) (Aa (Bc O O) (Ca ?_));refine Ge O O (λhc1=>?_) (λhc1=>?_);refine Da (Aa (Jb O) (Ca ?_))
 refine Hc (v:=.bool false) O O ?_;have:=IW (f:=Lib.validD) (ks:=ks) (j:=j) Ba (by simpa using hc1);exact⟨congrArg Value.bool (by unfold Yn;rw[this,Bool.and_false];rfl),hF.same⟩;refine Na (Ga (Ha (Aa (Mr) (Aa (Md O) ?_))));refine Yy 0 (v:=.bool true) hF underlying191 iX O O O O (by rw[I3,if_neg (by assumption)]) ?_;rintro w hF -;rw[HG ks j Ba]at hF;have hF:FR w0 [] [(b1,Xg (Ww (ks.take (j+1))))] w:=hF;refine Ua (Cb (Ga (Ha (Aa (Ql O O) (Aa (Gb O) (Ua ?_))))));refine Xb ⟨_,?_,j+1,O,Ba,(Iz Ba hd (by assumption)),(V4 Ba hv (by simpa using hc1)),MC,hF⟩;omega;refine Kc (Ec O ?_);refine Ga (Da (Aa (Xd O) (Aa (Ug xZ O) (Aa (Gb O) (Aa (Yh O O) (Aa (Jb O) (Ca ?_)))))));refine Hc (v:=.bool _) O O ?_;obtain rfl:j=ks.length:=by omega
 rw[List.take_length]at hd hv;exact⟨congrArg Value.bool (by unfold Yn;rw[hv,decide_eq_true hd];rfl),hF.same⟩
mutual
def Co:Tree->Prop|.node _ t ks xs=>t.length<=140737488355328/\(∀k∈ks,k.length<=140737488355328)/\Oz xs
def Oz:List Tree->Prop|[]=>True|x::xs=>Co x/\Oz xs
end
theorem Rj:∀{xs:List Tree},Oz xs->∀x∈xs,Co x
  | [],_,_,h=>absurd h La
  | y :: ys, h, x, hx => by
    rw[Oz]at h;rcases oQ.1 hx with rfl|hx
    ·exact h.1
    exact Rj h.2 x hx
def nodeB:Tree->Bool
  | .node k t ks xs =>
    if k=5 then decide (ks=[])&&decide (t=[]) else
    if k=6 then Yn ks xs.length&&decide (t=[]) else
    if ks≠[]\/xs≠[] then false else
    if k=1 then decide (t=[]) else
    if k=2 then decide (t=[116,114,117,101]) || decide (t=[102,97,108,115,101]) else
    if k=3 then Sk t else if k=4 then Lib.validD t else if k=7 then NA t else false
def Q7(g:Nat)(q:Tree->Bool):Prop:=∀(x:Tree)(S:Nat->Prop)(w0:World)(cs:List Value),Rep S w0 (Hb x) cs->Co x->Gl w0->Calls prog g #[.agg cs.toArray] w0 (Pc λv w'=>v=.bool (q x)/\Same [] w0 w')
theorem DV  : Q7 80 nodeB:=by
 rintro⟨k,t,ks,xs⟩ S w0 cs hR hk hG;obtain⟨A,c,B,e,rfl,-,-,hK,hX⟩:=hR.tree_inv;rw[Co]at hk;refine Ea func80 O ntmps80 Db (Rb _) ?_;have hF:=FR.start w0 [];refine Da (Je hF O ?_);rintro b1 w hb1 hF -;refine Aa (Jb O) (Ca (Fa ?_));refine Zc (zs:=.of []) (bQ [0,1,2,3,4,5,6,7,8,9] .nil) hF ?_;intro w hF;refine Fb O (Ob Zd O) (Sf O (Ef yQ O C0 0 O O) (Fb O (Ug xZ O) (Fb O (Pz O O) (Fb O (Ob Ub O) (Sf O (Ef zQ O C0 0 O O) (Fb O (Ug yZ O) (Fb O (Pz O O) (Fb O (Jb O) (Fb O (Jb O) (Ac (Ga (Fa (Fa ?_)))))))))))));refine Ha (Aa (Ob Se O) (Tb (Yi dZ O hF.F 0 O O) (Ca (Va (Da (Aa (Yh O O) (Aa (Jb O) (Ca ?_))))))));refine Pb O O (λhc0=>?_) (λhc0=>?_);refine Da (Aa (Dc O) (Aa (ynd O) (Aa (Dc O) ?_)));refine Wb (d:=21) O (λhg0=>?_) (λhg0=>?_);refine Aa (Ob Oe O) (Tb (Rm iZ O hF.F 0 O O) (Aa (M4 O O) (Aa (Yb O O) (Aa (Jb O) (Ca ?_)))));refine Hc (v:=.bool _) O O ⟨?_,hF.same⟩;clear hF hR hK hX hb1;simp_all[nodeB,List.length_pos_iff];refine Ia (Ia (Ia (Aa (Bc O O) (Aa (Jb O) (Ca ?_)))));refine Hc (v:=.bool false) O O ⟨?_,hF.same⟩;clear hF hR hK hX hb1;simp_all[nodeB,List.length_pos_iff];refine Da (Aa (Yh O O) (Aa (Jb O) (Ca ?_)));refine Pb O O (λhc1=>?_) (λhc1=>?_);refine Da (Aa (Ob Zd O) (Tb (Ef yQ O hF.F 0 O O) (Aa (Ob Ub O) (Tb (Ef zQ O hF.F 0 O O) (Aa (Ug yZ O) ?_)))));refine Oa hF (DW ks (xs.length:Nat) S A c (by simpa using hk.2.1) _ (hG.ext hF.same) (hF.rep hK)) (Ra en_124 O O O) ?_;intro w hF;refine Aa (Dc O) (Rc (d:=34) O (λhg1=>?_) (λhg1=>?_));refine Aa (Ob Oe O) (Tb (Rm iZ O hF.F 0 O O) (Aa (M4 O O) (Aa (Yb O O) (Aa (Jb O) (Ca ?_)))));refine Hc (v:=.bool _) O O ⟨?_,hF.same⟩;clear hF hR hK hX hb1;simp_all[nodeB,List.length_pos_iff];refine Ia (Ia (Ia (Aa (Bc O O) (Aa (Jb O) (Ca ?_)))));refine Hc (v:=.bool false) O O ⟨?_,hF.same⟩;clear hF hR hK hX hb1
 simp_all[nodeB,List.length_pos_iff];refine Na (Cb (Ga (Fa (Da (Aa (Dc O) (Aa (Dc O) ?_))))));refine Wb (d:=40) O (λhg2=>?_) (λhg2=>?_);refine Ia (Aa (Yb O O) (Ca (Fd O (Da (Aa (Jb O) (Ca ?_))))));refine Hc (v:=.bool false) O O ⟨?_,hF.same⟩;clear hF hR hK hX hb1;simp_all[nodeB,List.length_pos_iff];refine Aa (Dc O) (Aa (Bc O O) (Ca ?_));refine Pb O O (λhc2=>?_) (λhc2=>?_);refine Da (Aa (Jb O) (Ca ?_));refine Hc (v:=.bool false) O O ⟨?_,hF.same⟩;clear hF hR hK hX hb1;simp_all[nodeB,List.length_pos_iff];refine Na (Ga (Fa (Da (Aa (Ob Se O) (Tb (Yi dZ O hF.F 0 O O) (Ca (Va (Da (Aa (Yh O O) (Aa (Jb O) ?_))))))))));refine Ca (Pb O O (λhc3=>?_) (λhc3=>?_));refine Da (Aa (Ob Oe O) (Tb (Rm iZ O hF.F 0 O O) (Aa (M4 O O) (Aa (Jb O) (Ca ?_)))));refine Hc (v:=.bool _) O O ⟨?_,hF.same⟩;clear hF hR hK hX hb1;simp_all[nodeB,List.length_pos_iff];refine Da (Aa (Yh O O) (Aa (Jb O) (Ca ?_)));refine Pb O O (λhc4=>?_) (λhc4=>?_);refine Da (Aa (Ob Oe O) (Tb (Rm iZ O hF.F 0 O O) (Aa (M4 O O) (Aa (Dc O) ?_))));refine Wb (d:=55) O (λhg3=>?_) (λhg3=>?_);refine Ia (Ia (Ia (Aa (Yb O O) (Aa (Jb O) (Ca ?_)))));refine Hc (v:=.bool true) O O ⟨?_,hF.same⟩;clear hF hR hK hX hb1;simp_all[nodeB,List.length_pos_iff];refine Aa (Ob Oe O) (Tb (Rm iZ O hF.F 0 O O) (Aa (M4 O O) (Aa (Bc O O) (Aa (Jb O) (Ca ?_)))));refine Hc (v:=.bool _) O O ⟨?_,hF.same⟩;clear hF hR hK hX hb1;simp_all[nodeB,List.length_pos_iff];refine Da (Aa (Yh O O) (Aa (Jb O) (Ca ?_)));refine Pb O O (λhc5=>?_) (λhc5=>?_);refine Da (Aa (Ob Oe O) (Tb (Rm iZ O hF.F 0 O O) ?_));refine Oa hF (Nt t hk.1 _ (hG.ext hF.same)) (Ma EJ O O) ?_;intro w hF;refine Aa (Ri O) (Aa (Dq O O) (Aa (Ll O O) ?_));refine Ye hF pX qZ O ?_;rintro b2 w hb2 hF -;refine Aa (Jb O) (Qb (Aa (Dc O) (Aa (Jb O) (Ca ?_))));refine Hc (v:=.bool _) O O ⟨?_,hF.same⟩
 clear hF hR hK hX hb1;simp_all[nodeB,List.length_pos_iff];refine Da (Aa (Yh O O) (Aa (Jb O) (Ca ?_)));refine Pb O O (λhc6=>?_) (λhc6=>?_);refine Da (Aa (Ob Oe O) (Tb (Rm iZ O hF.F 0 O O) ?_));refine Oa hF (IK t hk.1 _ (hG.ext hF.same)) (Ma YQ O O) ?_;intro w hF;refine Aa (Jb O) (Ca ?_);refine Hc (v:=.bool _) O O ⟨?_,hF.same⟩;clear hF hR hK hX hb1;simp_all[nodeB,List.length_pos_iff];refine Da (Aa (Yh O O) (Aa (Jb O) (Ca ?_)));refine Pb O O (λhc7=>?_) (λhc7=>?_);refine Da (Aa (Ob Oe O) (Tb (Rm iZ O hF.F 0 O O) ?_));refine Oa hF (hole_c t hk.1 _ (hG.ext hF.same)) (Ma en_126 O O) ?_;intro w hF;refine Aa (Jb O) (Ca ?_);refine Hc (v:=.bool _) O O ⟨?_,hF.same⟩;clear hF hR hK hX hb1;simp_all[nodeB,List.length_pos_iff];refine Na (Cb (Ga (Da (Aa (Jb O) (Ca ?_)))));refine Hc (v:=.bool false) O O ⟨?_,hF.same⟩;clear hF hR hK hX hb1;simp_all[nodeB,List.length_pos_iff]
theorem Tree.ind{Q:Tree->Prop}(h:∀k t ks xs,(∀x,x∈xs->Q x)->Q (.node k t ks xs))(x:Tree):Q x :=
  Tree.rec (motive_1:=Q) (motive_2:=λxs=>∀x,x∈xs->Q x) (λk t ks xs ih=>h k t ks xs ih) La
    (λy ys h1 h2=>by
      intro z hz;rcases oQ.1 hz with rfl|hz
      ·exact h1
      exact h2 z hz) x
mutual
def Mb:Tree->Nat|.node _ _ _ xs=>1+Vb xs
def Vb:List Tree->Nat|[]=>0|x::xs=>Mb x+Vb xs
end
mutual
def Gd:Tree->Nat|.node _ _ _ xs=>Xc xs+1
def Xc:List Tree->Nat|[]=>0|x::xs=>max (Gd x) (Xc xs)
end
theorem Tj:∀(xs ys:List Tree),Vb (xs++ys)=Vb xs+Vb ys
  | [],ys=>by simp[Vb]
  | x::xs,ys=>by simp[Vb,Tj xs ys,Nat.add_assoc]
theorem Yr:∀(xs ys:List Tree),Xc (xs++ys)=max (Xc xs) (Xc ys)
  | [],ys=>by simp[Xc]
  | x::xs,ys=>by simp only[List.cons_append,Xc,Yr xs ys];omega
theorem CE(xs:List Tree)(j:Nat)(hj:j<xs.length):Vb (xs.take (j+1))=Vb (xs.take j)+Mb xs[j]:=by
  rw[iQ hj,Tj];simp[Vb]
theorem E_(xs:List Tree)(j:Nat)(hj:j<xs.length):Xc (xs.take (j+1))=max (Xc (xs.take j)) (Gd xs[j]):=by
  rw[iQ hj,Yr];simp[Xc]
theorem Kl:∀{xs:List Tree}{x:Tree},x∈xs->Mb x<=Vb xs
  | [],_,h=>absurd h La
  | y :: ys, x, h => by
    rw[Vb];rcases oQ.1 h with rfl|h
    ·omega
    have:=Kl h;omega
theorem B6(x:Tree):1<=Mb x:=by cases x;rw[Mb];omega
theorem Il:∀(xs:List Tree),xs.length<=Vb xs
  | []=>by simp[Vb]
  | x::xs=>by have:=Il xs;have:=B6 x;simp only[Vb,kQ];omega
theorem SS(x:Tree):Gd x<=Mb x:=by
  refine Tree.ind (Q:=λx=>Gd x<=Mb x) (λk t ks xs ih=>?_) x;have:Xc xs<=Vb xs:=by
    induction xs with
    | nil=>simp[Xc,Vb]
    | cons y ys ihy =>
      have h1:=ih y La;have h2:=ihy (λz hz=>ih z (by simp[hz]));simp only[Xc,Vb];omega
  simp only[Gd,Mb];omega
theorem GH(xs:List Tree):Xc xs<=Vb xs:=by
  have:=SS (.node 0 [] [] xs);simp only[Gd,Mb]at this;omega
def JU(x:Tree):Prop:=∀S w0 cs,Rep S w0 (Hb x) cs->Calls prog 120 #[.agg cs.toArray] w0 (Pc λv w'=>v=J (wr (Mb x))/\Same [] w0 w')
theorem CN(k:Int)(t:Str)(ks:List Str)(xs:List Tree)(ih:∀x,x∈xs->JU x):JU (.node k t ks xs):=by
 intro S w0 cs hR;obtain⟨A,c,B,e,rfl,-,-,-,hX⟩:=hR.tree_inv;have hXl:=hX.slice_len;refine Ea func120 O ntmps120 Db (Rb _) ?_;have hF:=FR.start w0 [];refine Da (Je hF O ?_);rintro b1 w hb1 hF -;refine Aa (Kb O) (Qb (Aa (Kb O) (Ca (Fa (Da (Aa (Ob Ub O) (Tb (Ef zQ O hF.F 0 O O) (Aa (Ug yZ O) ?_))))))));refine Aa (Gb O) (Ca (Va ?_));refine Sc (λμ σ w=>∃(j:Nat),μ=xs.length-j/\(j<=xs.length)/\AllEq σ [(3,J (wr (1+Vb (xs.take j)))),(7,.slice B xs.length e),(8,J ((xs.length:Nat))),(9,J ((j:Int)))]/\FR w0 [] [(b1,.cells #[J k,I t,.slice A ks.length c,.slice B xs.length e] 25)] w) _ ⟨0,O,(Nat.zero_le _),Lr,hF⟩ ?_;rintro μ σ w ⟨j,rfl,hj,hs,hF⟩;refine Cg.slots hs ?_;clear hs;intro σ;refine Da (Aa (Vl O O) (Ca (Fa ?_)));refine Pb O O (λhc0=>?_) (λhc0=>?_);refine Na (Ga (Fa (Va (Da ?_))));obtain⟨ad0,cs0,hA0,hl0,hk0,hx0⟩:=hX.tree_elem (i:=j) Ba;have ho0:=hx0.one_;refine Ja (v:=.pointer (some (ad0.add (j*4)))) (Sa (i:=(j:Int)) Ng O hA0 O Ba Ba) (Ja (v:=.agg (List.toArray cs0)) (Xa (l:=cs0) aZ mZ O hl0 (hF.cells0 hk0)) ?_);refine Oy (l:=cs0) hF kX (by rw[hl0];exact mZ) (by rw[hl0];rfl) (v:=.agg (List.toArray cs0)) O O (ho0) O ?_;rintro b2 w hb2 hF -;refine Ca (Ha (Aa (Gb O) (Ja (v:=.agg (List.toArray cs0)) (Xa (l:=cs0) aZ mZ O hl0 (hF.cellsAll 0 O)) ?_)));refine Oa hF (ih _ (eQ _) _ _ _ (hF.rep hx0)) (Ma QP O O) ?_;intro w hF;refine Ja (v:=J (wr (1+Vb (xs.take (j+1))))) (Iw O O (by rw[AM,CE xs j Ba,Int.natCast_add,Int.add_assoc])) (Aa (Kb O) (Ua (Cb (Ga (Ha (Aa (Ql O O) (Aa (Gb O) (Ua ?_))))))));refine Xb ⟨_,?_,j+1,O,Ba,Lr,hF.drop 1⟩;omega;refine Kc (Ec O ?_);refine Ga (Da (Aa (Gb O) (Aa (Kb O) (Ca ?_))));refine Hc (v:=J (wr (1+Vb (xs.take j)))) O O ?_;obtain rfl:j=xs.length:=by omega
 exact⟨by simp[Mb],hF.same⟩
theorem size_c(x:Tree):JU x:=Tree.ind CN x
def UH(x:Tree):Prop:=Mb x<=1000000000->∀S w0 cs,Rep S w0 (Hb x) cs->Calls prog 121 #[.agg cs.toArray] w0 (Pc λv w'=>v=J (Gd x:Nat)/\Same [] w0 w')
theorem FH(k:Int)(t:Str)(ks:List Str)(xs:List Tree)(ih:∀x,x∈xs->UH x):UH (.node k t ks xs):=by
 intro hsz S w0 cs hR;obtain⟨A,c,B,e,rfl,-,-,-,hX⟩:=hR.tree_inv;have hXl:=hX.slice_len;have hdl:=GH xs;rw[Mb]at hsz;refine Ea func121 O ntmps121 Db (Rb _) ?_;have hF:=FR.start w0 [];refine Da (Je hF O ?_);rintro b1 w hb1 hF -;refine Aa (Kb O) (Qb (Aa (Kb O) (Ca (Fa (Da (Aa (Ob Ub O) (Tb (Ef zQ O hF.F 0 O O) (Aa (Ug yZ O) ?_))))))));refine Aa (Gb O) (Ca (Va ?_));refine Sc (λμ σ w=>∃(j:Nat),μ=xs.length-j/\(j<=xs.length)/\AllEq σ [(3,J ((Xc (xs.take j):Nat))),(7,.slice B xs.length e),(8,J ((xs.length:Nat))),(9,J ((j:Int)))]/\FR w0 [] [(b1,.cells #[J k,I t,.slice A ks.length c,.slice B xs.length e] 25)] w) _ ⟨0,O,(Nat.zero_le _),Lr,hF⟩ ?_;rintro μ σ w ⟨j,rfl,hj,hs,hF⟩;refine Cg.slots hs ?_;clear hs;intro σ;refine Da (Aa (Vl O O) (Ca (Fa ?_)));refine Pb O O (λhc0=>?_) (λhc0=>?_);refine Na (Ga (Fa (Va (Da ?_))));obtain⟨ad0,cs0,hA0,hl0,hk0,hx0⟩:=hX.tree_elem (i:=j) Ba;have ho0:=hx0.one_;refine Ja (v:=.pointer (some (ad0.add (j*4)))) (Sa (i:=(j:Int)) Ng O hA0 O Ba Ba) (Ja (v:=.agg (List.toArray cs0)) (Xa (l:=cs0) aZ mZ O hl0 (hF.cells0 hk0)) ?_);refine Oy (l:=cs0) hF kX (by rw[hl0];exact mZ) (by rw[hl0];rfl) (v:=.agg (List.toArray cs0)) O O (ho0) O ?_;rintro b2 w hb2 hF -;refine Ca (Ha (Aa (Gb O) (Ja (v:=.agg (List.toArray cs0)) (Xa (l:=cs0) aZ mZ O hl0 (hF.cellsAll 0 O)) ?_)));refine Oa hF (ih _ (eQ _) (by have:=Kl (List.getElem_mem (l:=xs) (n:=j) Ba);omega) _ _ _ (hF.rep hx0)) (Ma LR O O) ?_;intro w hF;refine Ja (v:=J ((Xc (xs.take (j+1)):Nat))) (by rw[<-show max ((Xc (xs.take j):Nat):Int) ((Gd xs[j]:Nat):Int)=((Xc (xs.take (j+1)):Nat):Int) from by rw[E_ xs j Ba];omega];exact x_max O O) ?_;refine Aa (Kb O) (Ua (Cb (Ga (Ha (Aa (Ql O O) (Aa (Gb O) (Ua ?_)))))));refine Xb ⟨_,?_,j+1,O,Ba,Lr,hF.drop 1⟩;omega;refine Kc (Ec O ?_);refine Ga (Da (Aa (Gb O) ?_));have eT:xs.take j=xs:=List.take_of_length_le Ba
 refine Ja (v:=J ((Gd (.node k t ks xs):Nat))) (Iw O O (by rw[eT,Gd];exact Vk Ba Ba Ba)) ?_;refine Aa (Kb O) (Ca ?_);refine Hc (v:=J ((Gd (.node k t ks xs):Nat))) O O ?_;exact⟨O,hF.same⟩
theorem LW(x:Tree):UH x:=Tree.ind FH x
theorem Same.cell{w w':World}{a:Addr}{v:Value}(h:Same [] w w')(hc:w.cell? a=some v):w'.cell? a=some v:=((FR.start w []).ext h).cell0 hc
mutual
def Qd(q:Tree->Bool):Tree->Bool|.node k t ks xs=>q (.node k t ks xs)&&Vp q xs
def Vp(q:Tree->Bool):List Tree->Bool|[]=>true|x::xs=>Qd q x&&Vp q xs
end
theorem Zo(q:Tree->Bool):∀xs:List Tree,Vp q xs = !(xs.any λx=>!Qd q x)
  | []=>rfl
  | x::xs=>by rw[Vp,Zo q xs];simp
def EachC(w0:World)(bb:Nat)(xs:List Tree)(q:Tree->Bool):Prop:=∀x,x∈xs->∀S w cs,Same [] w0 w->Rep S w (Hb x) cs->Calls prog 123 #[.agg cs.toArray,V bb] w (Pc λv w'=>v=.bool (q x)/\Same [] w w')
theorem EachC.ext{w0 w:World}{bb:Nat}{xs:List Tree}{q:Tree->Bool}(h:EachC w0 bb xs q)(hs:Same [] w0 w):EachC w bb xs q:=λx hx S w' cs hw=>h x hx S w' cs (hs.trans hw)
theorem WM{q:Tree->Bool}{xs:List Tree}{j:Nat}(h:j<xs.length)(hn:(xs.take j).any q=false)(hq:q xs[j]=false):(xs.take (j+1)).any q=false:=by
  rw[iQ h,List.any_append,hn];simp[hq]
def Ju(g:Nat)(q:Tree->Bool)(x:Tree):Prop:=∀S w0 cs,Rep S w0 (Hb x) cs->Co x->Gl w0->Calls prog 79 #[.agg cs.toArray,.func (.func g) #[] #[]] w0 (Pc λv w'=>v=.bool (Qd q x)/\Same [] w0 w')
theorem VE(xs:List Tree)(q:Tree->Bool)(bb:Nat)(B:Option Addr)(e:Nat)(S:Nat->Prop)(w0:World)(hX:Rep S w0 (.slice (Td xs)) [.slice B xs.length e])(hq:EachC w0 bb xs q):Calls prog 172 #[.slice B xs.length e,.func (.func 123) #[] #[V bb]] w0 (Pc λv w'=>∃n:Int,v=J n/\decide (0<=n)=xs.any q/\Same [] w0 w'):=by
 have hXl:=hX.slice_len;refine Ea func172 O ntmps172 Db (Lc _ _) ?_;have hF:=FR.start w0 [];refine Da (Aa (Kb O) (Ca (Fa (Da (Aa (Xd O) (Aa (Ug yZ O) (Aa (Gb O) (Ca (Va ?_)))))))));refine Sc (λμ σ w=>∃(j:Nat),μ=xs.length-j/\(j<=xs.length)/\((xs.take j).any q=false)/\AllEq σ [(0,.slice B xs.length e),(1,.func (.func 123) #[] #[.pointer (some (⟨bb,0,none⟩))]),(7,J ((xs.length:Nat))),(8,J ((j:Int)))]/\FR w0 [] [] w) _ ⟨0,O,(Nat.zero_le _),La,Lr,hF⟩ ?_;rintro μ σ w ⟨j,rfl,hj,hn,hs,hF⟩;refine Cg.slots hs ?_;clear hs;intro σ;refine Da (Aa (Vl O O) (Ca (Fa ?_)));refine Pb O O (λhc0=>?_) (λhc0=>?_);refine Na (Ga (Fa (Va (Da (Aa (Gb O) (Aa (Kb O) (Qb (Aa (Mr) (Aa (Xd O) ?_)))))))));refine Aa (Gb O) ?_;obtain⟨ad0,cs0,hA0,hl0,hk0,hx0⟩:=hX.tree_elem (i:=j) Ba;have ho0:=hx0.one_;refine Ja (v:=.pointer (some (ad0.add (j*4)))) (Sa (i:=(j:Int)) Ng O hA0 O Ba Ba) (Ja (v:=.agg (List.toArray cs0)) (Xa (l:=cs0) aZ mZ O hl0 (hF.cells0 hk0)) ?_);refine Oa hF (hq _ (List.getElem_mem (l:=xs) (n:=j) Ba) _ _ _ hF.same (hF.rep hx0)) (Hn O en_123 O O) ?_;intro w hF;refine Ca (Ge O O (λhc1=>?_) (λhc1=>?_));refine Da (Aa (Gb O) (Aa (Kb O) (Ca ?_)));refine Hc (v:=J ((j:Int))) O O ?_;exact⟨_,O,by rw[List.any_eq_true.2 ⟨_,List.getElem_mem (l:=xs) (n:=j) Ba,hc1⟩];simp,hF.same⟩;refine Na (Cb (Ga (Ha (Aa (Ql O O) (Aa (Gb O) (Ua ?_))))));refine Xb ⟨_,?_,j+1,O,Ba,(WM Ba hn hc1),Lr,hF⟩;omega;refine Kc (Ec O ?_);refine Ga (Da (Aa (Kb O) (Ca ?_)));refine Hc (v:=J ((-1))) O O ?_;have eT:xs.take j=xs:=List.take_of_length_le Ba;rw[eT]at hn;exact⟨_,O,by rw[hn];decide,hF.same⟩
theorem Es(xs:List Tree)(q:Tree->Bool)(bb:Nat)(B:Option Addr)(e:Nat)(S:Nat->Prop)(w0:World)(hX:Rep S w0 (.slice (Td xs)) [.slice B xs.length e])(hq:EachC w0 bb xs q):Calls prog 122 #[.slice B xs.length e,.func (.func 123) #[] #[V bb]] w0 (Pc λv w'=>v=.bool (xs.any q)/\Same [] w0 w'):=by
 refine Ea func122 O ntmps122 Db (Lc _ _) ?_;have hF:=FR.start w0 [];refine Da (Aa (Jb O) (Qb (Aa (Xd O) (Aa (Mr) ?_))));refine Ya (VE xs q bb B e S _ (hF.rep hX) (hq.ext hF.same)) (Ra en_172 O O O) ?_;rintro _ w ⟨n,rfl,hn,hE⟩;have hF:=hF.ext hE;refine Aa (E6 O O) (Aa (Jb O) (Ca ?_));refine Hc (v:=.bool _) O O ?_;exact⟨congrArg Value.bool hn,hF.same⟩
theorem L5(g:Nat)(q:Tree->Bool)(x:Tree)(h:Ju g q x)(bb:Nat)(S:Nat->Prop)(w0:World)(cs:List Value)(hR:Rep S w0 (Hb x) cs)(hk:Co x)(hG:Gl w0)(hb:w0.cell? ⟨bb,0,none⟩=some (.func (.func g) #[] #[])):Calls prog 123 #[.agg cs.toArray,V bb] w0 (Pc λv w'=>v=.bool (!Qd q x)/\Same [] w0 w'):=by
 have hl:cs.length=4:=hR.length.trans (Nc x);have ho:=hR.one_;refine Ea func123 O ntmps123 Db (Lc _ _) ?_;have hF:=FR.start w0 [];refine Da (Hm (v:=.agg (List.toArray cs)) (cs:=(List.toArray cs)) hF O O ?_);rintro b1 w hb1 hF -;refine Aa (Jb O) (Qb (Ja (v:=.agg (List.toArray cs)) (Xa (l:=cs) aZ mZ O hl (hF.cellsAll 0 O)) (Ja (v:=.func (.func g) #[] #[]) (Ed isAgg75 O (hF.cell0 hb)) ?_)));refine Oa hF (h S _ cs (hF.rep hR) hk (hG.ext hF.same)) (Ra OQ O O O) ?_;intro w hF;refine Aa (Nh O) (Aa (Jb O) (Ca ?_));refine Hc (v:=.bool _) O O ?_;exact⟨O,hF.same⟩
theorem X7(q:Tree->Bool)(hp:Q7 104 q)(k:Int)(t:Str)(ks:List Str)(xs:List Tree)(ih:∀x,x∈xs->Ju 104 q x):Ju 104 q (.node k t ks xs):=by
 intro S w0 cs hR hk hG;have hk':=hk;rw[Co]at hk';obtain⟨A,c,B,e,rfl,-,-,hK,hX⟩:=hR.tree_inv;refine Ea func79 O ntmps79 Db (Lc _ _) ?_;have hF:=FR.start w0 [];refine Da (Je hF O ?_);rintro b1 w hb1 hF -;refine TA (.func (.func 104) #[] #[]) hF O ?_;rintro b2 w hb2 hF -;refine Aa (Jb O) (Qb (Tb (ylu isAgg75 O hF.F 0 O O) (Tb (Ie aZ mZ O hF.F 1 O O) ?_)));refine Oa hF (hp (.node k t ks xs) S _ _ (hF.rep hR) hk (hG.ext hF.same)) (Hn O en_104 O O) ?_;intro w hF;refine Aa (Dc O) (Rc (d:=8) O (λhg0=>?_) (λhg0=>?_));refine Aa (Ob Ub O) (Tb (Ef zQ O hF.F 1 O O) (Ja (v:=.func (.func 123) #[] #[V b2]) (Cj O) ?_));refine Oa hF (Es xs (λx=>!Qd q x) b2 B e S _ (hF.rep hX) (λx hx S' w' cs' hs hr=>L5 104 q x (ih x hx) b2 S' w' cs' hr (Rj hk'.2.2 x hx) ((hG.ext hF.same).ext hs) (hs.cell (hF.cell 0 O O)))) (Ra ER O O O) ?_;intro w hF;refine Aa (Nh O) (Aa (Yb O O) (Aa (Jb O) (Ca ?_)));refine Hc (v:=.bool _) O O ⟨?_,hF.same⟩;rw[Qd,Zo];simp_all;refine Ia (Ia (Ia (Ia (Ia (Aa (Bc O O) (Aa (Jb O) (Ca ?_)))))));refine Hc (v:=.bool false) O O ⟨?_,hF.same⟩;rw[Qd,Zo];simp_all
theorem BN(q:Tree->Bool)(hp:Q7 104 q)(x:Tree):Ju 104 q x:=Tree.ind (X7 q hp) x
theorem T9(q:Tree->Bool)(hp:Q7 80 q)(k:Int)(t:Str)(ks:List Str)(xs:List Tree)(ih:∀x,x∈xs->Ju 80 q x):Ju 80 q (.node k t ks xs):=by
 intro S w0 cs hR hk hG;have hk':=hk;rw[Co]at hk';obtain⟨A,c,B,e,rfl,-,-,hK,hX⟩:=hR.tree_inv;refine Ea func79 O ntmps79 Db (Lc _ _) ?_;have hF:=FR.start w0 [];refine Da (Je hF O ?_);rintro b1 w hb1 hF -;refine TA (.func (.func 80) #[] #[]) hF O ?_;rintro b2 w hb2 hF -;refine Aa (Jb O) (Qb (Tb (ylu isAgg75 O hF.F 0 O O) (Tb (Ie aZ mZ O hF.F 1 O O) ?_)));refine Oa hF (hp (.node k t ks xs) S _ _ (hF.rep hR) hk (hG.ext hF.same)) (Hn O en_80 O O) ?_;intro w hF;refine Aa (Dc O) (Rc (d:=8) O (λhg0=>?_) (λhg0=>?_));refine Aa (Ob Ub O) (Tb (Ef zQ O hF.F 1 O O) (Ja (v:=.func (.func 123) #[] #[V b2]) (Cj O) ?_));refine Oa hF (Es xs (λx=>!Qd q x) b2 B e S _ (hF.rep hX) (λx hx S' w' cs' hs hr=>L5 80 q x (ih x hx) b2 S' w' cs' hr (Rj hk'.2.2 x hx) ((hG.ext hF.same).ext hs) (hs.cell (hF.cell 0 O O)))) (Ra ER O O O) ?_;intro w hF;refine Aa (Nh O) (Aa (Yb O O) (Aa (Jb O) (Ca ?_)));refine Hc (v:=.bool _) O O ⟨?_,hF.same⟩;rw[Qd,Zo];simp_all;refine Ia (Ia (Ia (Ia (Ia (Aa (Bc O O) (Aa (Jb O) (Ca ?_)))))));refine Hc (v:=.bool false) O O ⟨?_,hF.same⟩;rw[Qd,Zo];simp_all
theorem VM(q:Tree->Bool)(hp:Q7 80 q)(x:Tree):Ju 80 q x:=Tree.ind (T9 q hp) x
def rnodeB(x:Tree):Bool:=decide (x.kind≠7)&&nodeB x
def Xq(x:Tree):Bool:=decide (Mb x<=4096)&&decide (Gd x<=32)
def Lg(x:Tree):Bool:=Xq x&&Qd nodeB x
def If(x:Tree):Bool:=Xq x&&Qd rnodeB x
theorem YT{n:Nat}(h:n<=1000000000):wr (n:Int)=(n:Int):=Um Ba Ba
theorem EY  : Q7 104 rnodeB:=by
 rintro⟨k,t,ks,xs⟩ S w0 cs hR hk hG;obtain⟨A,c,B,e,rfl,-,-,hK,hX⟩:=hR.tree_inv;refine Ea func104 O ntmps104 Db (Rb _) ?_;have hF:=FR.start w0 [];refine Da (Je hF O ?_);rintro b1 w hb1 hF -;refine Aa (Jb O) (Qb (Aa (Ob Se O) (Tb (Yi dZ O hF.F 0 O O) (Aa (Om O O) (Aa (Dc O) ?_)))));refine Wb (d:=6) O (λhg0=>?_) (λhg0=>?_);refine Tb (Ie aZ mZ O hF.F 0 O O) (Oa hF (DV (.node k t ks xs) S _ _ (hF.rep hR) hk (hG.ext hF.same)) (Ma en_80 O O) ?_);intro w hF;refine Aa (Yb O O) (Aa (Jb O) (Ca ?_));refine Hc (v:=.bool _) O O ⟨?_,hF.same⟩;simp_all[rnodeB,Tree.kind];refine Ia (Ia (Aa (Bc O O) (Aa (Jb O) (Ca ?_))));refine Hc (v:=.bool false) O O ⟨?_,hF.same⟩;simp_all[rnodeB,Tree.kind]
theorem size_v(x:Tree)(hsz:Mb x<=1000000000)(S:Nat->Prop)(w0:World)(cs:List Value)(hR:Rep S w0 (Hb x) cs):Calls prog 120 #[.agg cs.toArray] w0 (Pc λv w'=>v=J (Mb x:Nat)/\Same [] w0 w'):=by
  have h:=size_c x S w0 cs hR
  rwa [YT hsz]at h
theorem HL(x:Tree)(hsz:Mb x<=1000000000)(S:Nat->Prop)(w0:World)(cs:List Value)(hR:Rep S w0 (Hb x) cs):Calls prog 78 #[.agg cs.toArray] w0 (Pc λv w'=>v=.bool (Xq x)/\Same [] w0 w'):=by
 have hl:cs.length=4:=hR.length.trans (Nc x);have ho:=hR.one_;refine Ea func78 O ntmps78 Db (Rb _) ?_;have hF:=FR.start w0 [];refine Da (Hm (v:=.agg (List.toArray cs)) (cs:=(List.toArray cs)) hF O O ?_);rintro b1 w hb1 hF -;refine Aa (Jb O) (Qb (Ja (v:=.agg (List.toArray cs)) (Xa (l:=cs) aZ mZ O hl (hF.cellsAll 0 O)) ?_));refine Oa hF (size_v x hsz S _ cs (hF.rep hR)) (Ma QP O O) ?_;intro w hF;refine Aa (QV O O) (Aa (Dc O) ?_);refine Wb (d:=6) O (λhg0=>?_) (λhg0=>?_);refine Ja (v:=.agg (List.toArray cs)) (Xa (l:=cs) aZ mZ O hl (hF.cellsAll 0 O)) (Oa hF (LW x hsz S _ cs (hF.rep hR)) (Ma LR O O) ?_);intro w hF;refine Aa (QV O O) (Aa (Yb O O) (Aa (Jb O) (Ca ?_)));refine Hc (v:=.bool _) O O ⟨congrArg Value.bool ?_,hF.same⟩;unfold Xq
 first|(rw[decide_eq_true (by omega:Mb x<=4096)];exact decide_eq_decide.2 Ba)|(rw[decide_eq_false (by omega:¬Mb x<=4096)];rfl)
 refine Ia (Ia (Ia (Aa (Bc O O) (Aa (Jb O) (Ca ?_)))));refine Hc (v:=.bool false) O O ⟨congrArg Value.bool ?_,hF.same⟩;unfold Xq
 first|(rw[decide_eq_true (by omega:Mb x<=4096)];exact decide_eq_decide.2 Ba)|(rw[decide_eq_false (by omega:¬Mb x<=4096)];rfl)
theorem E0(x:Tree)(hsz:Mb x<=1000000000)(S:Nat->Prop)(w0:World)(cs:List Value)(hR:Rep S w0 (Hb x) cs)(hk:Co x)(hG:Gl w0):Calls prog 62 #[.agg cs.toArray] w0 (Pc λv w'=>v=.bool (If x)/\Same [] w0 w'):=by
 have hl:cs.length=4:=hR.length.trans (Nc x);have ho:=hR.one_;refine Ea func62 O ntmps62 Db (Rb _) ?_;have hF:=FR.start w0 [];refine Da (Hm (v:=.agg (List.toArray cs)) (cs:=(List.toArray cs)) hF O O ?_);rintro b1 w hb1 hF -;refine Aa (Jb O) (Qb (Ja (v:=.agg (List.toArray cs)) (Xa (l:=cs) aZ mZ O hl (hF.cellsAll 0 O)) ?_));refine Oa hF (HL x hsz S _ cs (hF.rep hR)) (Ma en_78 O O) ?_;intro w hF;refine Aa (Dc O) (Rc (d:=5) O (λhg0=>?_) (λhg0=>?_));refine Ja (v:=.agg (List.toArray cs)) (Xa (l:=cs) aZ mZ O hl (hF.cellsAll 0 O)) (Oa hF (BN rnodeB EY x S _ cs (hF.rep hR) hk (hG.ext hF.same)) (Ra OQ O O O) ?_);intro w hF;refine Aa (Yb O O) (Aa (Jb O) (Ca ?_));refine Hc (v:=.bool _) O O ?_;exact⟨congrArg Value.bool (by unfold If;simp_all),hF.same⟩;refine Ia (Ia (Aa (Bc O O) (Aa (Jb O) (Ca ?_))));refine Hc (v:=.bool false) O O ?_;exact⟨congrArg Value.bool (by unfold If;simp_all),hF.same⟩
theorem N1(x:Tree)(hsz:Mb x<=1000000000)(S:Nat->Prop)(w0:World)(cs:List Value)(hR:Rep S w0 (Hb x) cs)(hk:Co x)(hG:Gl w0):Calls prog 51 #[.agg cs.toArray] w0 (Pc λv w'=>v=.bool (Lg x)/\Same [] w0 w'):=by
 have hl:cs.length=4:=hR.length.trans (Nc x);have ho:=hR.one_;refine Ea func51 O ntmps51 Db (Rb _) ?_;have hF:=FR.start w0 [];refine Da (Hm (v:=.agg (List.toArray cs)) (cs:=(List.toArray cs)) hF O O ?_);rintro b1 w hb1 hF -;refine Aa (Jb O) (Qb (Ja (v:=.agg (List.toArray cs)) (Xa (l:=cs) aZ mZ O hl (hF.cellsAll 0 O)) ?_));refine Oa hF (HL x hsz S _ cs (hF.rep hR)) (Ma en_78 O O) ?_;intro w hF;refine Aa (Dc O) (Rc (d:=5) O (λhg0=>?_) (λhg0=>?_));refine Ja (v:=.agg (List.toArray cs)) (Xa (l:=cs) aZ mZ O hl (hF.cellsAll 0 O)) (Oa hF (VM nodeB DV x S _ cs (hF.rep hR) hk (hG.ext hF.same)) (Ra OQ O O O) ?_);intro w hF;refine Aa (Yb O O) (Aa (Jb O) (Ca ?_));refine Hc (v:=.bool _) O O ?_;exact⟨congrArg Value.bool (by unfold Lg;simp_all),hF.same⟩;refine Ia (Ia (Aa (Bc O O) (Aa (Jb O) (Ca ?_))));refine Hc (v:=.bool false) O O ?_;exact⟨congrArg Value.bool (by unfold Lg;simp_all),hF.same⟩
end Go.Scarf
