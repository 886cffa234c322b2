/- A part of the proof. -/
import Derived.Test.YtgkmigdopohcnaaGreatDoorW2
import Derived.Test.YtgkmigdopohcnaaGreatDoorShelf2
import Derived.Lib.ValidLaws
import Derived.Lib.TrimUEq
import Derived.Lib.MapLaws
set_option linter.all false
set_option maxHeartbeats 8000000
set_option maxRecDepth 10000
namespace Go.Scarf
open Go.RowKit Go.Proofs Go.Proofs.Tryz
def Xk(s:Str):Bool:=decide ((Oc s).2=0)&&decide (Qh (Oc s).1=s)
def WB(s:Str):Bool:=Xk s&&(B4 (Oc s).1).2&&decide (0<=(B4 (Oc s).1).1)
theorem M_(s:Str):Ie (Oc s).1=true:=by
  rw[Ml]
  repeat' split
  all_goals first|rfl|simp_all
theorem Wi(s:Str):(Oc s).1.digits.length<=1000:=(Gd (M_ s)).1
theorem Jk(s:Str)(q:Nat):Lib.decodeL (s.drop q)=Utf8.decode (bs s) q:=Lib.decodeL_drop (bs s) q
theorem Xf(s:Str)(q:Nat):1<=(Utf8.decode (bs s) q).2:=by rw[<-Jk];exact Lib.decodeL_width _
theorem G4(s:Str)(q:Nat)(h:q<s.length):q+(Utf8.decode (bs s) q).2<=s.length:=by
  have:=Lib.decodeL_le (s.drop q) (by rw[ne_eq,List.drop_eq_nil_iff];omega);rw[Jk,List.length_drop]at this;omega
theorem Y2(s:Str)(q:Nat)(h:q<s.length)(hv:Lib.validD (s.drop q)=false)(hn:¬((Utf8.decode (bs s) q).1=65533/\(Utf8.decode (bs s) q).2=1)):Lib.validD (s.drop (q+(Utf8.decode (bs s) q).2))=false:=by
  rw[Lib.validD_step _ (by rw[ne_eq,List.drop_eq_nil_iff];omega),Jk,if_neg hn,List.drop_drop]at hv;exact hv
theorem Yt(s:Str)(q:Nat)(h:q<s.length):Lib.decodeGo (bs (s.drop q))=Utf8.decode (bs s) q:=by
  have h1:(bs (s.drop q)).size≠0:=by rw[Pm,List.length_drop];omega
  rw[Lib.decodeGo,if_neg h1];exact Jk s q
theorem V4(s:Str)(hl:s.length<=140737488355328){w:World}(hG:Gl w):Calls prog 102 #[I s] w (Pc λv w'=>v=.bool (Lib.validD s)/\Same [] w w') :=
  Ht (utf8_ValidString (bs s) w (by rw[Pm];omega) hG.tabs)
theorem Ex(s:Str){w:World}(hG:Gl w):Calls prog 103 #[I s] w (Pc λv w'=>v=.tuple #[.int .i32 (Lib.decodeGo (bs s)).1,J (Lib.decodeGo (bs s)).2]/\Same [] w w') :=
  Ht (utf8_DecodeRuneInString (bs s) w hG.tabs)
theorem D8(s:Str)(hl:s.length<=140737488355328)(w0:World)(hG:Gl w0):Calls prog 60 #[I s] w0 (Pc λv w'=>∃n,v=.tuple #[J n,.bool (Lib.validD s)]/\Same [] w0 w'):=by
  refine Ea func60 O ntmps60 Db (Rb _) ?_;have hF:=FR.start w0 [];refine Fa (Ha ?_);refine Aa (Lb O) (Aa (Jb O) ?_);refine Ua (Ga ?_);refine Fa (Fa ?_);refine Ha (Aa (Md O) ?_);refine Oa hF (V4 s hl (hG.ext hF.same)) (Ma en_102 O O) ?_;intro w hF;refine Ua (Ga ?_);refine Fe O O (λhc0=>?_) (λhc0=>?_)
  ·
   refine Fa (Ha ?_);refine Aa (Md O) (Aa (Qr iX O) ?_);refine Aa (Lb O) (Aa (Jb O) ?_);refine Ua (Ga ?_);refine Ab (Za (Ka (Vc (v:=J ((((s):Str).length:Int))) (x:=.bool true) O O O) ?_));exact⟨_,by rw[hc0],hF.same⟩
  refine Na (Ga ?_);refine Fa (Fa ?_);refine Ha (Aa (Md O) ?_);refine Wv (str:=s) hF iX O ?_;intro b1 w hb1 hF hE;refine Ua (Ga ?_);refine Va (Tc (λμ σ w=>∃(q:Nat),μ=s.length-q/\(q<=s.length)/\(Lib.validD (s.drop q)=false)/\AllEq σ [(0,I s),(13,V b1)]/\FR w0 [] [(b1,.stringIter (bs s) (q))] w) _ ⟨0,O,(Nat.zero_le _),(by simpa using hc0),UB,hF⟩ ?_);rintro μ σ w ⟨q,rfl,hq,hv,hs,hF⟩;refine Cg.slots hs ?_;clear hs;intro σ;refine Fa (Ha ?_);by_cases hn0:(q)<(s:Str).length
  ·
   refine Yz 0 (p:=q) (str:=s) hF O O hn0 ?_;intro w hF hE;refine Aa (Jl O O) (Ua ?_);refine Ga (Fa ?_);refine Fd O (Na ?_);refine Ga (Va ?_);refine Fa (Ha ?_);refine Aa (Gj O O) (Aa (Gj O O) ?_);refine Aa (Lb O) (Aa (Lb O) ?_);refine Ua (Ga ?_);refine Fa (Fa ?_);refine Ha (Aa (Gb O) ?_);refine Aa (Om O O) (Ua ?_);refine Ga (Pb O O (λhc2=>?_) (λhc2=>?_))
   ·
    refine Kc (Ec O ?_);have h1:=Xf s q;have hw:¬((Utf8.decode (bs s) q).1=65533/\(Utf8.decode (bs s) q).2=1):=by
      first
      | (intro hh;omega)
      | (rw[Yt s q Ba]at hc3;intro hh;omega)
    refine Xb ⟨_,?_,q+(Utf8.decode (bs s) q).2,O,(G4 s q Ba),(Y2 s q Ba hv hw),UB,hF⟩;omega
   refine Na (Ga ?_);refine Fa (Ha ?_);refine Aa (Md O) (Aa (Gb O) ?_);refine Ja (v:=I ((s:Str).drop (q))) (Dv (q) iX O O Ba) (Oa hF (Ex (s.drop q) (hG.ext hF.same)) (Ma KP O O) ?_);intro w hF;refine Aa (Ri O) (Aa (Gj O O) ?_);refine Aa (Gj O O) (Aa (Lb O) ?_);refine Aa (Lb O) (Ua ?_);refine Ga (Fa ?_);refine Ha (Aa (Gb O) ?_);refine Aa (Yh O O) (Ua ?_);refine Ga (Pb O O (λhc3=>?_) (λhc3=>?_))
   ·
    refine Fa (Ha ?_);refine Aa (Gb O) (Aa (Lb O) ?_);refine Aa (Jb O) (Ua ?_);refine Ga (Ab (Za (Ka (Vc (v:=J (((q:Nat):Int))) (x:=.bool false) O O O) ?_)));exact⟨_,by rw[hc0],hF.same⟩
   refine Na (Cb ?_);have h1:=Xf s q;have hw:¬((Utf8.decode (bs s) q).1=65533/\(Utf8.decode (bs s) q).2=1):=by
     first
     | (intro hh;omega)
     | (rw[Yt s q Ba]at hc3;intro hh;omega)
   refine Xb ⟨_,?_,q+(Utf8.decode (bs s) q).2,O,(G4 s q Ba),(Y2 s q Ba hv hw),UB,hF⟩;omega
  refine Lq 0 (p:=q) (str:=s) hF O O hn0 (Aa (Jl O O) ?_);refine Ua (Ga ?_);refine Fa (We O ?_);refine Kc (Ec O ?_);refine Ga (Fa ?_);refine Ha (Aa (Md O) ?_);refine Aa (Qr iX O) (Aa (Lb O) ?_);refine Aa (Jb O) (Ua ?_);refine Ga (Ab (Za (Ka (Vc (v:=J ((((s):Str).length:Int))) (x:=.bool true) O O O) ?_)));have e:s.drop q=[]:=List.drop_eq_nil_of_le Ba;rw[e]at hv;cases hv
theorem VI(s:Str)(hl:s.length<=140737488355328)(w0:World)(hG:Gl w0):Calls prog 125 #[I s] w0 (Pc λv w'=>v=.bool (Lib.validD s)/\Same [] w0 w'):=by
 refine Ea func125 O ntmps125 Db (Rb _) ?_;have hF:=FR.start w0 [];refine Da (Aa (Jb O) (Qb (Aa (Md O) ?_)));refine Ya (D8 s hl _ (hG.ext hF.same)) (Ma FU O O) ?_;rintro _ w ⟨n,rfl,hE⟩;have hF:=hF.ext hE;refine Aa (Ri O) (Aa (Gj O O) (Aa (Jl O O) (Aa (Lb O) (Aa (Jb O) (Qb (Aa (Dc O) (Aa (Jb O) (Ca ?_))))))));refine Hc (v:=.bool _) O O ?_;exact⟨O,hF.same⟩
theorem Qt(s:Str)(hl:s.length<=140737488355328)(w0:World)(hG:Gl w0):Calls prog 81 #[I s] w0 (Pc λv w'=>v=.tuple #[Lm (Oc s).1,.bool (Xk s)]/\Same [] w0 w'):=by
 refine Ea func81 O ntmps81 Db (Rb _) ?_;have hF:=FR.start w0 [];refine Da (Jc (cs:=#[.bool false,I [],J 0]) hF pX O ?_);rintro b1 w hb1 hF -;refine Aa (Jb O) (Qb (Aa (Md O) ?_));refine Oa hF (Zv s hl _) (Ma IA O O) ?_;intro w hF;refine Aa (Ri O) (Aa (Dq O O) (Aa (Gj O O) ?_));refine Ye hF pX qZ O ?_;rintro b2 w hb2 hF -;refine Aa (Lb O) (Ca (Fa ?_));refine Ld (.of []) (bQ [0,1,2,3,4,6] (.act 5 (.free 7 (.free 8 (.act 9 (.free 10 .nil)))))) hF ?_;rintro w hF -;refine⟨λwq=>FR w0 [] [(b2,.cells #[.bool ((Oc s).1.neg),I ((Oc s).1.digits),J ((Oc s).1.exp)] 86)] wq,hF.sub (.cons_cons _ (.cons _ .slnil)),?_⟩;refine Sf O (He gZ qZ O C0 0 O O) (Fb O (Gb O) (Fb O (Yh O O) (Fb O (Dc O) ?_)));refine Qk (d:=14) O (λhg0=>?_) (λhg0=>?_);refine Sf O (He gZ qZ O C0 0 O O) (Fb O (Md O) ?_);refine Sc hF (Y8 (Oc s).1 (by have:=Wi s;omega) _ (hG.ext hF.same)) O (Ma OK O O) ?_;intro w hF;refine⟨hF.sub (.cons_cons _ (.cons _ .slnil)),?_⟩;refine Fb O (L4 O O) (Fb O (Yb O O) ?_);refine Wm O hF qZ O O Mr ?_;rintro w hF -;refine⟨hF.sub (.cons_cons _ (.cons _ .slnil)),?_⟩;refine Fb O (Jb O) (Ac (Ga ?_));refine Ab (Za (Ka (Ic O (l:=[.bool ((Oc s).1.neg),I ((Oc s).1.digits),J ((Oc s).1.exp)]) O gZ qZ O (hF.cellsAll 1 O) (v:=.bool (decide ((Qh (Oc s).1:Str)=s))) O) ?_));exact⟨by simp_all[Xk,Lm],hF.same⟩;refine Kd O (Kd O ?_);refine FQ O ?_ (hF.sub (.cons_cons _ (.cons _ .slnil)));refine Kd O (Fb O (Bc O O) ?_);refine Wm O hF qZ O O Mr ?_;rintro w hF -;refine⟨hF.sub (.cons_cons _ (.cons _ .slnil)),?_⟩;refine Fb O (Jb O) (Ac (Ga ?_));refine Ab (Za (Ka (Ic O (l:=[.bool ((Oc s).1.neg),I ((Oc s).1.digits),J ((Oc s).1.exp)]) O gZ qZ O (hF.cellsAll 1 O) (v:=.bool false) O) ?_));exact⟨by simp_all[Xk,Lm],hF.same⟩
theorem hole_c(s:Str)(hl:s.length<=140737488355328)(w0:World)(hG:Gl w0):Calls prog 126 #[I s] w0 (Pc λv w'=>v=.bool (WB s)/\Same [] w0 w'):=by
 refine Ea func126 O ntmps126 Db (Rb _) ?_;have hF:=FR.start w0 [];refine Da (Aa (Jb O) (Qb (Aa (Md O) ?_)));refine Oa hF (Qt s hl _ (hG.ext hF.same)) (Ma NJ O O) ?_;intro w hF;refine Aa (Ri O) (Aa (Dq O O) (Aa (Jl O O) ?_));refine Ye hF pX qZ O ?_;rintro b1 w hb1 hF -;refine Aa (Jb O) (Qb (Tb (He gZ qZ O hF.F 0 O O) ?_));refine Oa hF (XC (Oc s).1 (by have:=Wi s;omega) _ (hG.ext hF.same)) (Ma FV O O) ?_;intro w hF;refine Aa (Ri O) (Aa (Gj O O) (Aa (Jl O O) (Aa (Lb O) (Aa (Jb O) (Qb (Aa (Dc O) (Aa (Dc O) ?_)))))));refine Rc (d:=18) O (λhg0=>?_) (λhg0=>?_);refine Aa (Dc O) (Aa (Yb O O) (Aa (Dc O) ?_));refine Rc (d:=21) O (λhg1=>?_) (λhg1=>?_);refine Aa (Gb O) (Aa (T6 O O) (Aa (Yb O O) (Aa (Jb O) (Ca ?_))));refine Hc (v:=.bool _) O O ?_;exact⟨by simp_all[WB],hF.same⟩;refine Ia (Ia (Aa (Bc O O) (Aa (Jb O) (Ca ?_))));refine Hc (v:=.bool false) O O ?_;exact⟨by simp_all[WB],hF.same⟩;refine Ia (Aa (Bc O O) (Aa (Dc O) (Ia (Ia (Aa (Bc O O) (Aa (Jb O) (Ca ?_)))))));refine Hc (v:=.bool false) O O ?_;exact⟨by simp_all[WB],hF.same⟩
def Qn(ks:List Str)(n:Int):Bool:=decide ks.Nodup&&ks.all Lib.validD&&decide ((ks.length:Int)=n)
def Uw(ks:List Str):MapL:=ks.map λk=>(k,.bool true)
theorem Z0(ks:List Str)(k:Str):Yf (Uw ks) k=if k∈ks then some (.bool true) else none:=by
  induction ks with
  | nil=>rfl
  | cons a r ih =>
    have e:Uw (a::r)=[(a,.bool true)]++Uw r:=rfl;rw[e,U9,ih];by_cases h:a=k
    ·subst h;simp[Yf]
    have h' : ¬ k = a := λe => h e.symm;simp[Yf,h,h']
theorem FF(ks:List Str)(j:Nat)(h:j<ks.length):Uw (ks.take j)++[(ks[j],.bool true)]=Uw (ks.take (j+1)):=by
  unfold Uw;rw[iQ h,jQ];rfl
theorem Mz{ks:List Str}{j:Nat}(h:j<ks.length)(hn:(ks.take j).Nodup)(hi:¬ks[j]∈ks.take j):(ks.take (j+1)).Nodup:=by
  rw[iQ h,List.nodup_append];refine⟨hn,by simp,?_⟩;intro a ha b hb e;simp only[pQ]at hb;subst e;subst hb;exact hi ha
theorem Fx{ks:List Str}{j:Nat}(h:j<ks.length)(hi:ks[j]∈ks.take j):¬ks.Nodup:=by
  intro hn;obtain⟨i,hi',he⟩:=List.getElem_of_mem hi;rw[List.getElem_take]at he;have hi2:i<j:=by rw[List.length_take]at hi';omega
  have:=(List.pairwise_iff_getElem.1 hn) i j Ba h hi2;exact this he
theorem Y4{f:Str->Bool}{ks:List Str}{j:Nat}(h:j<ks.length)(ha:(ks.take j).all f=true)(hv:f ks[j]=true):(ks.take (j+1)).all f=true:=by
  rw[iQ h,List.all_append,ha];simp[hv]
theorem NW{f:Str->Bool}{ks:List Str}{j:Nat}(h:j<ks.length)(hv:f ks[j]=false):ks.all f=false:=by
  rw[Bool.eq_false_iff];intro ha;have:=List.all_eq_true.1 ha ks[j] (eQ h);rw[hv]at this;cases this
theorem HX(ks:List Str)(n:Int)(S:Nat->Prop)(A:Option Addr)(c:Nat)(hl:∀k∈ks,k.length<=140737488355328)(w0:World)(hG:Gl w0)(hX:Rep S w0 (Lh ks) [.slice A ks.length c]):Calls prog 124 #[.slice A ks.length c,J n] w0 (Pc λv w'=>v=.bool (Qn ks n)/\Same [] w0 w'):=by
 have hXl:=hX.slice_len;refine Ea func124 O ntmps124 Db (Lc _ _) ?_;have hF:=FR.start w0 [];refine Da (Aa (Jb O) (Qb (Aa (Wd O) (Aa (Ug xZ O) ?_))));refine Ax (v:=λb=>.map (some b)) hF (E6 underlying191 O) ?_;rintro b1 w hb1 hF -;refine Aa (Px) (Ca (Fa (Da (Aa (Wd O) (Aa (Ug xZ O) (Aa (Gb O) (Ca (Va ?_))))))));have hF:FR w0 [] [(b1,Xg (Uw (ks.take 0)))] w:=hF;refine Tc (λμ σ w=>∃(j:Nat),μ=ks.length-j/\(j<=ks.length)/\((ks.take j).Nodup)/\((ks.take j).all Lib.validD=true)/\AllEq σ [(0,.slice A ks.length c),(1,J n),(5,.map (some b1)),(11,.slice A ks.length c),(12,J ((ks.length:Nat))),(13,J ((j:Int)))]/\FR w0 [] [(b1,Xg (Uw (ks.take j)))] w) _ ⟨0,O,(Nat.zero_le _),La,La,U_,hF⟩ ?_;rintro μ σ w ⟨j,rfl,hj,hd,hv,hs,hF⟩;refine Cg.slots hs ?_;clear hs;intro σ;refine Da (Aa (Sl O O) (Ca (Fa ?_)));refine Pb O O (λhc0=>?_) (λhc0=>?_);refine Na (Ga (Fa (Va (Da ?_))));obtain⟨ad0,hA0,hk0,hx0⟩:=hX.str_elem (i:=j) Ba;refine Ja (v:=.pointer (some (ad0.add (j*1)))) (Sa (i:=(j:Int)) Wt O hA0 O Ba Ba) (Ja (v:=I (ks[j])) (Ad iZ O (hF.cell0 hk0)) (Aa (Rf O) (Ca (Fa (Da (Aa (Pr) (Aa (Md O) ?_)))))));refine Ja (v:=.bool (decide (ks[j]∈ks.take j))) (Ot underlying191 iX zeroValue4 O O (hF.heap (i:=0) O) (by rw[Z0];split <;> rename_i hh <;> simp only[hh,decide_true,decide_false] <;> rfl)) ?_;refine Aa (Dc O) (Wb (d:=20) O (λhg1=>?_) (λhg1=>?_));refine Ia (Ia (Ia (Aa (Yb O O) (Ca (Fd O (Da (Aa (Jb O) (Ca ?_))))))));refine Hc (v:=.bool false) O O ?_;have:=Fx (ks:=ks) (j:=j) Ba (by assumption);exact⟨congrArg Value.bool (by unfold Qn;rw[decide_eq_false this];rfl),hF.same⟩;refine Aa (Md O) (Oa hF (VI ks[j] (hl _ (eQ _)) _ (hG.ext hF.same)) (Ma IV O O) ?_);intro w hF;refine Aa (Oh O) (Aa (Bc O O) (Ca ?_));refine Fe O O (λhc1=>?_) (λhc1=>?_);refine Da (Aa (Jb O) (Ca ?_))
 refine Hc (v:=.bool false) O O ?_;have:=NW (f:=Lib.validD) (ks:=ks) (j:=j) Ba (by simpa using hc1);exact⟨congrArg Value.bool (by unfold Qn;rw[this,Bool.and_false];rfl),hF.same⟩;refine Na (Ga (Ha (Aa (Pr) (Aa (Md O) ?_))));refine Oy 0 (v:=.bool true) hF underlying191 iX O O O O (by rw[Z0,if_neg (by assumption)]) ?_;rintro w hF -;rw[FF ks j Ba]at hF;have hF:FR w0 [] [(b1,Xg (Uw (ks.take (j+1))))] w:=hF;refine Ua (Cb (Ga (Ha (Aa (Il O O) (Aa (Gb O) (Ua ?_))))));refine Xb ⟨_,?_,j+1,O,Ba,(Mz Ba hd (by assumption)),(Y4 Ba hv (by simpa using hc1)),U_,hF⟩;omega;refine Kc (Ec O ?_);refine Ga (Da (Aa (Wd O) (Aa (Ug xZ O) (Aa (Gb O) (Aa (Yh O O) (Aa (Jb O) (Ca ?_)))))));refine Hc (v:=.bool _) O O ?_;obtain rfl:j=ks.length:=by omega
 rw[List.take_length]at hd hv;exact⟨congrArg Value.bool (by unfold Qn;rw[hv,decide_eq_true hd];rfl),hF.same⟩
mutual
def Co:Tree->Prop|.node _ t ks xs=>t.length<=140737488355328/\(∀k∈ks,k.length<=140737488355328)/\Iz xs
def Iz:List Tree->Prop|[]=>True|x::xs=>Co x/\Iz xs
end
theorem Pj:∀{xs:List Tree},Iz xs->∀x∈xs,Co x
  | [],_,_,h=>absurd h La
  | y :: ys, h, x, hx => by
    rw[Iz]at h;rcases oQ.1 hx with rfl|hx
    ·exact h.1
    exact Pj h.2 x hx
def nodeB:Tree->Bool
  | .node k t ks xs =>
    if k=5 then decide (ks=[])&&decide (t=[]) else
    if k=6 then Qn ks xs.length&&decide (t=[]) else
    if ks≠[]\/xs≠[] then false else
    if k=1 then decide (t=[]) else
    if k=2 then decide (t=[116,114,117,101]) || decide (t=[102,97,108,115,101]) else
    if k=3 then Xk t else if k=4 then Lib.validD t else if k=7 then WB t else false
def F6(g:Nat)(q:Tree->Bool):Prop:=∀(x:Tree)(S:Nat->Prop)(w0:World)(cs:List Value),Rep S w0 (Hb x) cs->Co x->Gl w0->Calls prog g #[.agg cs.toArray] w0 (Pc λv w'=>v=.bool (q x)/\Same [] w0 w')
theorem XS  : F6 80 nodeB:=by
 rintro⟨k,t,ks,xs⟩ S w0 cs hR hk hG;obtain⟨A,c,B,e,rfl,-,-,hK,hX⟩:=hR.tree_inv;rw[Co]at hk;refine Ea func80 O ntmps80 Db (Rb _) ?_;have hF:=FR.start w0 [];refine Da (Le hF O ?_);rintro b1 w hb1 hF -;refine Aa (Jb O) (Ca (Fa ?_));refine Zc (zs:=.of []) (bQ [0,1,2,3,4,5,6,7,8,9] .nil) hF ?_;intro w hF;refine Fb O (Ob Zd O) (Sf O (Ff yQ O C0 0 O O) (Fb O (Ug xZ O) (Fb O (Gz O O) (Fb O (Ob Ub O) (Sf O (Ff zQ O C0 0 O O) (Fb O (Ug yZ O) (Fb O (Gz O O) (Fb O (Jb O) (Fb O (Jb O) (Ac (Ga (Fa (Fa ?_)))))))))))));refine Ha (Aa (Ob Se O) (Tb (Yi dZ O hF.F 0 O O) (Ca (Va (Da (Aa (Yh O O) (Aa (Jb O) (Ca ?_))))))));refine Pb O O (λhc0=>?_) (λhc0=>?_);refine Da (Aa (Dc O) (Aa (ynd O) (Aa (Dc O) ?_)));refine Wb (d:=21) O (λhg0=>?_) (λhg0=>?_);refine Aa (Ob Re O) (Tb (Rm iZ O hF.F 0 O O) (Aa (L4 O O) (Aa (Yb O O) (Aa (Jb O) (Ca ?_)))));refine Hc (v:=.bool _) O O ⟨?_,hF.same⟩;clear hF hR hK hX hb1;simp_all[nodeB,List.length_pos_iff];refine Ia (Ia (Ia (Aa (Bc O O) (Aa (Jb O) (Ca ?_)))));refine Hc (v:=.bool false) O O ⟨?_,hF.same⟩;clear hF hR hK hX hb1;simp_all[nodeB,List.length_pos_iff];refine Da (Aa (Yh O O) (Aa (Jb O) (Ca ?_)));refine Pb O O (λhc1=>?_) (λhc1=>?_);refine Da (Aa (Ob Zd O) (Tb (Ff yQ O hF.F 0 O O) (Aa (Ob Ub O) (Tb (Ff zQ O hF.F 0 O O) (Aa (Ug yZ O) ?_)))));refine Oa hF (HX ks (xs.length:Nat) S A c (by simpa using hk.2.1) _ (hG.ext hF.same) (hF.rep hK)) (Ra en_124 O O O) ?_;intro w hF;refine Aa (Dc O) (Rc (d:=34) O (λhg1=>?_) (λhg1=>?_));refine Aa (Ob Re O) (Tb (Rm iZ O hF.F 0 O O) (Aa (L4 O O) (Aa (Yb O O) (Aa (Jb O) (Ca ?_)))));refine Hc (v:=.bool _) O O ⟨?_,hF.same⟩;clear hF hR hK hX hb1;simp_all[nodeB,List.length_pos_iff];refine Ia (Ia (Ia (Aa (Bc O O) (Aa (Jb O) (Ca ?_)))));refine Hc (v:=.bool false) O O ⟨?_,hF.same⟩;clear hF hR hK hX hb1
 simp_all[nodeB,List.length_pos_iff];refine Na (Cb (Ga (Fa (Da (Aa (Dc O) (Aa (Dc O) ?_))))));refine Wb (d:=40) O (λhg2=>?_) (λhg2=>?_);refine Ia (Aa (Yb O O) (Ca (Fd O (Da (Aa (Jb O) (Ca ?_))))));refine Hc (v:=.bool false) O O ⟨?_,hF.same⟩;clear hF hR hK hX hb1;simp_all[nodeB,List.length_pos_iff];refine Aa (Dc O) (Aa (Bc O O) (Ca ?_));refine Pb O O (λhc2=>?_) (λhc2=>?_);refine Da (Aa (Jb O) (Ca ?_));refine Hc (v:=.bool false) O O ⟨?_,hF.same⟩;clear hF hR hK hX hb1;simp_all[nodeB,List.length_pos_iff];refine Na (Ga (Fa (Da (Aa (Ob Se O) (Tb (Yi dZ O hF.F 0 O O) (Ca (Va (Da (Aa (Yh O O) (Aa (Jb O) ?_))))))))));refine Ca (Pb O O (λhc3=>?_) (λhc3=>?_));refine Da (Aa (Ob Re O) (Tb (Rm iZ O hF.F 0 O O) (Aa (L4 O O) (Aa (Jb O) (Ca ?_)))));refine Hc (v:=.bool _) O O ⟨?_,hF.same⟩;clear hF hR hK hX hb1;simp_all[nodeB,List.length_pos_iff];refine Da (Aa (Yh O O) (Aa (Jb O) (Ca ?_)));refine Pb O O (λhc4=>?_) (λhc4=>?_);refine Da (Aa (Ob Re O) (Tb (Rm iZ O hF.F 0 O O) (Aa (L4 O O) (Aa (Dc O) ?_))));refine Wb (d:=55) O (λhg3=>?_) (λhg3=>?_);refine Ia (Ia (Ia (Aa (Yb O O) (Aa (Jb O) (Ca ?_)))));refine Hc (v:=.bool true) O O ⟨?_,hF.same⟩;clear hF hR hK hX hb1;simp_all[nodeB,List.length_pos_iff];refine Aa (Ob Re O) (Tb (Rm iZ O hF.F 0 O O) (Aa (L4 O O) (Aa (Bc O O) (Aa (Jb O) (Ca ?_)))));refine Hc (v:=.bool _) O O ⟨?_,hF.same⟩;clear hF hR hK hX hb1;simp_all[nodeB,List.length_pos_iff];refine Da (Aa (Yh O O) (Aa (Jb O) (Ca ?_)));refine Pb O O (λhc5=>?_) (λhc5=>?_);refine Da (Aa (Ob Re O) (Tb (Rm iZ O hF.F 0 O O) ?_));refine Oa hF (Qt t hk.1 _ (hG.ext hF.same)) (Ma NJ O O) ?_;intro w hF;refine Aa (Ri O) (Aa (Dq O O) (Aa (Jl O O) ?_));refine Ye hF pX qZ O ?_;rintro b2 w hb2 hF -;refine Aa (Jb O) (Qb (Aa (Dc O) (Aa (Jb O) (Ca ?_))));refine Hc (v:=.bool _) O O ⟨?_,hF.same⟩
 clear hF hR hK hX hb1;simp_all[nodeB,List.length_pos_iff];refine Da (Aa (Yh O O) (Aa (Jb O) (Ca ?_)));refine Pb O O (λhc6=>?_) (λhc6=>?_);refine Da (Aa (Ob Re O) (Tb (Rm iZ O hF.F 0 O O) ?_));refine Oa hF (VI t hk.1 _ (hG.ext hF.same)) (Ma IV O O) ?_;intro w hF;refine Aa (Jb O) (Ca ?_);refine Hc (v:=.bool _) O O ⟨?_,hF.same⟩;clear hF hR hK hX hb1;simp_all[nodeB,List.length_pos_iff];refine Da (Aa (Yh O O) (Aa (Jb O) (Ca ?_)));refine Pb O O (λhc7=>?_) (λhc7=>?_);refine Da (Aa (Ob Re O) (Tb (Rm iZ O hF.F 0 O O) ?_));refine Oa hF (hole_c t hk.1 _ (hG.ext hF.same)) (Ma en_126 O O) ?_;intro w hF;refine Aa (Jb O) (Ca ?_);refine Hc (v:=.bool _) O O ⟨?_,hF.same⟩;clear hF hR hK hX hb1;simp_all[nodeB,List.length_pos_iff];refine Na (Cb (Ga (Da (Aa (Jb O) (Ca ?_)))));refine Hc (v:=.bool false) O O ⟨?_,hF.same⟩;clear hF hR hK hX hb1;simp_all[nodeB,List.length_pos_iff]
theorem Tree.ind{Q:Tree->Prop}(h:∀k t ks xs,(∀x,x∈xs->Q x)->Q (.node k t ks xs))(x:Tree):Q x :=
  Tree.rec (motive_1:=Q) (motive_2:=λxs=>∀x,x∈xs->Q x) (λk t ks xs ih=>h k t ks xs ih) La
    (λy ys h1 h2=>by
      intro z hz;rcases oQ.1 hz with rfl|hz
      ·exact h1
      exact h2 z hz) x
mutual
def Mb:Tree->Nat|.node _ _ _ xs=>1+Vb xs
def Vb:List Tree->Nat|[]=>0|x::xs=>Mb x+Vb xs
end
mutual
def Hd:Tree->Nat|.node _ _ _ xs=>Wc xs+1
def Wc:List Tree->Nat|[]=>0|x::xs=>max (Hd x) (Wc xs)
end
theorem Ij:∀(xs ys:List Tree),Vb (xs++ys)=Vb xs+Vb ys
  | [],ys=>by simp[Vb]
  | x::xs,ys=>by simp[Vb,Ij xs ys,Nat.add_assoc]
theorem Zr:∀(xs ys:List Tree),Wc (xs++ys)=max (Wc xs) (Wc ys)
  | [],ys=>by simp[Wc]
  | x::xs,ys=>by simp only[List.cons_append,Wc,Zr xs ys];omega
theorem OC(xs:List Tree)(j:Nat)(hj:j<xs.length):Vb (xs.take (j+1))=Vb (xs.take j)+Mb xs[j]:=by
  rw[iQ hj,Ij];simp[Vb]
theorem X8(xs:List Tree)(j:Nat)(hj:j<xs.length):Wc (xs.take (j+1))=max (Wc (xs.take j)) (Hd xs[j]):=by
  rw[iQ hj,Zr];simp[Wc]
theorem Pl:∀{xs:List Tree}{x:Tree},x∈xs->Mb x<=Vb xs
  | [],_,h=>absurd h La
  | y :: ys, x, h => by
    rw[Vb];rcases oQ.1 h with rfl|h
    ·omega
    have:=Pl h;omega
theorem F7(x:Tree):1<=Mb x:=by cases x;rw[Mb];omega
theorem Ll:∀(xs:List Tree),xs.length<=Vb xs
  | []=>by simp[Vb]
  | x::xs=>by have:=Ll xs;have:=F7 x;simp only[Vb,kQ];omega
theorem HT(x:Tree):Hd x<=Mb x:=by
  refine Tree.ind (Q:=λx=>Hd x<=Mb x) (λk t ks xs ih=>?_) x;have:Wc xs<=Vb xs:=by
    induction xs with
    | nil=>simp[Wc,Vb]
    | cons y ys ihy =>
      have h1:=ih y La;have h2:=ihy (λz hz=>ih z (by simp[hz]));simp only[Wc,Vb];omega
  simp only[Hd,Mb];omega
theorem LG(xs:List Tree):Wc xs<=Vb xs:=by
  have:=HT (.node 0 [] [] xs);simp only[Hd,Mb]at this;omega
def IT(x:Tree):Prop:=∀S w0 cs,Rep S w0 (Hb x) cs->Calls prog 120 #[.agg cs.toArray] w0 (Pc λv w'=>v=J (wr (Mb x))/\Same [] w0 w')
theorem UN(k:Int)(t:Str)(ks:List Str)(xs:List Tree)(ih:∀x,x∈xs->IT x):IT (.node k t ks xs):=by
 intro S w0 cs hR;obtain⟨A,c,B,e,rfl,-,-,-,hX⟩:=hR.tree_inv;have hXl:=hX.slice_len;refine Ea func120 O ntmps120 Db (Rb _) ?_;have hF:=FR.start w0 [];refine Da (Le hF O ?_);rintro b1 w hb1 hF -;refine Aa (Lb O) (Qb (Aa (Lb O) (Ca (Fa (Da (Aa (Ob Ub O) (Tb (Ff zQ O hF.F 0 O O) (Aa (Ug yZ O) ?_))))))));refine Aa (Gb O) (Ca (Va ?_));refine Tc (λμ σ w=>∃(j:Nat),μ=xs.length-j/\(j<=xs.length)/\AllEq σ [(3,J (wr (1+Vb (xs.take j)))),(7,.slice B xs.length e),(8,J ((xs.length:Nat))),(9,J ((j:Int)))]/\FR w0 [] [(b1,.cells #[J k,I t,.slice A ks.length c,.slice B xs.length e] 25)] w) _ ⟨0,O,(Nat.zero_le _),Nr,hF⟩ ?_;rintro μ σ w ⟨j,rfl,hj,hs,hF⟩;refine Cg.slots hs ?_;clear hs;intro σ;refine Da (Aa (Sl O O) (Ca (Fa ?_)));refine Pb O O (λhc0=>?_) (λhc0=>?_);refine Na (Ga (Fa (Va (Da ?_))));obtain⟨ad0,cs0,hA0,hl0,hk0,hx0⟩:=hX.tree_elem (i:=j) Ba;have ho0:=hx0.one_;refine Ja (v:=.pointer (some (ad0.add (j*4)))) (Sa (i:=(j:Int)) Mg O hA0 O Ba Ba) (Ja (v:=.agg (List.toArray cs0)) (Xa (l:=cs0) aZ mZ O hl0 (hF.cells0 hk0)) ?_);refine My (l:=cs0) hF kX (by rw[hl0];exact mZ) (by rw[hl0];rfl) (v:=.agg (List.toArray cs0)) O O (ho0) O ?_;rintro b2 w hb2 hF -;refine Ca (Ha (Aa (Gb O) (Ja (v:=.agg (List.toArray cs0)) (Xa (l:=cs0) aZ mZ O hl0 (hF.cellsAll 0 O)) ?_)));refine Oa hF (ih _ (eQ _) _ _ _ (hF.rep hx0)) (Ma JU O O) ?_;intro w hF;refine Ja (v:=J (wr (1+Vb (xs.take (j+1))))) (Iw O O (by rw[GN,OC xs j Ba,Int.natCast_add,Int.add_assoc])) (Aa (Lb O) (Ua (Cb (Ga (Ha (Aa (Il O O) (Aa (Gb O) (Ua ?_))))))));refine Xb ⟨_,?_,j+1,O,Ba,Nr,hF.drop 1⟩;omega;refine Kc (Ec O ?_);refine Ga (Da (Aa (Gb O) (Aa (Lb O) (Ca ?_))));refine Hc (v:=J (wr (1+Vb (xs.take j)))) O O ?_;obtain rfl:j=xs.length:=by omega
 exact⟨by simp[Mb],hF.same⟩
theorem size_c(x:Tree):IT x:=Tree.ind UN x
def RG(x:Tree):Prop:=Mb x<=1000000000->∀S w0 cs,Rep S w0 (Hb x) cs->Calls prog 121 #[.agg cs.toArray] w0 (Pc λv w'=>v=J (Hd x:Nat)/\Same [] w0 w')
theorem VG(k:Int)(t:Str)(ks:List Str)(xs:List Tree)(ih:∀x,x∈xs->RG x):RG (.node k t ks xs):=by
 intro hsz S w0 cs hR;obtain⟨A,c,B,e,rfl,-,-,-,hX⟩:=hR.tree_inv;have hXl:=hX.slice_len;have hdl:=LG xs;rw[Mb]at hsz;refine Ea func121 O ntmps121 Db (Rb _) ?_;have hF:=FR.start w0 [];refine Da (Le hF O ?_);rintro b1 w hb1 hF -;refine Aa (Lb O) (Qb (Aa (Lb O) (Ca (Fa (Da (Aa (Ob Ub O) (Tb (Ff zQ O hF.F 0 O O) (Aa (Ug yZ O) ?_))))))));refine Aa (Gb O) (Ca (Va ?_));refine Tc (λμ σ w=>∃(j:Nat),μ=xs.length-j/\(j<=xs.length)/\AllEq σ [(3,J ((Wc (xs.take j):Nat))),(7,.slice B xs.length e),(8,J ((xs.length:Nat))),(9,J ((j:Int)))]/\FR w0 [] [(b1,.cells #[J k,I t,.slice A ks.length c,.slice B xs.length e] 25)] w) _ ⟨0,O,(Nat.zero_le _),Nr,hF⟩ ?_;rintro μ σ w ⟨j,rfl,hj,hs,hF⟩;refine Cg.slots hs ?_;clear hs;intro σ;refine Da (Aa (Sl O O) (Ca (Fa ?_)));refine Pb O O (λhc0=>?_) (λhc0=>?_);refine Na (Ga (Fa (Va (Da ?_))));obtain⟨ad0,cs0,hA0,hl0,hk0,hx0⟩:=hX.tree_elem (i:=j) Ba;have ho0:=hx0.one_;refine Ja (v:=.pointer (some (ad0.add (j*4)))) (Sa (i:=(j:Int)) Mg O hA0 O Ba Ba) (Ja (v:=.agg (List.toArray cs0)) (Xa (l:=cs0) aZ mZ O hl0 (hF.cells0 hk0)) ?_);refine My (l:=cs0) hF kX (by rw[hl0];exact mZ) (by rw[hl0];rfl) (v:=.agg (List.toArray cs0)) O O (ho0) O ?_;rintro b2 w hb2 hF -;refine Ca (Ha (Aa (Gb O) (Ja (v:=.agg (List.toArray cs0)) (Xa (l:=cs0) aZ mZ O hl0 (hF.cellsAll 0 O)) ?_)));refine Oa hF (ih _ (eQ _) (by have:=Pl (List.getElem_mem (l:=xs) (n:=j) Ba);omega) _ _ _ (hF.rep hx0)) (Ma RQ O O) ?_;intro w hF;refine Ja (v:=J ((Wc (xs.take (j+1)):Nat))) (by rw[<-show max ((Wc (xs.take j):Nat):Int) ((Hd xs[j]:Nat):Int)=((Wc (xs.take (j+1)):Nat):Int) from by rw[X8 xs j Ba];omega];exact x_max O O) ?_;refine Aa (Lb O) (Ua (Cb (Ga (Ha (Aa (Il O O) (Aa (Gb O) (Ua ?_)))))));refine Xb ⟨_,?_,j+1,O,Ba,Nr,hF.drop 1⟩;omega;refine Kc (Ec O ?_);refine Ga (Da (Aa (Gb O) ?_));have eT:xs.take j=xs:=List.take_of_length_le Ba
 refine Ja (v:=J ((Hd (.node k t ks xs):Nat))) (Iw O O (by rw[eT,Hd];exact Cl Ba Ba Ba)) ?_;refine Aa (Lb O) (Ca ?_);refine Hc (v:=J ((Hd (.node k t ks xs):Nat))) O O ?_;exact⟨O,hF.same⟩
theorem OW(x:Tree):RG x:=Tree.ind VG x
theorem Same.cell{w w':World}{a:Addr}{v:Value}(h:Same [] w w')(hc:w.cell? a=some v):w'.cell? a=some v:=((FR.start w []).ext h).cell0 hc
mutual
def Td(q:Tree->Bool):Tree->Bool|.node k t ks xs=>q (.node k t ks xs)&&Np q xs
def Np(q:Tree->Bool):List Tree->Bool|[]=>true|x::xs=>Td q x&&Np q xs
end
theorem Cp(q:Tree->Bool):∀xs:List Tree,Np q xs = !(xs.any λx=>!Td q x)
  | []=>rfl
  | x::xs=>by rw[Np,Cp q xs];simp
def EachC(w0:World)(bb:Nat)(xs:List Tree)(q:Tree->Bool):Prop:=∀x,x∈xs->∀S w cs,Same [] w0 w->Rep S w (Hb x) cs->Calls prog 123 #[.agg cs.toArray,V bb] w (Pc λv w'=>v=.bool (q x)/\Same [] w w')
theorem EachC.ext{w0 w:World}{bb:Nat}{xs:List Tree}{q:Tree->Bool}(h:EachC w0 bb xs q)(hs:Same [] w0 w):EachC w bb xs q:=λx hx S w' cs hw=>h x hx S w' cs (hs.trans hw)
theorem DN{q:Tree->Bool}{xs:List Tree}{j:Nat}(h:j<xs.length)(hn:(xs.take j).any q=false)(hq:q xs[j]=false):(xs.take (j+1)).any q=false:=by
  rw[iQ h,List.any_append,hn];simp[hq]
def Zu(g:Nat)(q:Tree->Bool)(x:Tree):Prop:=∀S w0 cs,Rep S w0 (Hb x) cs->Co x->Gl w0->Calls prog 79 #[.agg cs.toArray,.func (.func g) #[] #[]] w0 (Pc λv w'=>v=.bool (Td q x)/\Same [] w0 w')
theorem IB(xs:List Tree)(q:Tree->Bool)(bb:Nat)(B:Option Addr)(e:Nat)(S:Nat->Prop)(w0:World)(hX:Rep S w0 (.slice (Qd xs)) [.slice B xs.length e])(hq:EachC w0 bb xs q):Calls prog 172 #[.slice B xs.length e,.func (.func 123) #[] #[V bb]] w0 (Pc λv w'=>∃n:Int,v=J n/\decide (0<=n)=xs.any q/\Same [] w0 w'):=by
 have hXl:=hX.slice_len;refine Ea func172 O ntmps172 Db (Lc _ _) ?_;have hF:=FR.start w0 [];refine Da (Aa (Lb O) (Ca (Fa (Da (Aa (Wd O) (Aa (Ug yZ O) (Aa (Gb O) (Ca (Va ?_)))))))));refine Tc (λμ σ w=>∃(j:Nat),μ=xs.length-j/\(j<=xs.length)/\((xs.take j).any q=false)/\AllEq σ [(0,.slice B xs.length e),(1,.func (.func 123) #[] #[.pointer (some (⟨bb,0,none⟩))]),(7,J ((xs.length:Nat))),(8,J ((j:Int)))]/\FR w0 [] [] w) _ ⟨0,O,(Nat.zero_le _),La,Nr,hF⟩ ?_;rintro μ σ w ⟨j,rfl,hj,hn,hs,hF⟩;refine Cg.slots hs ?_;clear hs;intro σ;refine Da (Aa (Sl O O) (Ca (Fa ?_)));refine Pb O O (λhc0=>?_) (λhc0=>?_);refine Na (Ga (Fa (Va (Da (Aa (Gb O) (Aa (Lb O) (Qb (Aa (Pr) (Aa (Wd O) ?_)))))))));refine Aa (Gb O) ?_;obtain⟨ad0,cs0,hA0,hl0,hk0,hx0⟩:=hX.tree_elem (i:=j) Ba;have ho0:=hx0.one_;refine Ja (v:=.pointer (some (ad0.add (j*4)))) (Sa (i:=(j:Int)) Mg O hA0 O Ba Ba) (Ja (v:=.agg (List.toArray cs0)) (Xa (l:=cs0) aZ mZ O hl0 (hF.cells0 hk0)) ?_);refine Oa hF (hq _ (List.getElem_mem (l:=xs) (n:=j) Ba) _ _ _ hF.same (hF.rep hx0)) (Kn O en_123 O O) ?_;intro w hF;refine Ca (Fe O O (λhc1=>?_) (λhc1=>?_));refine Da (Aa (Gb O) (Aa (Lb O) (Ca ?_)));refine Hc (v:=J ((j:Int))) O O ?_;exact⟨_,O,by rw[List.any_eq_true.2 ⟨_,List.getElem_mem (l:=xs) (n:=j) Ba,hc1⟩];simp,hF.same⟩;refine Na (Cb (Ga (Ha (Aa (Il O O) (Aa (Gb O) (Ua ?_))))));refine Xb ⟨_,?_,j+1,O,Ba,(DN Ba hn hc1),Nr,hF⟩;omega;refine Kc (Ec O ?_);refine Ga (Da (Aa (Lb O) (Ca ?_)));refine Hc (v:=J ((-1))) O O ?_;have eT:xs.take j=xs:=List.take_of_length_le Ba;rw[eT]at hn;exact⟨_,O,by rw[hn];decide,hF.same⟩
theorem Vr(xs:List Tree)(q:Tree->Bool)(bb:Nat)(B:Option Addr)(e:Nat)(S:Nat->Prop)(w0:World)(hX:Rep S w0 (.slice (Qd xs)) [.slice B xs.length e])(hq:EachC w0 bb xs q):Calls prog 122 #[.slice B xs.length e,.func (.func 123) #[] #[V bb]] w0 (Pc λv w'=>v=.bool (xs.any q)/\Same [] w0 w'):=by
 refine Ea func122 O ntmps122 Db (Lc _ _) ?_;have hF:=FR.start w0 [];refine Da (Aa (Jb O) (Qb (Aa (Wd O) (Aa (Pr) ?_))));refine Ya (IB xs q bb B e S _ (hF.rep hX) (hq.ext hF.same)) (Ra en_172 O O O) ?_;rintro _ w ⟨n,rfl,hn,hE⟩;have hF:=hF.ext hE;refine Aa (T6 O O) (Aa (Jb O) (Ca ?_));refine Hc (v:=.bool _) O O ?_;exact⟨congrArg Value.bool hn,hF.same⟩
theorem V6(g:Nat)(q:Tree->Bool)(x:Tree)(h:Zu g q x)(bb:Nat)(S:Nat->Prop)(w0:World)(cs:List Value)(hR:Rep S w0 (Hb x) cs)(hk:Co x)(hG:Gl w0)(hb:w0.cell? ⟨bb,0,none⟩=some (.func (.func g) #[] #[])):Calls prog 123 #[.agg cs.toArray,V bb] w0 (Pc λv w'=>v=.bool (!Td q x)/\Same [] w0 w'):=by
 have hl:cs.length=4:=hR.length.trans (Nc x);have ho:=hR.one_;refine Ea func123 O ntmps123 Db (Lc _ _) ?_;have hF:=FR.start w0 [];refine Da (Hm (v:=.agg (List.toArray cs)) (cs:=(List.toArray cs)) hF O O ?_);rintro b1 w hb1 hF -;refine Aa (Jb O) (Qb (Ja (v:=.agg (List.toArray cs)) (Xa (l:=cs) aZ mZ O hl (hF.cellsAll 0 O)) (Ja (v:=.func (.func g) #[] #[]) (Ad isAgg75 O (hF.cell0 hb)) ?_)));refine Oa hF (h S _ cs (hF.rep hR) hk (hG.ext hF.same)) (Ra HV O O O) ?_;intro w hF;refine Aa (Oh O) (Aa (Jb O) (Ca ?_));refine Hc (v:=.bool _) O O ?_;exact⟨O,hF.same⟩
theorem Q9(q:Tree->Bool)(hp:F6 104 q)(k:Int)(t:Str)(ks:List Str)(xs:List Tree)(ih:∀x,x∈xs->Zu 104 q x):Zu 104 q (.node k t ks xs):=by
 intro S w0 cs hR hk hG;have hk':=hk;rw[Co]at hk';obtain⟨A,c,B,e,rfl,-,-,hK,hX⟩:=hR.tree_inv;refine Ea func79 O ntmps79 Db (Lc _ _) ?_;have hF:=FR.start w0 [];refine Da (Le hF O ?_);rintro b1 w hb1 hF -;refine CA (.func (.func 104) #[] #[]) hF O ?_;rintro b2 w hb2 hF -;refine Aa (Jb O) (Qb (Tb (ylu isAgg75 O hF.F 0 O O) (Tb (He aZ mZ O hF.F 1 O O) ?_)));refine Oa hF (hp (.node k t ks xs) S _ _ (hF.rep hR) hk (hG.ext hF.same)) (Kn O en_104 O O) ?_;intro w hF;refine Aa (Dc O) (Rc (d:=8) O (λhg0=>?_) (λhg0=>?_));refine Aa (Ob Ub O) (Tb (Ff zQ O hF.F 1 O O) (Ja (v:=.func (.func 123) #[] #[V b2]) (Zi O) ?_));refine Oa hF (Vr xs (λx=>!Td q x) b2 B e S _ (hF.rep hX) (λx hx S' w' cs' hs hr=>V6 104 q x (ih x hx) b2 S' w' cs' hr (Pj hk'.2.2 x hx) ((hG.ext hF.same).ext hs) (hs.cell (hF.cell 0 O O)))) (Ra KQ O O O) ?_;intro w hF;refine Aa (Oh O) (Aa (Yb O O) (Aa (Jb O) (Ca ?_)));refine Hc (v:=.bool _) O O ⟨?_,hF.same⟩;rw[Td,Cp];simp_all;refine Ia (Ia (Ia (Ia (Ia (Aa (Bc O O) (Aa (Jb O) (Ca ?_)))))));refine Hc (v:=.bool false) O O ⟨?_,hF.same⟩;rw[Td,Cp];simp_all
theorem FO(q:Tree->Bool)(hp:F6 104 q)(x:Tree):Zu 104 q x:=Tree.ind (Q9 q hp) x
theorem G9(q:Tree->Bool)(hp:F6 80 q)(k:Int)(t:Str)(ks:List Str)(xs:List Tree)(ih:∀x,x∈xs->Zu 80 q x):Zu 80 q (.node k t ks xs):=by
 intro S w0 cs hR hk hG;have hk':=hk;rw[Co]at hk';obtain⟨A,c,B,e,rfl,-,-,hK,hX⟩:=hR.tree_inv;refine Ea func79 O ntmps79 Db (Lc _ _) ?_;have hF:=FR.start w0 [];refine Da (Le hF O ?_);rintro b1 w hb1 hF -;refine CA (.func (.func 80) #[] #[]) hF O ?_;rintro b2 w hb2 hF -;refine Aa (Jb O) (Qb (Tb (ylu isAgg75 O hF.F 0 O O) (Tb (He aZ mZ O hF.F 1 O O) ?_)));refine Oa hF (hp (.node k t ks xs) S _ _ (hF.rep hR) hk (hG.ext hF.same)) (Kn O CZ O O) ?_;intro w hF;refine Aa (Dc O) (Rc (d:=8) O (λhg0=>?_) (λhg0=>?_));refine Aa (Ob Ub O) (Tb (Ff zQ O hF.F 1 O O) (Ja (v:=.func (.func 123) #[] #[V b2]) (Zi O) ?_));refine Oa hF (Vr xs (λx=>!Td q x) b2 B e S _ (hF.rep hX) (λx hx S' w' cs' hs hr=>V6 80 q x (ih x hx) b2 S' w' cs' hr (Pj hk'.2.2 x hx) ((hG.ext hF.same).ext hs) (hs.cell (hF.cell 0 O O)))) (Ra KQ O O O) ?_;intro w hF;refine Aa (Oh O) (Aa (Yb O O) (Aa (Jb O) (Ca ?_)));refine Hc (v:=.bool _) O O ⟨?_,hF.same⟩;rw[Td,Cp];simp_all;refine Ia (Ia (Ia (Ia (Ia (Aa (Bc O O) (Aa (Jb O) (Ca ?_)))))));refine Hc (v:=.bool false) O O ⟨?_,hF.same⟩;rw[Td,Cp];simp_all
theorem WO(q:Tree->Bool)(hp:F6 80 q)(x:Tree):Zu 80 q x:=Tree.ind (G9 q hp) x
def rnodeB(x:Tree):Bool:=decide (x.kind≠7)&&nodeB x
def Bq(x:Tree):Bool:=decide (Mb x<=4096)&&decide (Hd x<=32)
def Kg(x:Tree):Bool:=Bq x&&Td nodeB x
def Gf(x:Tree):Bool:=Bq x&&Td rnodeB x
theorem YP{n:Nat}(h:n<=1000000000):wr (n:Int)=(n:Int):=Sm Ba Ba
theorem MW  : F6 104 rnodeB:=by
 rintro⟨k,t,ks,xs⟩ S w0 cs hR hk hG;obtain⟨A,c,B,e,rfl,-,-,hK,hX⟩:=hR.tree_inv;refine Ea func104 O ntmps104 Db (Rb _) ?_;have hF:=FR.start w0 [];refine Da (Le hF O ?_);rintro b1 w hb1 hF -;refine Aa (Jb O) (Qb (Aa (Ob Se O) (Tb (Yi dZ O hF.F 0 O O) (Aa (Om O O) (Aa (Dc O) ?_)))));refine Wb (d:=6) O (λhg0=>?_) (λhg0=>?_);refine Tb (He aZ mZ O hF.F 0 O O) (Oa hF (XS (.node k t ks xs) S _ _ (hF.rep hR) hk (hG.ext hF.same)) (Ma CZ O O) ?_);intro w hF;refine Aa (Yb O O) (Aa (Jb O) (Ca ?_));refine Hc (v:=.bool _) O O ⟨?_,hF.same⟩;simp_all[rnodeB,Tree.kind];refine Ia (Ia (Aa (Bc O O) (Aa (Jb O) (Ca ?_))));refine Hc (v:=.bool false) O O ⟨?_,hF.same⟩;simp_all[rnodeB,Tree.kind]
theorem size_v(x:Tree)(hsz:Mb x<=1000000000)(S:Nat->Prop)(w0:World)(cs:List Value)(hR:Rep S w0 (Hb x) cs):Calls prog 120 #[.agg cs.toArray] w0 (Pc λv w'=>v=J (Mb x:Nat)/\Same [] w0 w'):=by
  have h:=size_c x S w0 cs hR
  rwa [YP hsz]at h
theorem HL(x:Tree)(hsz:Mb x<=1000000000)(S:Nat->Prop)(w0:World)(cs:List Value)(hR:Rep S w0 (Hb x) cs):Calls prog 78 #[.agg cs.toArray] w0 (Pc λv w'=>v=.bool (Bq x)/\Same [] w0 w'):=by
 have hl:cs.length=4:=hR.length.trans (Nc x);have ho:=hR.one_;refine Ea func78 O ntmps78 Db (Rb _) ?_;have hF:=FR.start w0 [];refine Da (Hm (v:=.agg (List.toArray cs)) (cs:=(List.toArray cs)) hF O O ?_);rintro b1 w hb1 hF -;refine Aa (Jb O) (Qb (Ja (v:=.agg (List.toArray cs)) (Xa (l:=cs) aZ mZ O hl (hF.cellsAll 0 O)) ?_));refine Oa hF (size_v x hsz S _ cs (hF.rep hR)) (Ma JU O O) ?_;intro w hF;refine Aa (OV O O) (Aa (Dc O) ?_);refine Wb (d:=6) O (λhg0=>?_) (λhg0=>?_);refine Ja (v:=.agg (List.toArray cs)) (Xa (l:=cs) aZ mZ O hl (hF.cellsAll 0 O)) (Oa hF (OW x hsz S _ cs (hF.rep hR)) (Ma RQ O O) ?_);intro w hF;refine Aa (OV O O) (Aa (Yb O O) (Aa (Jb O) (Ca ?_)));refine Hc (v:=.bool _) O O ⟨congrArg Value.bool ?_,hF.same⟩;unfold Bq
 first|(rw[decide_eq_true (by omega:Mb x<=4096)];exact decide_eq_decide.2 Ba)|(rw[decide_eq_false (by omega:¬Mb x<=4096)];rfl)
 refine Ia (Ia (Ia (Aa (Bc O O) (Aa (Jb O) (Ca ?_)))));refine Hc (v:=.bool false) O O ⟨congrArg Value.bool ?_,hF.same⟩;unfold Bq
 first|(rw[decide_eq_true (by omega:Mb x<=4096)];exact decide_eq_decide.2 Ba)|(rw[decide_eq_false (by omega:¬Mb x<=4096)];rfl)
theorem B0(x:Tree)(hsz:Mb x<=1000000000)(S:Nat->Prop)(w0:World)(cs:List Value)(hR:Rep S w0 (Hb x) cs)(hk:Co x)(hG:Gl w0):Calls prog 62 #[.agg cs.toArray] w0 (Pc λv w'=>v=.bool (Gf x)/\Same [] w0 w'):=by
 have hl:cs.length=4:=hR.length.trans (Nc x);have ho:=hR.one_;refine Ea func62 O ntmps62 Db (Rb _) ?_;have hF:=FR.start w0 [];refine Da (Hm (v:=.agg (List.toArray cs)) (cs:=(List.toArray cs)) hF O O ?_);rintro b1 w hb1 hF -;refine Aa (Jb O) (Qb (Ja (v:=.agg (List.toArray cs)) (Xa (l:=cs) aZ mZ O hl (hF.cellsAll 0 O)) ?_));refine Oa hF (HL x hsz S _ cs (hF.rep hR)) (Ma VY O O) ?_;intro w hF;refine Aa (Dc O) (Rc (d:=5) O (λhg0=>?_) (λhg0=>?_));refine Ja (v:=.agg (List.toArray cs)) (Xa (l:=cs) aZ mZ O hl (hF.cellsAll 0 O)) (Oa hF (FO rnodeB MW x S _ cs (hF.rep hR) hk (hG.ext hF.same)) (Ra HV O O O) ?_);intro w hF;refine Aa (Yb O O) (Aa (Jb O) (Ca ?_));refine Hc (v:=.bool _) O O ?_;exact⟨congrArg Value.bool (by unfold Gf;simp_all),hF.same⟩;refine Ia (Ia (Aa (Bc O O) (Aa (Jb O) (Ca ?_))));refine Hc (v:=.bool false) O O ?_;exact⟨congrArg Value.bool (by unfold Gf;simp_all),hF.same⟩
theorem X2(x:Tree)(hsz:Mb x<=1000000000)(S:Nat->Prop)(w0:World)(cs:List Value)(hR:Rep S w0 (Hb x) cs)(hk:Co x)(hG:Gl w0):Calls prog 51 #[.agg cs.toArray] w0 (Pc λv w'=>v=.bool (Kg x)/\Same [] w0 w'):=by
 have hl:cs.length=4:=hR.length.trans (Nc x);have ho:=hR.one_;refine Ea func51 O ntmps51 Db (Rb _) ?_;have hF:=FR.start w0 [];refine Da (Hm (v:=.agg (List.toArray cs)) (cs:=(List.toArray cs)) hF O O ?_);rintro b1 w hb1 hF -;refine Aa (Jb O) (Qb (Ja (v:=.agg (List.toArray cs)) (Xa (l:=cs) aZ mZ O hl (hF.cellsAll 0 O)) ?_));refine Oa hF (HL x hsz S _ cs (hF.rep hR)) (Ma VY O O) ?_;intro w hF;refine Aa (Dc O) (Rc (d:=5) O (λhg0=>?_) (λhg0=>?_));refine Ja (v:=.agg (List.toArray cs)) (Xa (l:=cs) aZ mZ O hl (hF.cellsAll 0 O)) (Oa hF (WO nodeB XS x S _ cs (hF.rep hR) hk (hG.ext hF.same)) (Ra HV O O O) ?_);intro w hF;refine Aa (Yb O O) (Aa (Jb O) (Ca ?_));refine Hc (v:=.bool _) O O ?_;exact⟨congrArg Value.bool (by unfold Kg;simp_all),hF.same⟩;refine Ia (Ia (Aa (Bc O O) (Aa (Jb O) (Ca ?_))));refine Hc (v:=.bool false) O O ?_;exact⟨congrArg Value.bool (by unfold Kg;simp_all),hF.same⟩
end Go.Scarf
