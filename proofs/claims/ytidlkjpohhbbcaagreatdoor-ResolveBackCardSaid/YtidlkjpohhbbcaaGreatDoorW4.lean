/- A part of the proof. -/
import Derived.Test.YtidlkjpohhbbcaaGreatDoorW2
import Derived.Test.YtidlkjpohhbbcaaGreatDoorShelf2
import Derived.Lib.ValidLaws
import Derived.Lib.TrimUEq
import Derived.Lib.MapLaws
set_option linter.all false
set_option maxHeartbeats 8000000
set_option maxRecDepth 10000
namespace Go.Scarf
open Go.RowKit Go.Proofs Go.Proofs.Tryz
def Th(s:Str):Bool:=decide ((Uc s).2=0)&&decide (Gi (Uc s).1=s)
def BG(s:Str):Bool:=Th s&&(B8 (Uc s).1).2&&decide (0<=(B8 (Uc s).1).1)
theorem Gy(s:Str):Fe (Uc s).1=true:=by
  rw[Jm]
  repeat' split
  all_goals first|rfl|simp_all
theorem Ij(s:Str):(Uc s).1.digits.length<=1000:=(Xd (Gy s)).1
theorem Hl(s:Str)(q:Nat):Lib.decodeL (s.drop q)=Utf8.decode (bs s) q:=Lib.decodeL_drop (bs s) q
theorem Uf(s:Str)(q:Nat):1<=(Utf8.decode (bs s) q).2:=by rw[<-Hl];exact Lib.decodeL_width _
theorem Fs(s:Str)(q:Nat)(h:q<s.length):q+(Utf8.decode (bs s) q).2<=s.length:=by
  have:=Lib.decodeL_le (s.drop q) (by rw[ne_eq,List.drop_eq_nil_iff];omega);rw[Hl,List.length_drop]at this;omega
theorem G4(s:Str)(q:Nat)(h:q<s.length)(hv:Lib.validD (s.drop q)=false)(hn:¬((Utf8.decode (bs s) q).1=65533/\(Utf8.decode (bs s) q).2=1)):Lib.validD (s.drop (q+(Utf8.decode (bs s) q).2))=false:=by
  rw[Lib.validD_step _ (by rw[ne_eq,List.drop_eq_nil_iff];omega),Hl,if_neg hn,List.drop_drop]at hv;exact hv
theorem Nw(s:Str)(q:Nat)(h:q<s.length):Lib.decodeGo (bs (s.drop q))=Utf8.decode (bs s) q:=by
  have h1:(bs (s.drop q)).size≠0:=by rw[Zn,List.length_drop];omega
  rw[Lib.decodeGo,if_neg h1];exact Hl s q
theorem W8(s:Str)(hl:s.length<=140737488355328){w:World}(hG:Gl w):Calls prog 124 #[I s] w (Oc λv w'=>v=.bool (Lib.validD s)/\Same [] w w') :=
  Kv (utf8_ValidString (bs s) w (by rw[Zn];omega) hG.tabs)
theorem Wy(s:Str){w:World}(hG:Gl w):Calls prog 125 #[I s] w (Oc λv w'=>v=.tuple #[.int .i32 (Lib.decodeGo (bs s)).1,J (Lib.decodeGo (bs s)).2]/\Same [] w w') :=
  Kv (utf8_DecodeRuneInString (bs s) w hG.tabs)
theorem JC(s:Str)(hl:s.length<=140737488355328)(w0:World)(hG:Gl w0):Calls prog 78 #[I s] w0 (Oc λv w'=>∃n,v=.tuple #[J n,.bool (Lib.validD s)]/\Same [] w0 w'):=by
 refine Ea func78 O ntmps78 Bb (Tb _) ?_;have hF:=FR.start w0 [];refine Da (Ba (Gb O) (Ba (Kb O) (Ca (Fa (Da (Ba (Pd O) ?_))))));refine Qa hF (W8 s hl (hG.ext hF.same)) (Ma en_124 O O) ?_;intro w hF;refine Ca (He O O (λhc0=>?_) (λhc0=>?_))
 ·
  refine Da (Ba (Pd O) (Ba (Rp oX O) (Ba (Gb O) (Ba (Kb O) (Ca ?_)))));refine Xa (Va (Ka (Jc (v:=J ((((s):Str).length:Int))) (x:=.bool true) O O O) ?_));exact⟨_,by rw[hc0],hF.same⟩
 refine Na (Ga (Fa (Da (Ba (Pd O) ?_))));refine Gr (str:=s) hF oX O ?_;rintro b1 w hb1 hF -;refine Ca (Sa ?_);refine Rc (λμ σ w=>∃(q:Nat),μ=s.length-q/\(q<=s.length)/\(Lib.validD (s.drop q)=false)/\AllEq σ [(0,I s),(13,V b1)]/\FR w0 [] [(b1,.stringIter (bs s) (q))] w) _ ⟨0,O,(Nat.zero_le _),(by simpa using hc0),PC,hF⟩ ?_;rintro μ σ w ⟨q,rfl,hq,hv,hs,hF⟩;refine Cg.slots hs ?_;clear hs;intro σ;refine Da ?_;by_cases hn0:(q)<(s:Str).length
 ·
  refine Yv 0 (p:=q) (str:=s) hF O O hn0 ?_;rintro w hF -;refine Ba (Xn O O) (Ca (Fa (Od O (Na (Ga (Sa (Da (Ba (Nh O O) (Ba (Nh O O) (Ba (Gb O) (Ba (Gb O) ?_)))))))))));refine Ca (Fa (Da (Ba (Cb O) (Ba (Sn O O) (Ca ?_)))));refine Lb O O (λhc2=>?_) (λhc2=>?_)
  ·
   refine Ic (Ec O ?_);have h1:=Uf s q;have hw:¬((Utf8.decode (bs s) q).1=65533/\(Utf8.decode (bs s) q).2=1):=by
     first
     | (intro hh;omega)
     | (rw[Nw s q Aa]at hc3;intro hh;omega)
   refine Qb ⟨_,?_,q+(Utf8.decode (bs s) q).2,O,(Fs s q Aa),(G4 s q Aa hv hw),PC,hF⟩;omega
  refine Na (Ga (Da (Ba (Pd O) (Ba (Cb O) (Ia (v:=I ((s:Str).drop (q))) (An (q) oX O O Aa) ?_)))));refine Qa hF (Wy (s.drop q) (hG.ext hF.same)) (Ma en_125 O O) ?_;intro w hF;refine Ba (Aj O) (Ba (Nh O O) (Ba (Nh O O) (Ba (Gb O) (Ba (Gb O) (Ob (Ba (Cb O) (Ba (Xh O O) (Ca ?_))))))));refine Lb O O (λhc3=>?_) (λhc3=>?_)
  ·
   refine Da (Ba (Cb O) (Ba (Gb O) (Ba (Kb O) (Ca ?_))));refine Xa (Va (Ka (Jc (v:=J (((q:Nat):Int))) (x:=.bool false) O O O) ?_));exact⟨_,by rw[hc0],hF.same⟩
  refine Na (Wa ?_);have h1:=Uf s q;have hw:¬((Utf8.decode (bs s) q).1=65533/\(Utf8.decode (bs s) q).2=1):=by
    first
    | (intro hh;omega)
    | (rw[Nw s q Aa]at hc3;intro hh;omega)
  refine Qb ⟨_,?_,q+(Utf8.decode (bs s) q).2,O,(Fs s q Aa),(G4 s q Aa hv hw),PC,hF⟩;omega
 refine Dm 0 (p:=q) (str:=s) hF O O hn0 (Ba (Xn O O) (Ca (Fa (Te O ?_))));refine Ic (Ec O ?_);refine Ga (Da (Ba (Pd O) (Ba (Rp oX O) (Ba (Gb O) (Ba (Kb O) (Ca ?_))))));refine Xa (Va (Ka (Jc (v:=J ((((s):Str).length:Int))) (x:=.bool true) O O O) ?_));have e:s.drop q=[]:=List.drop_eq_nil_of_le Aa;rw[e]at hv;cases hv
theorem AQ(s:Str)(hl:s.length<=140737488355328)(w0:World)(hG:Gl w0):Calls prog 194 #[I s] w0 (Oc λv w'=>v=.bool (Lib.validD s)/\Same [] w0 w'):=by
 refine Ea func194 O ntmps194 Bb (Tb _) ?_;have hF:=FR.start w0 [];refine Da (Ba (Kb O) (Ob (Ba (Pd O) ?_)));refine Ta (JC s hl _ (hG.ext hF.same)) (Ma en_78 O O) ?_;rintro _ w ⟨n,rfl,hE⟩;have hF:=hF.ext hE;refine Ba (Aj O) (Ba (Nh O O) (Ba (Xn O O) (Ba (Gb O) (Ba (Kb O) (Ob (Ba (Sc O) (Ba (Kb O) (Ca ?_))))))));refine Lc (v:=.bool _) O O ?_;exact⟨O,hF.same⟩
theorem Dv(s:Str)(hl:s.length<=140737488355328)(w0:World)(hG:Gl w0):Calls prog 131 #[I s] w0 (Oc λv w'=>v=.tuple #[Co (Uc s).1,.bool (Th s)]/\Same [] w0 w'):=by
 refine Ea func131 O ntmps131 Bb (Tb _) ?_;have hF:=FR.start w0 [];refine Da (Gc (cs:=#[.bool false,I [],J 0]) hF wX O ?_);rintro b1 w hb1 hF -;refine Ba (Kb O) (Ob (Ba (Pd O) ?_));refine Qa hF (Yz s hl _) (Ma H4 O O) ?_;intro w hF;refine Ba (Aj O) (Ba (Ru O O) (Ba (Nh O O) ?_));refine Hf hF wX tZ O ?_;rintro b2 w hb2 hF -;refine Ba (Gb O) (Ca (Fa ?_));refine Dd (.of []) (bQ [0,1,2,3,4,6] (.act 5 (.free 7 (.free 8 (.act 9 (.free 10 .nil)))))) hF ?_;rintro w hF -;refine⟨λwq=>FR w0 [] [(b2,.cells #[.bool ((Uc s).1.neg),I ((Uc s).1.digits),J ((Uc s).1.exp)] 90)] wq,hF.sub (.cons_cons _ (.cons _ .slnil)),?_⟩;refine Nf O (Ig gZ tZ O C0 0 O O) (Hb O (Cb O) (Hb O (Xh O O) (Hb O (Sc O) ?_)));refine Mz (d:=14) O (λhg0=>?_) (λhg0=>?_);refine Nf O (Ig gZ tZ O C0 0 O O) (Hb O (Pd O) ?_);refine Vd hF (IC (Uc s).1 (by have:=Ij s;omega) _ (hG.ext hF.same)) O (Ma NO O O) ?_;intro w hF;refine⟨hF.sub (.cons_cons _ (.cons _ .slnil)),?_⟩;refine Hb O (yes O O) (Hb O (Fc O O) ?_);refine Aw O hF tZ O O Tr ?_;rintro w hF -;refine⟨hF.sub (.cons_cons _ (.cons _ .slnil)),?_⟩;refine Hb O (Kb O) (d_nil (Ga ?_));refine Xa (Va (Ka (Ae O (l:=[.bool ((Uc s).1.neg),I ((Uc s).1.digits),J ((Uc s).1.exp)]) O gZ tZ O (hF.cellsAll 1 O) (v:=.bool (decide ((Gi (Uc s).1:Str)=s))) O) ?_));exact⟨by simp_all[Th,Co],hF.same⟩;refine Lf O (Lf O ?_);refine NX O ?_ (hF.sub (.cons_cons _ (.cons _ .slnil)));refine Lf O (Hb O (Pc O O) ?_);refine Aw O hF tZ O O Tr ?_;rintro w hF -;refine⟨hF.sub (.cons_cons _ (.cons _ .slnil)),?_⟩;refine Hb O (Kb O) (d_nil (Ga ?_));refine Xa (Va (Ka (Ae O (l:=[.bool ((Uc s).1.neg),I ((Uc s).1.digits),J ((Uc s).1.exp)]) O gZ tZ O (hF.cellsAll 1 O) (v:=.bool false) O) ?_));exact⟨by simp_all[Th,Co],hF.same⟩
theorem hole_c(s:Str)(hl:s.length<=140737488355328)(w0:World)(hG:Gl w0):Calls prog 195 #[I s] w0 (Oc λv w'=>v=.bool (BG s)/\Same [] w0 w'):=by
 refine Ea func195 O ntmps195 Bb (Tb _) ?_;have hF:=FR.start w0 [];refine Da (Ba (Kb O) (Ob (Ba (Pd O) ?_)));refine Qa hF (Dv s hl _ (hG.ext hF.same)) (Ma XC O O) ?_;intro w hF;refine Ba (Aj O) (Ba (Ru O O) (Ba (Xn O O) ?_));refine Hf hF wX tZ O ?_;rintro b1 w hb1 hF -;refine Ba (Kb O) (Ob (Yb (Ig gZ tZ O hF.F 0 O O) ?_));refine Qa hF (FH (Uc s).1 (by have:=Ij s;omega) _ (hG.ext hF.same)) (Ma AZ O O) ?_;intro w hF;refine Ba (Aj O) (Ba (Nh O O) (Ba (Xn O O) (Ba (Gb O) (Ba (Kb O) (Ob (Ba (Sc O) (Ba (Sc O) ?_)))))));refine Je (d:=18) O (λhg0=>?_) (λhg0=>?_);refine Ba (Sc O) (Ba (Fc O O) (Ba (Sc O) ?_));refine Je (d:=21) O (λhg1=>?_) (λhg1=>?_);refine Ba (Cb O) (Ba (V2 O O) (Ba (Fc O O) (Ba (Kb O) (Ca ?_))));refine Lc (v:=.bool _) O O ?_;exact⟨by simp_all[BG],hF.same⟩;refine Ha (Ha (Ba (Pc O O) (Ba (Kb O) (Ca ?_))));refine Lc (v:=.bool false) O O ?_;exact⟨by simp_all[BG],hF.same⟩;refine Ha (Ba (Pc O O) (Ba (Sc O) (Ha (Ha (Ba (Pc O O) (Ba (Kb O) (Ca ?_)))))));refine Lc (v:=.bool false) O O ?_;exact⟨by simp_all[BG],hF.same⟩
def So(ks:List Str)(n:Int):Bool:=decide ks.Nodup&&ks.all Lib.validD&&decide ((ks.length:Int)=n)
def Oy(ks:List Str):MapL:=ks.map λk=>(k,.bool true)
theorem F8(ks:List Str)(k:Str):Mf (Oy ks) k=if k∈ks then some (.bool true) else none:=by
  induction ks with
  | nil=>rfl
  | cons a r ih =>
    have e:Oy (a::r)=[(a,.bool true)]++Oy r:=rfl;rw[e,Tz,ih];by_cases h:a=k
    ·subst h;simp[Mf]
    have h' : ¬ k = a := λe => h e.symm;simp[Mf,h,h']
theorem ML(ks:List Str)(j:Nat)(h:j<ks.length):Oy (ks.take j)++[(ks[j],.bool true)]=Oy (ks.take (j+1)):=by
  unfold Oy;rw[iQ h,jQ];rfl
theorem D3{ks:List Str}{j:Nat}(h:j<ks.length)(hn:(ks.take j).Nodup)(hi:¬ks[j]∈ks.take j):(ks.take (j+1)).Nodup:=by
  rw[iQ h,List.nodup_append];refine⟨hn,by simp,?_⟩;intro a ha b hb e;simp only[pQ]at hb;subst e;subst hb;exact hi ha
theorem Jz{ks:List Str}{j:Nat}(h:j<ks.length)(hi:ks[j]∈ks.take j):¬ks.Nodup:=by
  intro hn;obtain⟨i,hi',he⟩:=List.getElem_of_mem hi;rw[List.getElem_take]at he;have hi2:i<j:=by rw[List.length_take]at hi';omega
  have:=(List.pairwise_iff_getElem.1 hn) i j Aa h hi2;exact this he
theorem K8{f:Str->Bool}{ks:List Str}{j:Nat}(h:j<ks.length)(ha:(ks.take j).all f=true)(hv:f ks[j]=true):(ks.take (j+1)).all f=true:=by
  rw[iQ h,List.all_append,ha];simp[hv]
theorem not_all{f:Str->Bool}{ks:List Str}{j:Nat}(h:j<ks.length)(hv:f ks[j]=false):ks.all f=false:=by
  rw[Bool.eq_false_iff];intro ha;have:=List.all_eq_true.1 ha ks[j] (eQ h);rw[hv]at this;cases this
theorem keyed_c(ks:List Str)(n:Int)(S:Nat->Prop)(A:Option Addr)(c:Nat)(hl:∀k∈ks,k.length<=140737488355328)(w0:World)(hG:Gl w0)(hX:Rep S w0 (Ci ks) [.slice A ks.length c]):Calls prog 193 #[.slice A ks.length c,J n] w0 (Oc λv w'=>v=.bool (So ks n)/\Same [] w0 w'):=by
 have hXl:=hX.slice_len;refine Ea func193 O ntmps193 Bb (Nc _ _) ?_;have hF:=FR.start w0 [];refine Da (Ba (Kb O) (Ob (Ba (Qe O) (Ba (Qg iX O) ?_))));refine Tt (v:=λb=>.map (some b)) hF (NA bX O) ?_;rintro b1 w hb1 hF -;refine Ba (Yr) (Ca (Fa (Da (Ba (Qe O) (Ba (Qg iX O) (Ba (Cb O) (Ca (Sa ?_))))))));have hF:FR w0 [] [(b1,Ee (Oy (ks.take 0)))] w:=hF;refine Rc (λμ σ w=>∃(j:Nat),μ=ks.length-j/\(j<=ks.length)/\((ks.take j).Nodup)/\((ks.take j).all Lib.validD=true)/\AllEq σ [(0,.slice A ks.length c),(1,J n),(5,.map (some b1)),(11,.slice A ks.length c),(12,J ((ks.length:Nat))),(13,J ((j:Int)))]/\FR w0 [] [(b1,Ee (Oy (ks.take j)))] w) _ ⟨0,O,(Nat.zero_le _),La,La,I9,hF⟩ ?_;rintro μ σ w ⟨j,rfl,hj,hd,hv,hs,hF⟩;refine Cg.slots hs ?_;clear hs;intro σ;refine Da (Ba (Dl O O) (Ca (Fa ?_)));refine Lb O O (λhc0=>?_) (λhc0=>?_);refine Na (Ga (Fa (Sa (Da ?_))));obtain⟨ad0,hA0,hk0,hx0⟩:=hX.str_elem (i:=j) Aa;refine Ia (v:=.pointer (some (ad0.add (j*1)))) (Ra (i:=(j:Int)) Jw O hA0 O Aa Aa) (Ia (v:=I (ks[j])) (Yc fZ O (hF.cell0 hk0)) (Ba (Xf O) (Ca (Fa (Da (Ba (Vp) (Ba (Pd O) ?_)))))));refine Ia (v:=.bool (decide (ks[j]∈ks.take j))) (Zq bX oX zeroValue4 O O (hF.heap (i:=0) O) (by rw[F8];split <;> rename_i hh <;> simp only[hh,decide_true,decide_false] <;> rfl)) ?_;refine Ba (Sc O) (Wb (d:=20) O (λhg1=>?_) (λhg1=>?_));refine Ha (Ha (Ha (Ba (Fc O O) (Ca (Od O (Da (Ba (Kb O) (Ca ?_))))))));refine Lc (v:=.bool false) O O ?_;have:=Jz (ks:=ks) (j:=j) Aa (by assumption);exact⟨congrArg Value.bool (by unfold So;rw[decide_eq_false this];rfl),hF.same⟩;refine Ba (Pd O) (Qa hF (AQ ks[j] (hl _ (eQ _)) _ (hG.ext hF.same)) (Ma BY O O) ?_);intro w hF;refine Ba (Wi O) (Ba (Pc O O) (Ca ?_));refine He O O (λhc1=>?_) (λhc1=>?_);refine Da (Ba (Kb O) (Ca ?_));refine Lc (v:=.bool false) O O ?_
 have:=not_all (f:=Lib.validD) (ks:=ks) (j:=j) Aa (by simpa using hc1);exact⟨congrArg Value.bool (by unfold So;rw[this,Bool.and_false];rfl),hF.same⟩;refine Na (Ga (Ja (Ba (Vp) (Ba (Pd O) ?_))));refine Ku 0 (v:=.bool true) hF bX oX O O O O (by rw[F8,if_neg (by assumption)]) ?_;rintro w hF -;rw[ML ks j Aa]at hF;have hF:FR w0 [] [(b1,Ee (Oy (ks.take (j+1))))] w:=hF;refine Eb (Wa (Ga (Ja (Ba (Fm O O) (Ba (Cb O) (Eb ?_))))));refine Qb ⟨_,?_,j+1,O,Aa,(D3 Aa hd (by assumption)),(K8 Aa hv (by simpa using hc1)),I9,hF⟩;omega;refine Ic (Ec O ?_);refine Ga (Da (Ba (Qe O) (Ba (Qg iX O) (Ba (Cb O) (Ba (Xh O O) (Ba (Kb O) (Ca ?_)))))));refine Lc (v:=.bool _) O O ?_;obtain rfl:j=ks.length:=by omega
 rw[List.take_length]at hd hv;exact⟨congrArg Value.bool (by unfold So;rw[hv,decide_eq_true hd];rfl),hF.same⟩
mutual
def Wp:Tree->Prop|.node _ t ks xs=>t.length<=140737488355328/\(∀k∈ks,k.length<=140737488355328)/\X5 xs
def X5:List Tree->Prop|[]=>True|x::xs=>Wp x/\X5 xs
end
theorem Nk:∀{xs:List Tree},X5 xs->∀x∈xs,Wp x
  | [],_,_,h=>absurd h La
  | y :: ys, h, x, hx => by
    rw[X5]at h;rcases oQ.1 hx with rfl|hx
    ·exact h.1
    exact Nk h.2 x hx
def nodeB:Tree->Bool
  | .node k t ks xs =>
    if k=5 then decide (ks=[])&&decide (t=[]) else
    if k=6 then So ks xs.length&&decide (t=[]) else
    if ks≠[]\/xs≠[] then false else
    if k=1 then decide (t=[]) else
    if k=2 then decide (t=[116,114,117,101]) || decide (t=[102,97,108,115,101]) else
    if k=3 then Th t else if k=4 then Lib.validD t else if k=7 then BG t else false
def AB(g:Nat)(q:Tree->Bool):Prop:=∀(x:Tree)(S:Nat->Prop)(w0:World)(cs:List Value),Rep S w0 (Jb x) cs->Wp x->Gl w0->Calls prog g #[.agg cs.toArray] w0 (Oc λv w'=>v=.bool (q x)/\Same [] w0 w')
theorem JZ  : AB 130 nodeB:=by
 rintro⟨k,t,ks,xs⟩ S w0 cs hR hk hG;obtain⟨A,c,B,e,rfl,-,-,hK,hX⟩:=hR.tree_inv;rw[Wp]at hk;refine Ea func130 O ntmps130 Bb (Tb _) ?_;have hF:=FR.start w0 [];refine Da (Df hF O ?_);rintro b1 w hb1 hF -;refine Ba (Kb O) (Ca (Fa ?_));refine Be (zs:=.of []) (bQ [0,1,2,3,4,5,6,7,8,9] .nil) hF ?_;intro w hF;refine Hb O (Rb Oe O) (Nf O (Ff yQ O C0 0 O O) (Hb O (Qg iX O) (Hb O (Yx O O) (Hb O (Rb Xb O) (Nf O (Ff zQ O C0 0 O O) (Hb O (Qg jX O) (Hb O (Yx O O) (Hb O (Kb O) (Hb O (Kb O) (d_nil (Ga (Fa (Fa ?_)))))))))))));refine Ja (Ba (Rb Ve O) (Yb (Pi xQ O hF.F 0 O O) (Ca (Sa (Da (Ba (Xh O O) (Ba (Kb O) (Ca ?_))))))));refine Lb O O (λhc0=>?_) (λhc0=>?_);refine Da (Ba (Sc O) (Ba (ynd O) (Ba (Sc O) ?_)));refine Wb (d:=21) O (λhg0=>?_) (λhg0=>?_);refine Ba (Rb Bf O) (Yb (Tn fZ O hF.F 0 O O) (Ba (yes O O) (Ba (Fc O O) (Ba (Kb O) (Ca ?_)))));refine Lc (v:=.bool _) O O ⟨?_,hF.same⟩;clear hF hR hK hX hb1;simp_all[nodeB,List.length_pos_iff];refine Ha (Ha (Ha (Ba (Pc O O) (Ba (Kb O) (Ca ?_)))));refine Lc (v:=.bool false) O O ⟨?_,hF.same⟩;clear hF hR hK hX hb1;simp_all[nodeB,List.length_pos_iff];refine Da (Ba (Xh O O) (Ba (Kb O) (Ca ?_)));refine Lb O O (λhc1=>?_) (λhc1=>?_);refine Da (Ba (Rb Oe O) (Yb (Ff yQ O hF.F 0 O O) (Ba (Rb Xb O) (Yb (Ff zQ O hF.F 0 O O) (Ba (Qg jX O) ?_)))));refine Qa hF (keyed_c ks (xs.length:Nat) S A c (by simpa using hk.2.1) _ (hG.ext hF.same) (hF.rep hK)) (Ua en_193 O O O) ?_;intro w hF;refine Ba (Sc O) (Je (d:=34) O (λhg1=>?_) (λhg1=>?_));refine Ba (Rb Bf O) (Yb (Tn fZ O hF.F 0 O O) (Ba (yes O O) (Ba (Fc O O) (Ba (Kb O) (Ca ?_)))));refine Lc (v:=.bool _) O O ⟨?_,hF.same⟩;clear hF hR hK hX hb1;simp_all[nodeB,List.length_pos_iff];refine Ha (Ha (Ha (Ba (Pc O O) (Ba (Kb O) (Ca ?_)))));refine Lc (v:=.bool false) O O ⟨?_,hF.same⟩;clear hF hR hK hX hb1
 simp_all[nodeB,List.length_pos_iff];refine Na (Wa (Ga (Fa (Da (Ba (Sc O) (Ba (Sc O) ?_))))));refine Wb (d:=40) O (λhg2=>?_) (λhg2=>?_);refine Ha (Ba (Fc O O) (Ca (Od O (Da (Ba (Kb O) (Ca ?_))))));refine Lc (v:=.bool false) O O ⟨?_,hF.same⟩;clear hF hR hK hX hb1;simp_all[nodeB,List.length_pos_iff];refine Ba (Sc O) (Ba (Pc O O) (Ca ?_));refine Lb O O (λhc2=>?_) (λhc2=>?_);refine Da (Ba (Kb O) (Ca ?_));refine Lc (v:=.bool false) O O ⟨?_,hF.same⟩;clear hF hR hK hX hb1;simp_all[nodeB,List.length_pos_iff];refine Na (Ga (Fa (Da (Ba (Rb Ve O) (Yb (Pi xQ O hF.F 0 O O) (Ca (Sa (Da (Ba (Xh O O) (Ba (Kb O) ?_))))))))));refine Ca (Lb O O (λhc3=>?_) (λhc3=>?_));refine Da (Ba (Rb Bf O) (Yb (Tn fZ O hF.F 0 O O) (Ba (yes O O) (Ba (Kb O) (Ca ?_)))));refine Lc (v:=.bool _) O O ⟨?_,hF.same⟩;clear hF hR hK hX hb1;simp_all[nodeB,List.length_pos_iff];refine Da (Ba (Xh O O) (Ba (Kb O) (Ca ?_)));refine Lb O O (λhc4=>?_) (λhc4=>?_);refine Da (Ba (Rb Bf O) (Yb (Tn fZ O hF.F 0 O O) (Ba (yes O O) (Ba (Sc O) ?_))));refine Wb (d:=55) O (λhg3=>?_) (λhg3=>?_);refine Ha (Ha (Ha (Ba (Fc O O) (Ba (Kb O) (Ca ?_)))));refine Lc (v:=.bool true) O O ⟨?_,hF.same⟩;clear hF hR hK hX hb1;simp_all[nodeB,List.length_pos_iff];refine Ba (Rb Bf O) (Yb (Tn fZ O hF.F 0 O O) (Ba (yes O O) (Ba (Pc O O) (Ba (Kb O) (Ca ?_)))));refine Lc (v:=.bool _) O O ⟨?_,hF.same⟩;clear hF hR hK hX hb1;simp_all[nodeB,List.length_pos_iff];refine Da (Ba (Xh O O) (Ba (Kb O) (Ca ?_)));refine Lb O O (λhc5=>?_) (λhc5=>?_);refine Da (Ba (Rb Bf O) (Yb (Tn fZ O hF.F 0 O O) ?_));refine Qa hF (Dv t hk.1 _ (hG.ext hF.same)) (Ma XC O O) ?_;intro w hF;refine Ba (Aj O) (Ba (Ru O O) (Ba (Xn O O) ?_));refine Hf hF wX tZ O ?_;rintro b2 w hb2 hF -;refine Ba (Kb O) (Ob (Ba (Sc O) (Ba (Kb O) (Ca ?_))));refine Lc (v:=.bool _) O O ⟨?_,hF.same⟩
 clear hF hR hK hX hb1;simp_all[nodeB,List.length_pos_iff];refine Da (Ba (Xh O O) (Ba (Kb O) (Ca ?_)));refine Lb O O (λhc6=>?_) (λhc6=>?_);refine Da (Ba (Rb Bf O) (Yb (Tn fZ O hF.F 0 O O) ?_));refine Qa hF (AQ t hk.1 _ (hG.ext hF.same)) (Ma BY O O) ?_;intro w hF;refine Ba (Kb O) (Ca ?_);refine Lc (v:=.bool _) O O ⟨?_,hF.same⟩;clear hF hR hK hX hb1;simp_all[nodeB,List.length_pos_iff];refine Da (Ba (Xh O O) (Ba (Kb O) (Ca ?_)));refine Lb O O (λhc7=>?_) (λhc7=>?_);refine Da (Ba (Rb Bf O) (Yb (Tn fZ O hF.F 0 O O) ?_));refine Qa hF (hole_c t hk.1 _ (hG.ext hF.same)) (Ma en_195 O O) ?_;intro w hF;refine Ba (Kb O) (Ca ?_);refine Lc (v:=.bool _) O O ⟨?_,hF.same⟩;clear hF hR hK hX hb1;simp_all[nodeB,List.length_pos_iff];refine Na (Wa (Ga (Da (Ba (Kb O) (Ca ?_)))));refine Lc (v:=.bool false) O O ⟨?_,hF.same⟩;clear hF hR hK hX hb1;simp_all[nodeB,List.length_pos_iff]
theorem Tree.ind{Q:Tree->Prop}(h:∀k t ks xs,(∀x,x∈xs->Q x)->Q (.node k t ks xs))(x:Tree):Q x :=
  Tree.rec (motive_1:=Q) (motive_2:=λxs=>∀x,x∈xs->Q x) (λk t ks xs ih=>h k t ks xs ih) La
    (λy ys h1 h2=>by
      intro z hz;rcases oQ.1 hz with rfl|hz
      ·exact h1
      exact h2 z hz) x
mutual
def Db:Tree->Nat|.node _ _ _ xs=>1+Nb xs
def Nb:List Tree->Nat|[]=>0|x::xs=>Db x+Nb xs
end
mutual
def Hd:Tree->Nat|.node _ _ _ xs=>Ld xs+1
def Ld:List Tree->Nat|[]=>0|x::xs=>max (Hd x) (Ld xs)
end
theorem Pk:∀(xs ys:List Tree),Nb (xs++ys)=Nb xs+Nb ys
  | [],ys=>by simp[Nb]
  | x::xs,ys=>by simp[Nb,Pk xs ys,Nat.add_assoc]
theorem Xu:∀(xs ys:List Tree),Ld (xs++ys)=max (Ld xs) (Ld ys)
  | [],ys=>by simp[Ld]
  | x::xs,ys=>by simp only[List.cons_append,Ld,Xu xs ys];omega
theorem HI(xs:List Tree)(j:Nat)(hj:j<xs.length):Nb (xs.take (j+1))=Nb (xs.take j)+Db xs[j]:=by
  rw[iQ hj,Pk];simp[Nb]
theorem OD(xs:List Tree)(j:Nat)(hj:j<xs.length):Ld (xs.take (j+1))=max (Ld (xs.take j)) (Hd xs[j]):=by
  rw[iQ hj,Xu];simp[Ld]
theorem Zk:∀{xs:List Tree}{x:Tree},x∈xs->Db x<=Nb xs
  | [],_,h=>absurd h La
  | y :: ys, x, h => by
    rw[Nb];rcases oQ.1 h with rfl|h
    ·omega
    have:=Zk h;omega
theorem H0(x:Tree):1<=Db x:=by cases x;rw[Db];omega
theorem Mj:∀(xs:List Tree),xs.length<=Nb xs
  | []=>by simp[Nb]
  | x::xs=>by have:=Mj xs;have:=H0 x;simp only[Nb,kQ];omega
theorem NV(x:Tree):Hd x<=Db x:=by
  refine Tree.ind (Q:=λx=>Hd x<=Db x) (λk t ks xs ih=>?_) x;have:Ld xs<=Nb xs:=by
    induction xs with
    | nil=>simp[Ld,Nb]
    | cons y ys ihy =>
      have h1:=ih y La;have h2:=ihy (λz hz=>ih z (by simp[hz]));simp only[Ld,Nb];omega
  simp only[Hd,Db];omega
theorem BL(xs:List Tree):Ld xs<=Nb xs:=by
  have:=NV (.node 0 [] [] xs);simp only[Hd,Db]at this;omega
def GW(x:Tree):Prop:=∀S w0 cs,Rep S w0 (Jb x) cs->Calls prog 189 #[.agg cs.toArray] w0 (Oc λv w'=>v=J (wr (Db x))/\Same [] w0 w')
theorem NU(k:Int)(t:Str)(ks:List Str)(xs:List Tree)(ih:∀x,x∈xs->GW x):GW (.node k t ks xs):=by
 intro S w0 cs hR;obtain⟨A,c,B,e,rfl,-,-,-,hX⟩:=hR.tree_inv;have hXl:=hX.slice_len;refine Ea func189 O ntmps189 Bb (Tb _) ?_;have hF:=FR.start w0 [];refine Da (Df hF O ?_);rintro b1 w hb1 hF -;refine Ba (Gb O) (Ob (Ba (Gb O) (Ca (Fa (Da (Ba (Rb Xb O) (Yb (Ff zQ O hF.F 0 O O) (Ba (Qg jX O) ?_))))))));refine Ba (Cb O) (Ca (Sa ?_));refine Rc (λμ σ w=>∃(j:Nat),μ=xs.length-j/\(j<=xs.length)/\AllEq σ [(3,J (wr (1+Nb (xs.take j)))),(7,.slice B xs.length e),(8,J ((xs.length:Nat))),(9,J ((j:Int)))]/\FR w0 [] [(b1,.cells #[J k,I t,.slice A ks.length c,.slice B xs.length e] 36)] w) _ ⟨0,O,(Nat.zero_le _),Ur,hF⟩ ?_;rintro μ σ w ⟨j,rfl,hj,hs,hF⟩;refine Cg.slots hs ?_;clear hs;intro σ;refine Da (Ba (Dl O O) (Ca (Fa ?_)));refine Lb O O (λhc0=>?_) (λhc0=>?_);refine Na (Ga (Fa (Sa (Da ?_))));obtain⟨ad0,cs0,hA0,hl0,hk0,hx0⟩:=hX.tree_elem (i:=j) Aa;have ho0:=hx0.one_;refine Ia (v:=.pointer (some (ad0.add (j*4)))) (Ra (i:=(j:Int)) Tg O hA0 O Aa Aa) (Ia (v:=.agg (List.toArray cs0)) (Za (l:=cs0) aZ oZ O hl0 (hF.cells0 hk0)) ?_);refine Gw (l:=cs0) hF sX (by rw[hl0];exact oZ) (by rw[hl0];rfl) (v:=.agg (List.toArray cs0)) O O (ho0) O ?_;rintro b2 w hb2 hF -;refine Ca (Ja (Ba (Cb O) (Ia (v:=.agg (List.toArray cs0)) (Za (l:=cs0) aZ oZ O hl0 (hF.cellsAll 0 O)) ?_)));refine Qa hF (ih _ (eQ _) _ _ _ (hF.rep hx0)) (Ma en_189 O O) ?_;intro w hF;refine Ia (v:=J (wr (1+Nb (xs.take (j+1))))) (Kr O O (by rw[YS,HI xs j Aa,Int.natCast_add,Int.add_assoc])) (Ba (Gb O) (Eb (Wa (Ga (Ja (Ba (Fm O O) (Ba (Cb O) (Eb ?_))))))));refine Qb ⟨_,?_,j+1,O,Aa,Ur,hF.drop 1⟩;omega;refine Ic (Ec O ?_);refine Ga (Da (Ba (Cb O) (Ba (Gb O) (Ca ?_))));refine Lc (v:=J (wr (1+Nb (xs.take j)))) O O ?_;obtain rfl:j=xs.length:=by omega
 exact⟨by simp[Db],hF.same⟩
theorem size_c(x:Tree):GW x:=Tree.ind NU x
def UL(x:Tree):Prop:=Db x<=1000000000->∀S w0 cs,Rep S w0 (Jb x) cs->Calls prog 190 #[.agg cs.toArray] w0 (Oc λv w'=>v=J (Hd x:Nat)/\Same [] w0 w')
theorem WN(k:Int)(t:Str)(ks:List Str)(xs:List Tree)(ih:∀x,x∈xs->UL x):UL (.node k t ks xs):=by
 intro hsz S w0 cs hR;obtain⟨A,c,B,e,rfl,-,-,-,hX⟩:=hR.tree_inv;have hXl:=hX.slice_len;have hdl:=BL xs;rw[Db]at hsz;refine Ea func190 O ntmps190 Bb (Tb _) ?_;have hF:=FR.start w0 [];refine Da (Df hF O ?_);rintro b1 w hb1 hF -;refine Ba (Gb O) (Ob (Ba (Gb O) (Ca (Fa (Da (Ba (Rb Xb O) (Yb (Ff zQ O hF.F 0 O O) (Ba (Qg jX O) ?_))))))));refine Ba (Cb O) (Ca (Sa ?_));refine Rc (λμ σ w=>∃(j:Nat),μ=xs.length-j/\(j<=xs.length)/\AllEq σ [(3,J ((Ld (xs.take j):Nat))),(7,.slice B xs.length e),(8,J ((xs.length:Nat))),(9,J ((j:Int)))]/\FR w0 [] [(b1,.cells #[J k,I t,.slice A ks.length c,.slice B xs.length e] 36)] w) _ ⟨0,O,(Nat.zero_le _),Ur,hF⟩ ?_;rintro μ σ w ⟨j,rfl,hj,hs,hF⟩;refine Cg.slots hs ?_;clear hs;intro σ;refine Da (Ba (Dl O O) (Ca (Fa ?_)));refine Lb O O (λhc0=>?_) (λhc0=>?_);refine Na (Ga (Fa (Sa (Da ?_))));obtain⟨ad0,cs0,hA0,hl0,hk0,hx0⟩:=hX.tree_elem (i:=j) Aa;have ho0:=hx0.one_;refine Ia (v:=.pointer (some (ad0.add (j*4)))) (Ra (i:=(j:Int)) Tg O hA0 O Aa Aa) (Ia (v:=.agg (List.toArray cs0)) (Za (l:=cs0) aZ oZ O hl0 (hF.cells0 hk0)) ?_);refine Gw (l:=cs0) hF sX (by rw[hl0];exact oZ) (by rw[hl0];rfl) (v:=.agg (List.toArray cs0)) O O (ho0) O ?_;rintro b2 w hb2 hF -;refine Ca (Ja (Ba (Cb O) (Ia (v:=.agg (List.toArray cs0)) (Za (l:=cs0) aZ oZ O hl0 (hF.cellsAll 0 O)) ?_)));refine Qa hF (ih _ (eQ _) (by have:=Zk (List.getElem_mem (l:=xs) (n:=j) Aa);omega) _ _ _ (hF.rep hx0)) (Ma LX O O) ?_;intro w hF;refine Ia (v:=J ((Ld (xs.take (j+1)):Nat))) (by rw[<-show max ((Ld (xs.take j):Nat):Int) ((Hd xs[j]:Nat):Int)=((Ld (xs.take (j+1)):Nat):Int) from by rw[OD xs j Aa];omega];exact x_max O O) ?_;refine Ba (Gb O) (Eb (Wa (Ga (Ja (Ba (Fm O O) (Ba (Cb O) (Eb ?_)))))));refine Qb ⟨_,?_,j+1,O,Aa,Ur,hF.drop 1⟩;omega;refine Ic (Ec O ?_);refine Ga (Da (Ba (Cb O) ?_));have eT:xs.take j=xs:=List.take_of_length_le Aa
 refine Ia (v:=J ((Hd (.node k t ks xs):Nat))) (Kr O O (by rw[eT,Hd];exact Tl Aa Aa Aa)) ?_;refine Ba (Gb O) (Ca ?_);refine Lc (v:=J ((Hd (.node k t ks xs):Nat))) O O ?_;exact⟨O,hF.same⟩
theorem depth_c(x:Tree):UL x:=Tree.ind WN x
theorem Same.cell{w w':World}{a:Addr}{v:Value}(h:Same [] w w')(hc:w.cell? a=some v):w'.cell? a=some v:=((FR.start w []).ext h).cell0 hc
mutual
def Zd(q:Tree->Bool):Tree->Bool|.node k t ks xs=>q (.node k t ks xs)&&Ir q xs
def Ir(q:Tree->Bool):List Tree->Bool|[]=>true|x::xs=>Zd q x&&Ir q xs
end
theorem Lr(q:Tree->Bool):∀xs:List Tree,Ir q xs = !(xs.any λx=>!Zd q x)
  | []=>rfl
  | x::xs=>by rw[Ir,Lr q xs];simp
def EachC(w0:World)(bb:Nat)(xs:List Tree)(q:Tree->Bool):Prop:=∀x,x∈xs->∀S w cs,Same [] w0 w->Rep S w (Jb x) cs->Calls prog 192 #[.agg cs.toArray,V bb] w (Oc λv w'=>v=.bool (q x)/\Same [] w w')
theorem EachC.ext{w0 w:World}{bb:Nat}{xs:List Tree}{q:Tree->Bool}(h:EachC w0 bb xs q)(hs:Same [] w0 w):EachC w bb xs q:=λx hx S w' cs hw=>h x hx S w' cs (hs.trans hw)
theorem AR{q:Tree->Bool}{xs:List Tree}{j:Nat}(h:j<xs.length)(hn:(xs.take j).any q=false)(hq:q xs[j]=false):(xs.take (j+1)).any q=false:=by
  rw[iQ h,List.any_append,hn];simp[hq]
def Fx(g:Nat)(q:Tree->Bool)(x:Tree):Prop:=∀S w0 cs,Rep S w0 (Jb x) cs->Wp x->Gl w0->Calls prog 129 #[.agg cs.toArray,.func (.func g) #[] #[]] w0 (Oc λv w'=>v=.bool (Zd q x)/\Same [] w0 w')
theorem VG(xs:List Tree)(q:Tree->Bool)(bb:Nat)(B:Option Addr)(e:Nat)(S:Nat->Prop)(w0:World)(hX:Rep S w0 (.slice (Ie xs)) [.slice B xs.length e])(hq:EachC w0 bb xs q):Calls prog 240 #[.slice B xs.length e,.func (.func 192) #[] #[V bb]] w0 (Oc λv w'=>∃n:Int,v=J n/\decide (0<=n)=xs.any q/\Same [] w0 w'):=by
 have hXl:=hX.slice_len;refine Ea func240 O ntmps240 Bb (Nc _ _) ?_;have hF:=FR.start w0 [];refine Da (Ba (Gb O) (Ca (Fa (Da (Ba (Qe O) (Ba (Qg jX O) (Ba (Cb O) (Ca (Sa ?_)))))))));refine Rc (λμ σ w=>∃(j:Nat),μ=xs.length-j/\(j<=xs.length)/\((xs.take j).any q=false)/\AllEq σ [(0,.slice B xs.length e),(1,.func (.func 192) #[] #[.pointer (some (⟨bb,0,none⟩))]),(7,J ((xs.length:Nat))),(8,J ((j:Int)))]/\FR w0 [] [] w) _ ⟨0,O,(Nat.zero_le _),La,Ur,hF⟩ ?_;rintro μ σ w ⟨j,rfl,hj,hn,hs,hF⟩;refine Cg.slots hs ?_;clear hs;intro σ;refine Da (Ba (Dl O O) (Ca (Fa ?_)));refine Lb O O (λhc0=>?_) (λhc0=>?_);refine Na (Ga (Fa (Sa (Da (Ba (Cb O) (Ba (Gb O) (Ob (Ba (Vp) (Ba (Qe O) ?_)))))))));refine Ba (Cb O) ?_;obtain⟨ad0,cs0,hA0,hl0,hk0,hx0⟩:=hX.tree_elem (i:=j) Aa;have ho0:=hx0.one_;refine Ia (v:=.pointer (some (ad0.add (j*4)))) (Ra (i:=(j:Int)) Tg O hA0 O Aa Aa) (Ia (v:=.agg (List.toArray cs0)) (Za (l:=cs0) aZ oZ O hl0 (hF.cells0 hk0)) ?_);refine Qa hF (hq _ (List.getElem_mem (l:=xs) (n:=j) Aa) _ _ _ hF.same (hF.rep hx0)) (Bp O en_192 O O) ?_;intro w hF;refine Ca (He O O (λhc1=>?_) (λhc1=>?_));refine Da (Ba (Cb O) (Ba (Gb O) (Ca ?_)));refine Lc (v:=J ((j:Int))) O O ?_;exact⟨_,O,by rw[List.any_eq_true.2 ⟨_,List.getElem_mem (l:=xs) (n:=j) Aa,hc1⟩];simp,hF.same⟩;refine Na (Wa (Ga (Ja (Ba (Fm O O) (Ba (Cb O) (Eb ?_))))));refine Qb ⟨_,?_,j+1,O,Aa,(AR Aa hn hc1),Ur,hF⟩;omega;refine Ic (Ec O ?_);refine Ga (Da (Ba (Gb O) (Ca ?_)));refine Lc (v:=J ((-1))) O O ?_;have eT:xs.take j=xs:=List.take_of_length_le Aa;rw[eT]at hn;exact⟨_,O,by rw[hn];decide,hF.same⟩
theorem Qt(xs:List Tree)(q:Tree->Bool)(bb:Nat)(B:Option Addr)(e:Nat)(S:Nat->Prop)(w0:World)(hX:Rep S w0 (.slice (Ie xs)) [.slice B xs.length e])(hq:EachC w0 bb xs q):Calls prog 191 #[.slice B xs.length e,.func (.func 192) #[] #[V bb]] w0 (Oc λv w'=>v=.bool (xs.any q)/\Same [] w0 w'):=by
 refine Ea func191 O ntmps191 Bb (Nc _ _) ?_;have hF:=FR.start w0 [];refine Da (Ba (Kb O) (Ob (Ba (Qe O) (Ba (Vp) ?_))));refine Ta (VG xs q bb B e S _ (hF.rep hX) (hq.ext hF.same)) (Ua en_240 O O O) ?_;rintro _ w ⟨n,rfl,hn,hE⟩;have hF:=hF.ext hE;refine Ba (V2 O O) (Ba (Kb O) (Ca ?_));refine Lc (v:=.bool _) O O ?_;exact⟨congrArg Value.bool hn,hF.same⟩
theorem UA(g:Nat)(q:Tree->Bool)(x:Tree)(h:Fx g q x)(bb:Nat)(S:Nat->Prop)(w0:World)(cs:List Value)(hR:Rep S w0 (Jb x) cs)(hk:Wp x)(hG:Gl w0)(hb:w0.cell? ⟨bb,0,none⟩=some (.func (.func g) #[] #[])):Calls prog 192 #[.agg cs.toArray,V bb] w0 (Oc λv w'=>v=.bool (!Zd q x)/\Same [] w0 w'):=by
 have hl:cs.length=4:=hR.length.trans (Xc x);have ho:=hR.one_;refine Ea func192 O ntmps192 Bb (Nc _ _) ?_;have hF:=FR.start w0 [];refine Da (Vn (v:=.agg (List.toArray cs)) (cs:=(List.toArray cs)) hF O O ?_);rintro b1 w hb1 hF -;refine Ba (Kb O) (Ob (Ia (v:=.agg (List.toArray cs)) (Za (l:=cs) aZ oZ O hl (hF.cellsAll 0 O)) (Ia (v:=.func (.func g) #[] #[]) (Yc isAgg76 O (hF.cell0 hb)) ?_)));refine Qa hF (h S _ cs (hF.rep hR) hk (hG.ext hF.same)) (Ua WM O O O) ?_;intro w hF;refine Ba (Wi O) (Ba (Kb O) (Ca ?_));refine Lc (v:=.bool _) O O ?_;exact⟨O,hF.same⟩
theorem JE(q:Tree->Bool)(hp:AB 147 q)(k:Int)(t:Str)(ks:List Str)(xs:List Tree)(ih:∀x,x∈xs->Fx 147 q x):Fx 147 q (.node k t ks xs):=by
 intro S w0 cs hR hk hG;have hk':=hk;rw[Wp]at hk';obtain⟨A,c,B,e,rfl,-,-,hK,hX⟩:=hR.tree_inv;refine Ea func129 O ntmps129 Bb (Nc _ _) ?_;have hF:=FR.start w0 [];refine Da (Df hF O ?_);rintro b1 w hb1 hF -;refine KC (.func (.func 147) #[] #[]) hF O ?_;rintro b2 w hb2 hF -;refine Ba (Kb O) (Ob (Yb (ylu isAgg76 O hF.F 0 O O) (Yb (Ig aZ oZ O hF.F 1 O O) ?_)));refine Qa hF (hp (.node k t ks xs) S _ _ (hF.rep hR) hk (hG.ext hF.same)) (Bp O en_147 O O) ?_;intro w hF;refine Ba (Sc O) (Je (d:=8) O (λhg0=>?_) (λhg0=>?_));refine Ba (Rb Xb O) (Yb (Ff zQ O hF.F 1 O O) (Ia (v:=.func (.func 192) #[] #[V b2]) (Bk O) ?_));refine Qa hF (Qt xs (λx=>!Zd q x) b2 B e S _ (hF.rep hX) (λx hx S' w' cs' hs hr=>UA 147 q x (ih x hx) b2 S' w' cs' hr (Nk hk'.2.2 x hx) ((hG.ext hF.same).ext hs) (hs.cell (hF.cell 0 O O)))) (Ua OX O O O) ?_;intro w hF;refine Ba (Wi O) (Ba (Fc O O) (Ba (Kb O) (Ca ?_)));refine Lc (v:=.bool _) O O ⟨?_,hF.same⟩;rw[Zd,Lr];simp_all;refine Ha (Ha (Ha (Ha (Ha (Ba (Pc O O) (Ba (Kb O) (Ca ?_)))))));refine Lc (v:=.bool false) O O ⟨?_,hF.same⟩;rw[Zd,Lr];simp_all
theorem ZS(q:Tree->Bool)(hp:AB 147 q)(x:Tree):Fx 147 q x:=Tree.ind (JE q hp) x
theorem EE(q:Tree->Bool)(hp:AB 130 q)(k:Int)(t:Str)(ks:List Str)(xs:List Tree)(ih:∀x,x∈xs->Fx 130 q x):Fx 130 q (.node k t ks xs):=by
 intro S w0 cs hR hk hG;have hk':=hk;rw[Wp]at hk';obtain⟨A,c,B,e,rfl,-,-,hK,hX⟩:=hR.tree_inv;refine Ea func129 O ntmps129 Bb (Nc _ _) ?_;have hF:=FR.start w0 [];refine Da (Df hF O ?_);rintro b1 w hb1 hF -;refine KC (.func (.func 130) #[] #[]) hF O ?_;rintro b2 w hb2 hF -;refine Ba (Kb O) (Ob (Yb (ylu isAgg76 O hF.F 0 O O) (Yb (Ig aZ oZ O hF.F 1 O O) ?_)));refine Qa hF (hp (.node k t ks xs) S _ _ (hF.rep hR) hk (hG.ext hF.same)) (Bp O IY O O) ?_;intro w hF;refine Ba (Sc O) (Je (d:=8) O (λhg0=>?_) (λhg0=>?_));refine Ba (Rb Xb O) (Yb (Ff zQ O hF.F 1 O O) (Ia (v:=.func (.func 192) #[] #[V b2]) (Bk O) ?_));refine Qa hF (Qt xs (λx=>!Zd q x) b2 B e S _ (hF.rep hX) (λx hx S' w' cs' hs hr=>UA 130 q x (ih x hx) b2 S' w' cs' hr (Nk hk'.2.2 x hx) ((hG.ext hF.same).ext hs) (hs.cell (hF.cell 0 O O)))) (Ua OX O O O) ?_;intro w hF;refine Ba (Wi O) (Ba (Fc O O) (Ba (Kb O) (Ca ?_)));refine Lc (v:=.bool _) O O ⟨?_,hF.same⟩;rw[Zd,Lr];simp_all;refine Ha (Ha (Ha (Ha (Ha (Ba (Pc O O) (Ba (Kb O) (Ca ?_)))))));refine Lc (v:=.bool false) O O ⟨?_,hF.same⟩;rw[Zd,Lr];simp_all
theorem RU(q:Tree->Bool)(hp:AB 130 q)(x:Tree):Fx 130 q x:=Tree.ind (EE q hp) x
def rnodeB(x:Tree):Bool:=decide (x.kind≠7)&&nodeB x
def Qq(x:Tree):Bool:=decide (Db x<=4096)&&decide (Hd x<=32)
def Ag(x:Tree):Bool:=Qq x&&Zd nodeB x
def Ye(x:Tree):Bool:=Qq x&&Zd rnodeB x
theorem WY{n:Nat}(h:n<=1000000000):wr (n:Int)=(n:Int):=Do Aa Aa
theorem rnode_c  : AB 147 rnodeB:=by
 rintro⟨k,t,ks,xs⟩ S w0 cs hR hk hG;obtain⟨A,c,B,e,rfl,-,-,hK,hX⟩:=hR.tree_inv;refine Ea func147 O ntmps147 Bb (Tb _) ?_;have hF:=FR.start w0 [];refine Da (Df hF O ?_);rintro b1 w hb1 hF -;refine Ba (Kb O) (Ob (Ba (Rb Ve O) (Yb (Pi xQ O hF.F 0 O O) (Ba (Sn O O) (Ba (Sc O) ?_)))));refine Wb (d:=6) O (λhg0=>?_) (λhg0=>?_);refine Yb (Ig aZ oZ O hF.F 0 O O) (Qa hF (JZ (.node k t ks xs) S _ _ (hF.rep hR) hk (hG.ext hF.same)) (Ma IY O O) ?_);intro w hF;refine Ba (Fc O O) (Ba (Kb O) (Ca ?_));refine Lc (v:=.bool _) O O ⟨?_,hF.same⟩;simp_all[rnodeB,Tree.kind];refine Ha (Ha (Ba (Pc O O) (Ba (Kb O) (Ca ?_))));refine Lc (v:=.bool false) O O ⟨?_,hF.same⟩;simp_all[rnodeB,Tree.kind]
theorem size_v(x:Tree)(hsz:Db x<=1000000000)(S:Nat->Prop)(w0:World)(cs:List Value)(hR:Rep S w0 (Jb x) cs):Calls prog 189 #[.agg cs.toArray] w0 (Oc λv w'=>v=J (Db x:Nat)/\Same [] w0 w'):=by
  have h:=size_c x S w0 cs hR
  rwa [WY hsz]at h
theorem KP(x:Tree)(hsz:Db x<=1000000000)(S:Nat->Prop)(w0:World)(cs:List Value)(hR:Rep S w0 (Jb x) cs):Calls prog 128 #[.agg cs.toArray] w0 (Oc λv w'=>v=.bool (Qq x)/\Same [] w0 w'):=by
 have hl:cs.length=4:=hR.length.trans (Xc x);have ho:=hR.one_;refine Ea func128 O ntmps128 Bb (Tb _) ?_;have hF:=FR.start w0 [];refine Da (Vn (v:=.agg (List.toArray cs)) (cs:=(List.toArray cs)) hF O O ?_);rintro b1 w hb1 hF -;refine Ba (Kb O) (Ob (Ia (v:=.agg (List.toArray cs)) (Za (l:=cs) aZ oZ O hl (hF.cellsAll 0 O)) ?_));refine Qa hF (size_v x hsz S _ cs (hF.rep hR)) (Ma en_189 O O) ?_;intro w hF;refine Ba (NM O O) (Ba (Sc O) ?_);refine Wb (d:=6) O (λhg0=>?_) (λhg0=>?_);refine Ia (v:=.agg (List.toArray cs)) (Za (l:=cs) aZ oZ O hl (hF.cellsAll 0 O)) (Qa hF (depth_c x hsz S _ cs (hF.rep hR)) (Ma LX O O) ?_);intro w hF;refine Ba (NM O O) (Ba (Fc O O) (Ba (Kb O) (Ca ?_)));refine Lc (v:=.bool _) O O ⟨congrArg Value.bool ?_,hF.same⟩;unfold Qq
 first|(rw[decide_eq_true (by omega:Db x<=4096)];exact decide_eq_decide.2 Aa)|(rw[decide_eq_false (by omega:¬Db x<=4096)];rfl)
 refine Ha (Ha (Ha (Ba (Pc O O) (Ba (Kb O) (Ca ?_)))));refine Lc (v:=.bool false) O O ⟨congrArg Value.bool ?_,hF.same⟩;unfold Qq
 first|(rw[decide_eq_true (by omega:Db x<=4096)];exact decide_eq_decide.2 Aa)|(rw[decide_eq_false (by omega:¬Db x<=4096)];rfl)
theorem N3(x:Tree)(hsz:Db x<=1000000000)(S:Nat->Prop)(w0:World)(cs:List Value)(hR:Rep S w0 (Jb x) cs)(hk:Wp x)(hG:Gl w0):Calls prog 89 #[.agg cs.toArray] w0 (Oc λv w'=>v=.bool (Ye x)/\Same [] w0 w'):=by
 have hl:cs.length=4:=hR.length.trans (Xc x);have ho:=hR.one_;refine Ea func89 O ntmps89 Bb (Tb _) ?_;have hF:=FR.start w0 [];refine Da (Vn (v:=.agg (List.toArray cs)) (cs:=(List.toArray cs)) hF O O ?_);rintro b1 w hb1 hF -;refine Ba (Kb O) (Ob (Ia (v:=.agg (List.toArray cs)) (Za (l:=cs) aZ oZ O hl (hF.cellsAll 0 O)) ?_));refine Qa hF (KP x hsz S _ cs (hF.rep hR)) (Ma JY O O) ?_;intro w hF;refine Ba (Sc O) (Je (d:=5) O (λhg0=>?_) (λhg0=>?_));refine Ia (v:=.agg (List.toArray cs)) (Za (l:=cs) aZ oZ O hl (hF.cellsAll 0 O)) (Qa hF (ZS rnodeB rnode_c x S _ cs (hF.rep hR) hk (hG.ext hF.same)) (Ua WM O O O) ?_);intro w hF;refine Ba (Fc O O) (Ba (Kb O) (Ca ?_));refine Lc (v:=.bool _) O O ?_;exact⟨congrArg Value.bool (by unfold Ye;simp_all),hF.same⟩;refine Ha (Ha (Ba (Pc O O) (Ba (Kb O) (Ca ?_))));refine Lc (v:=.bool false) O O ?_;exact⟨congrArg Value.bool (by unfold Ye;simp_all),hF.same⟩
theorem I7(x:Tree)(hsz:Db x<=1000000000)(S:Nat->Prop)(w0:World)(cs:List Value)(hR:Rep S w0 (Jb x) cs)(hk:Wp x)(hG:Gl w0):Calls prog 81 #[.agg cs.toArray] w0 (Oc λv w'=>v=.bool (Ag x)/\Same [] w0 w'):=by
 have hl:cs.length=4:=hR.length.trans (Xc x);have ho:=hR.one_;refine Ea func81 O ntmps81 Bb (Tb _) ?_;have hF:=FR.start w0 [];refine Da (Vn (v:=.agg (List.toArray cs)) (cs:=(List.toArray cs)) hF O O ?_);rintro b1 w hb1 hF -;refine Ba (Kb O) (Ob (Ia (v:=.agg (List.toArray cs)) (Za (l:=cs) aZ oZ O hl (hF.cellsAll 0 O)) ?_));refine Qa hF (KP x hsz S _ cs (hF.rep hR)) (Ma JY O O) ?_;intro w hF;refine Ba (Sc O) (Je (d:=5) O (λhg0=>?_) (λhg0=>?_));refine Ia (v:=.agg (List.toArray cs)) (Za (l:=cs) aZ oZ O hl (hF.cellsAll 0 O)) (Qa hF (RU nodeB JZ x S _ cs (hF.rep hR) hk (hG.ext hF.same)) (Ua WM O O O) ?_);intro w hF;refine Ba (Fc O O) (Ba (Kb O) (Ca ?_));refine Lc (v:=.bool _) O O ?_;exact⟨congrArg Value.bool (by unfold Ag;simp_all),hF.same⟩;refine Ha (Ha (Ba (Pc O O) (Ba (Kb O) (Ca ?_))));refine Lc (v:=.bool false) O O ?_;exact⟨congrArg Value.bool (by unfold Ag;simp_all),hF.same⟩
end Go.Scarf
