/- A part of the proof. -/
import Derived.Test.YtgkmigdopohcnaaGreatDoorW2
import Derived.Test.YtgkmigdopohcnaaGreatDoorShelf2
import Derived.Lib.ValidLaws
import Derived.Lib.TrimUEq
import Derived.Lib.MapLaws
set_option linter.all false
set_option maxHeartbeats 8000000
set_option maxRecDepth 10000
namespace Go.Scarf
open Go.RowKit Go.Proofs Go.Proofs.Tryz
def Xf(s:Str):Bool:=decide ((Fc s).2=0)&&decide (Tf (Fc s).1=s)
def Mt(s:Str):Bool:=Xf s&&(Er (Fc s).1).2&&decide (0<=(Er (Fc s).1).1)
theorem Jk(s:Str):Rc (Fc s).1=true:=by
  rw[Tg]
  repeat' split
  all_goals first|rfl|simp_all
theorem Ki(s:Str):(Fc s).1.digits.length<=1000:=(Vc (Jk s)).1
theorem Wj(s:Str)(q:Nat):Lib.decodeL (s.drop q)=Utf8.decode (bs s) q:=Lib.decodeL_drop (bs s) q
theorem Wf(s:Str)(q:Nat):1<=(Utf8.decode (bs s) q).2:=by rw[<-Wj];exact Lib.decodeL_width _
theorem Mp(s:Str)(q:Nat)(h:q<s.length):q+(Utf8.decode (bs s) q).2<=s.length:=by
  have:=Lib.decodeL_le (s.drop q) (by rw[ne_eq,List.drop_eq_nil_iff];omega);rw[Wj,List.length_drop]at this;omega
theorem S5(s:Str)(q:Nat)(h:q<s.length)(hv:Lib.validD (s.drop q)=false)(hn:¬((Utf8.decode (bs s) q).1=65533/\(Utf8.decode (bs s) q).2=1)):Lib.validD (s.drop (q+(Utf8.decode (bs s) q).2))=false:=by
  rw[Lib.validD_step _ (by rw[ne_eq,List.drop_eq_nil_iff];omega),Wj,if_neg hn,List.drop_drop]at hv;exact hv
theorem Bx(s:Str)(q:Nat)(h:q<s.length):Lib.decodeGo (bs (s.drop q))=Utf8.decode (bs s) q:=by
  have h1:(bs (s.drop q)).size≠0:=by rw[Eo,List.length_drop];omega
  rw[Lib.decodeGo,if_neg h1];exact Wj s q
theorem K8(s:Str)(hl:s.length<=140737488355328){w:World}(hG:Gl w):Calls prog 102 #[I s] w (Dd λv w'=>v=.bool (Lib.validD s)/\Same [] w w') :=
  Cw (utf8_ValidString (bs s) w (by rw[Eo];omega) hG.tabs)
theorem Fz(s:Str){w:World}(hG:Gl w):Calls prog 103 #[I s] w (Dd λv w'=>v=.tuple #[.int .i32 (Lib.decodeGo (bs s)).1,J (Lib.decodeGo (bs s)).2]/\Same [] w w') :=
  Cw (utf8_DecodeRuneInString (bs s) w hG.tabs)
theorem HC(s:Str)(hl:s.length<=140737488355328)(w0:World)(hG:Gl w0):Calls prog 60 #[I s] w0 (Dd λv w'=>∃n,v=.tuple #[J n,.bool (Lib.validD s)]/\Same [] w0 w'):=by
  refine Ia func60 O ntmps60 Eb (Yb _) ?_;have hF:=FR.start w0 [];refine Ga (Ha ?_);refine Ba (Gb O) (Ba (Db O) ?_);refine Ta (Fa ?_);refine Ga (Ga ?_);refine Ha (Ba (Bc O) ?_);refine Oa hF (K8 s hl (hG.ext hF.same)) (Na en_102 O O) ?_;intro w hF;refine Ta (Fa ?_);refine Le O O (λhc0=>?_) (λhc0=>?_)
  ·
   refine Ga (Ha ?_);refine Ba (Bc O) (Ba (Fj jX O) ?_);refine Ba (Gb O) (Ba (Db O) ?_);refine Ta (Fa ?_);refine Va (Ua (Ja (Ic (v:=J ((((s):Str).length:Int))) (x:=.bool true) O O O) ?_));exact⟨_,by rw[hc0],hF.same⟩
  refine La (Fa ?_);refine Ga (Ga ?_);refine Ha (Ba (Bc O) ?_);refine Uz (str:=s) hF jX O ?_;intro b1 w hb1 hF hE;refine Ta (Fa ?_);refine Qa (Jc (λμ σ w=>∃(q:Nat),μ=s.length-q/\(q<=s.length)/\(Lib.validD (s.drop q)=false)/\AllEq σ [(0,I s),(13,V b1)]/\FR w0 [] [(b1,.stringIter (bs s) (q))] w) _ ⟨0,O,(Nat.zero_le _),(by simpa using hc0),J4,hF⟩ ?_);rintro μ σ w ⟨q,rfl,hq,hv,hs,hF⟩;refine Cg.slots hs ?_;clear hs;intro σ;refine Ga (Ha ?_);by_cases hn0:(q)<(s:Str).length
  ·
   refine E4 0 (p:=q) (str:=s) hF O O hn0 ?_;intro w hF hE;refine Ba (Ao O O) (Ta ?_);refine Fa (Ga ?_);refine Ad O (La ?_);refine Fa (Qa ?_);refine Ga (Ha ?_);refine Ba (Tj O O) (Ba (Tj O O) ?_);refine Ba (Gb O) (Ba (Gb O) ?_);refine Ta (Fa ?_);refine Ga (Ga ?_);refine Ha (Ba (Za O) ?_);refine Ba (Vk O O) (Ta ?_);refine Fa (Ib O O (λhc2=>?_) (λhc2=>?_))
   ·
    refine Ec (Ac O ?_);have h1:=Wf s q;have hw:¬((Utf8.decode (bs s) q).1=65533/\(Utf8.decode (bs s) q).2=1):=by
      first
      | (intro hh;omega)
      | (rw[Bx s q Aa]at hc3;intro hh;omega)
    refine Hb ⟨_,?_,q+(Utf8.decode (bs s) q).2,O,(Mp s q Aa),(S5 s q Aa hv hw),J4,hF⟩;omega
   refine La (Fa ?_);refine Ga (Ha ?_);refine Ba (Bc O) (Ba (Za O) ?_);refine Ka (v:=I ((s:Str).drop (q))) (Pg (q) jX O O Aa) (Oa hF (Fz (s.drop q) (hG.ext hF.same)) (Na NW O O) ?_);intro w hF;refine Ba (Qk O) (Ba (Tj O O) ?_);refine Ba (Tj O O) (Ba (Gb O) ?_);refine Ba (Gb O) (Ta ?_);refine Fa (Ga ?_);refine Ha (Ba (Za O) ?_);refine Ba (Qf O O) (Ta ?_);refine Fa (Ib O O (λhc3=>?_) (λhc3=>?_))
   ·
    refine Ga (Ha ?_);refine Ba (Za O) (Ba (Gb O) ?_);refine Ba (Db O) (Ta ?_);refine Fa (Va (Ua (Ja (Ic (v:=J (((q:Nat):Int))) (x:=.bool false) O O O) ?_)));exact⟨_,by rw[hc0],hF.same⟩
   refine La (Bb ?_);have h1:=Wf s q;have hw:¬((Utf8.decode (bs s) q).1=65533/\(Utf8.decode (bs s) q).2=1):=by
     first
     | (intro hh;omega)
     | (rw[Bx s q Aa]at hc3;intro hh;omega)
   refine Hb ⟨_,?_,q+(Utf8.decode (bs s) q).2,O,(Mp s q Aa),(S5 s q Aa hv hw),J4,hF⟩;omega
  refine Qs 0 (p:=q) (str:=s) hF O O hn0 (Ba (Ao O O) ?_);refine Ta (Fa ?_);refine Ga (De O ?_);refine Ec (Ac O ?_);refine Fa (Ga ?_);refine Ha (Ba (Bc O) ?_);refine Ba (Fj jX O) (Ba (Gb O) ?_);refine Ba (Db O) (Ta ?_);refine Fa (Va (Ua (Ja (Ic (v:=J ((((s):Str).length:Int))) (x:=.bool true) O O O) ?_)));have e:s.drop q=[]:=List.drop_eq_nil_of_le Aa;rw[e]at hv;cases hv
theorem QM(s:Str)(hl:s.length<=140737488355328)(w0:World)(hG:Gl w0):Calls prog 125 #[I s] w0 (Dd λv w'=>v=.bool (Lib.validD s)/\Same [] w0 w'):=by
 refine Ia func125 O ntmps125 Eb (Yb _) ?_;have hF:=FR.start w0 [];refine Ea (Ba (Db O) (Rb (Ba (Bc O) ?_)));refine Lb (HC s hl _ (hG.ext hF.same)) (Na en_60 O O) ?_;rintro _ w ⟨n,rfl,hE⟩;have hF:=hF.ext hE;refine Ba (Qk O) (Ba (Tj O O) (Ba (Ao O O) (Ba (Gb O) (Ba (Db O) (Rb (Ba (Vb O) (Ba (Db O) (Da ?_))))))));refine Gc (v:=.bool _) O O ?_;exact⟨O,hF.same⟩
theorem Wv(s:Str)(hl:s.length<=140737488355328)(w0:World)(hG:Gl w0):Calls prog 81 #[I s] w0 (Dd λv w'=>v=.tuple #[Hl (Fc s).1,.bool (Xf s)]/\Same [] w0 w'):=by
 refine Ia func81 O ntmps81 Eb (Yb _) ?_;have hF:=FR.start w0 [];refine Ea (Wc (cs:=#[.bool false,I [],J 0]) hF pX O ?_);rintro b1 w hb1 hF -;refine Ba (Db O) (Rb (Ba (Bc O) ?_));refine Oa hF (Ly s hl _) (Na WD O O) ?_;intro w hF;refine Ba (Qk O) (Ba (Iw O O) (Ba (Tj O O) ?_));refine Gg hF pX rZ O ?_;rintro b2 w hb2 hF -;refine Ba (Gb O) (Da (Ga ?_));refine Ke (.of []) (bQ [0,1,2,3,4,6] (.act 5 (.free 7 (.free 8 (.act 9 (.free 10 .nil)))))) hF ?_;rintro w hF -;refine⟨λwq=>FR w0 [] [(b2,.cells #[.bool ((Fc s).1.neg),I ((Fc s).1.digits),J ((Fc s).1.exp)] 86)] wq,hF.sub (.cons_cons _ (.cons _ .slnil)),?_⟩;refine Fg O (Of iZ rZ O C0 0 O O) (Jb O (Za O) (Jb O (Qf O O) (Jb O (Vb O) ?_)));refine Zk (d:=14) O (λhg0=>?_) (λhg0=>?_);refine Fg O (Of iZ rZ O C0 0 O O) (Jb O (Bc O) ?_);refine Ed hF (MB (Fc s).1 (by have:=Ki s;omega) _ (hG.ext hF.same)) O (Na PM O O) ?_;intro w hF;refine⟨hF.sub (.cons_cons _ (.cons _ .slnil)),?_⟩;refine Jb O (Rw O O) (Jb O (Tb O O) ?_);refine On O hF rZ O O Js ?_;rintro w hF -;refine⟨hF.sub (.cons_cons _ (.cons _ .slnil)),?_⟩;refine Jb O (Db O) (Hc (Fa ?_));refine Va (Ua (Ja (Nc O (l:=[.bool ((Fc s).1.neg),I ((Fc s).1.digits),J ((Fc s).1.exp)]) O iZ rZ O (hF.cellsAll 1 O) (v:=.bool (decide ((Tf (Fc s).1:Str)=s))) O) ?_));exact⟨by simp_all[Xf,Hl],hF.same⟩;refine Fe O (Fe O ?_);refine HJ O ?_ (hF.sub (.cons_cons _ (.cons _ .slnil)));refine Fe O (Jb O (Kb O O) ?_);refine On O hF rZ O O Js ?_;rintro w hF -;refine⟨hF.sub (.cons_cons _ (.cons _ .slnil)),?_⟩;refine Jb O (Db O) (Hc (Fa ?_));refine Va (Ua (Ja (Nc O (l:=[.bool ((Fc s).1.neg),I ((Fc s).1.digits),J ((Fc s).1.exp)]) O iZ rZ O (hF.cellsAll 1 O) (v:=.bool false) O) ?_));exact⟨by simp_all[Xf,Hl],hF.same⟩
theorem hole_c(s:Str)(hl:s.length<=140737488355328)(w0:World)(hG:Gl w0):Calls prog 126 #[I s] w0 (Dd λv w'=>v=.bool (Mt s)/\Same [] w0 w'):=by
 refine Ia func126 O ntmps126 Eb (Yb _) ?_;have hF:=FR.start w0 [];refine Ea (Ba (Db O) (Rb (Ba (Bc O) ?_)));refine Oa hF (Wv s hl _ (hG.ext hF.same)) (Na LO O O) ?_;intro w hF;refine Ba (Qk O) (Ba (Iw O O) (Ba (Ao O O) ?_));refine Gg hF pX rZ O ?_;rintro b1 w hb1 hF -;refine Ba (Db O) (Rb (Zb (Of iZ rZ O hF.F 0 O O) ?_));refine Oa hF (TH (Fc s).1 (by have:=Ki s;omega) _ (hG.ext hF.same)) (Na ZX O O) ?_;intro w hF;refine Ba (Qk O) (Ba (Tj O O) (Ba (Ao O O) (Ba (Gb O) (Ba (Db O) (Rb (Ba (Vb O) (Ba (Vb O) ?_)))))));refine Lc (d:=18) O (λhg0=>?_) (λhg0=>?_);refine Ba (Vb O) (Ba (Tb O O) (Ba (Vb O) ?_));refine Lc (d:=21) O (λhg1=>?_) (λhg1=>?_);refine Ba (Za O) (Ba (Nw O O) (Ba (Tb O O) (Ba (Db O) (Da ?_))));refine Gc (v:=.bool _) O O ?_;exact⟨by simp_all[Mt],hF.same⟩;refine Ca (Ca (Ba (Kb O O) (Ba (Db O) (Da ?_))));refine Gc (v:=.bool false) O O ?_;exact⟨by simp_all[Mt],hF.same⟩;refine Ca (Ba (Kb O O) (Ba (Vb O) (Ca (Ca (Ba (Kb O O) (Ba (Db O) (Da ?_)))))));refine Gc (v:=.bool false) O O ?_;exact⟨by simp_all[Mt],hF.same⟩
def Sl(ks:List Str)(n:Int):Bool:=decide ks.Nodup&&ks.all Lib.validD&&decide ((ks.length:Int)=n)
def Ry(ks:List Str):MapL:=ks.map λk=>(k,.bool true)
theorem W6(ks:List Str)(k:Str):Ah (Ry ks) k=if k∈ks then some (.bool true) else none:=by
  induction ks with
  | nil=>rfl
  | cons a r ih =>
    have e:Ry (a::r)=[(a,.bool true)]++Ry r:=rfl;rw[e,QC,ih];by_cases h:a=k
    ·subst h;simp[Ah]
    have h' : ¬ k = a := λe => h e.symm;simp[Ah,h,h']
theorem VI(ks:List Str)(j:Nat)(h:j<ks.length):Ry (ks.take j)++[(ks[j],.bool true)]=Ry (ks.take (j+1)):=by
  unfold Ry;rw[iQ h,jQ];rfl
theorem Ht{ks:List Str}{j:Nat}(h:j<ks.length)(hn:(ks.take j).Nodup)(hi:¬ks[j]∈ks.take j):(ks.take (j+1)).Nodup:=by
  rw[iQ h,List.nodup_append];refine⟨hn,by simp,?_⟩;intro a ha b hb e;simp only[pQ]at hb;subst e;subst hb;exact hi ha
theorem Fs{ks:List Str}{j:Nat}(h:j<ks.length)(hi:ks[j]∈ks.take j):¬ks.Nodup:=by
  intro hn;obtain⟨i,hi',he⟩:=List.getElem_of_mem hi;rw[List.getElem_take]at he;have hi2:i<j:=by rw[List.length_take]at hi';omega
  have:=(List.pairwise_iff_getElem.1 hn) i j Aa h hi2;exact this he
theorem Ww{f:Str->Bool}{ks:List Str}{j:Nat}(h:j<ks.length)(ha:(ks.take j).all f=true)(hv:f ks[j]=true):(ks.take (j+1)).all f=true:=by
  rw[iQ h,List.all_append,ha];simp[hv]
theorem HO{f:Str->Bool}{ks:List Str}{j:Nat}(h:j<ks.length)(hv:f ks[j]=false):ks.all f=false:=by
  rw[Bool.eq_false_iff];intro ha;have:=List.all_eq_true.1 ha ks[j] (eQ h);rw[hv]at this;cases this
theorem keyed_c(ks:List Str)(n:Int)(S:Nat->Prop)(A:Option Addr)(c:Nat)(hl:∀k∈ks,k.length<=140737488355328)(w0:World)(hG:Gl w0)(hX:Rep S w0 (Ni ks) [.slice A ks.length c]):Calls prog 124 #[.slice A ks.length c,J n] w0 (Dd λv w'=>v=.bool (Sl ks n)/\Same [] w0 w'):=by
 have hXl:=hX.slice_len;refine Ia func124 O ntmps124 Eb (Pc _ _) ?_;have hF:=FR.start w0 [];refine Ea (Ba (Db O) (Rb (Ba (Sf O) (Ba (Ch yZ O) ?_))));refine My (v:=λb=>.map (some b)) hF (V8 underlying191 O) ?_;rintro b1 w hb1 hF -;refine Ba (T0) (Da (Ga (Ea (Ba (Sf O) (Ba (Ch yZ O) (Ba (Za O) (Da (Qa ?_))))))));have hF:FR w0 [] [(b1,Vh (Ry (ks.take 0)))] w:=hF;refine Jc (λμ σ w=>∃(j:Nat),μ=ks.length-j/\(j<=ks.length)/\((ks.take j).Nodup)/\((ks.take j).all Lib.validD=true)/\AllEq σ [(0,.slice A ks.length c),(1,J n),(5,.map (some b1)),(11,.slice A ks.length c),(12,J ((ks.length:Nat))),(13,J ((j:Int)))]/\FR w0 [] [(b1,Vh (Ry (ks.take j)))] w) _ ⟨0,O,(Nat.zero_le _),Ma,Ma,U7,hF⟩ ?_;rintro μ σ w ⟨j,rfl,hj,hd,hv,hs,hF⟩;refine Cg.slots hs ?_;clear hs;intro σ;refine Ea (Ba (Di O O) (Da (Ga ?_)));refine Ib O O (λhc0=>?_) (λhc0=>?_);refine La (Fa (Ga (Qa (Ea ?_))));obtain⟨ad0,hA0,hk0,hx0⟩:=hX.str_elem (i:=j) Aa;refine Ka (v:=.pointer (some (ad0.add (j*1)))) (Sa (i:=(j:Int)) Ip O hA0 O Aa Aa) (Ka (v:=I (ks[j])) (Qd jZ O (hF.cell0 hk0)) (Ba (Fd O) (Da (Ga (Ea (Ba (Nt) (Ba (Bc O) ?_)))))));refine Ka (v:=.bool (decide (ks[j]∈ks.take j))) (Uv underlying191 jX zeroValue4 O O (hF.heap (i:=0) O) (by rw[W6];split <;> rename_i hh <;> simp only[hh,decide_true,decide_false] <;> rfl)) ?_;refine Ba (Vb O) (Ya (d:=20) O (λhg1=>?_) (λhg1=>?_));refine Ca (Ca (Ca (Ba (Tb O O) (Da (Ad O (Ea (Ba (Db O) (Da ?_))))))));refine Gc (v:=.bool false) O O ?_;have:=Fs (ks:=ks) (j:=j) Aa (by assumption);exact⟨congrArg Value.bool (by unfold Sl;rw[decide_eq_false this];rfl),hF.same⟩;refine Ba (Bc O) (Oa hF (QM ks[j] (hl _ (eQ _)) _ (hG.ext hF.same)) (Na EY O O) ?_);intro w hF;refine Ba (Si O) (Ba (Kb O O) (Da ?_));refine Le O O (λhc1=>?_) (λhc1=>?_);refine Ea (Ba (Db O) (Da ?_))
 refine Gc (v:=.bool false) O O ?_;have:=HO (f:=Lib.validD) (ks:=ks) (j:=j) Aa (by simpa using hc1);exact⟨congrArg Value.bool (by unfold Sl;rw[this,Bool.and_false];rfl),hF.same⟩;refine La (Fa (Ha (Ba (Nt) (Ba (Bc O) ?_))));refine K3 0 (v:=.bool true) hF underlying191 jX O O O O (by rw[W6,if_neg (by assumption)]) ?_;rintro w hF -;rw[VI ks j Aa]at hF;have hF:FR w0 [] [(b1,Vh (Ry (ks.take (j+1))))] w:=hF;refine Ta (Bb (Fa (Ha (Ba (Nl O O) (Ba (Za O) (Ta ?_))))));refine Hb ⟨_,?_,j+1,O,Aa,(Ht Aa hd (by assumption)),(Ww Aa hv (by simpa using hc1)),U7,hF⟩;omega;refine Ec (Ac O ?_);refine Fa (Ea (Ba (Sf O) (Ba (Ch yZ O) (Ba (Za O) (Ba (Qf O O) (Ba (Db O) (Da ?_)))))));refine Gc (v:=.bool _) O O ?_;obtain rfl:j=ks.length:=by omega
 rw[List.take_length]at hd hv;exact⟨congrArg Value.bool (by unfold Sl;rw[hv,decide_eq_true hd];rfl),hF.same⟩
mutual
def Vp:Tree->Prop|.node _ t ks xs=>t.length<=140737488355328/\(∀k∈ks,k.length<=140737488355328)/\N5 xs
def N5:List Tree->Prop|[]=>True|x::xs=>Vp x/\N5 xs
end
theorem Jl:∀{xs:List Tree},N5 xs->∀x∈xs,Vp x
  | [],_,_,h=>absurd h Ma
  | y :: ys, h, x, hx => by
    rw[N5]at h;rcases oQ.1 hx with rfl|hx
    ·exact h.1
    exact Jl h.2 x hx
def nodeB:Tree->Bool
  | .node k t ks xs =>
    if k=5 then decide (ks=[])&&decide (t=[]) else
    if k=6 then Sl ks xs.length&&decide (t=[]) else
    if ks≠[]\/xs≠[] then false else
    if k=1 then decide (t=[]) else
    if k=2 then decide (t=[116,114,117,101]) || decide (t=[102,97,108,115,101]) else
    if k=3 then Xf t else if k=4 then Lib.validD t else if k=7 then Mt t else false
def H9(g:Nat)(q:Tree->Bool):Prop:=∀(x:Tree)(S:Nat->Prop)(w0:World)(cs:List Value),Rep S w0 (Pb x) cs->Vp x->Gl w0->Calls prog g #[.agg cs.toArray] w0 (Dd λv w'=>v=.bool (q x)/\Same [] w0 w')
theorem len_pos{α:Type}(l:List α):decide ((0:Int)<(l.length:Int))=decide (l≠[]):=by
  cases l <;> simp
theorem TZ  : H9 80 nodeB:=by
 rintro⟨k,t,ks,xs⟩ S w0 cs hR hk hG;obtain⟨A,c,B,e,rfl,-,-,hK,hX⟩:=hR.tree_inv;rw[Vp]at hk;refine Ia func80 O ntmps80 Eb (Yb _) ?_;have hF:=FR.start w0 [];refine Ea (Oe hF O ?_);rintro b1 w hb1 hF -;refine Ba (Db O) (Da (Ga ?_));refine Md (zs:=.of []) (bQ [0,1,2,3,4,5,6,7,8,9] .nil) hF ?_;intro w hF;refine Jb O (Ob Td O) (Fg O (Xe yQ O C0 0 O O) (Jb O (Ch yZ O) (Jb O (Ho O O) (Jb O (Ob Xb O) (Fg O (Xe zQ O C0 0 O O) (Jb O (Ch zZ O) (Jb O (Ho O O) (Jb O (Db O) (Jb O (Db O) (Hc (Fa (Ga (Ga ?_)))))))))))));refine Ha (Ba (Ob Xd O) (Zb (Th eZ O hF.F 0 O O) (Da (Qa (Ea (Ba (Qf O O) (Ba (Db O) (Da ?_))))))));refine Ib O O (λhc0=>?_) (λhc0=>?_);refine Ea (Ba (Vb O) (Ba (ynd O) (Ba (Vb O) ?_)));refine Ya (d:=21) O (λhg0=>?_) (λhg0=>?_);refine Ba (Ob Wd O) (Zb (Pk jZ O hF.F 0 O O) (Ba (Rw O O) (Ba (Tb O O) (Ba (Db O) (Da ?_)))));refine Gc (v:=.bool _) O O ⟨?_,hF.same⟩;clear hF hR hK hX hb1;simp_all[nodeB,List.length_pos_iff];refine Ca (Ca (Ca (Ba (Kb O O) (Ba (Db O) (Da ?_)))));refine Gc (v:=.bool false) O O ⟨?_,hF.same⟩;clear hF hR hK hX hb1;simp_all[nodeB,List.length_pos_iff];refine Ea (Ba (Qf O O) (Ba (Db O) (Da ?_)));refine Ib O O (λhc1=>?_) (λhc1=>?_);refine Ea (Ba (Ob Td O) (Zb (Xe yQ O hF.F 0 O O) (Ba (Ob Xb O) (Zb (Xe zQ O hF.F 0 O O) (Ba (Ch zZ O) ?_)))));refine Oa hF (keyed_c ks (xs.length:Nat) S A c (by simpa using hk.2.1) _ (hG.ext hF.same) (hF.rep hK)) (Xa en_124 O O O) ?_;intro w hF;refine Ba (Vb O) (Lc (d:=34) O (λhg1=>?_) (λhg1=>?_));refine Ba (Ob Wd O) (Zb (Pk jZ O hF.F 0 O O) (Ba (Rw O O) (Ba (Tb O O) (Ba (Db O) (Da ?_)))));refine Gc (v:=.bool _) O O ⟨?_,hF.same⟩;clear hF hR hK hX hb1;simp_all[nodeB,List.length_pos_iff];refine Ca (Ca (Ca (Ba (Kb O O) (Ba (Db O) (Da ?_)))));refine Gc (v:=.bool false) O O ⟨?_,hF.same⟩;clear hF hR hK hX hb1
 simp_all[nodeB,List.length_pos_iff];refine La (Bb (Fa (Ga (Ea (Ba (Vb O) (Ba (Vb O) ?_))))));refine Ya (d:=40) O (λhg2=>?_) (λhg2=>?_);refine Ca (Ba (Tb O O) (Da (Ad O (Ea (Ba (Db O) (Da ?_))))));refine Gc (v:=.bool false) O O ⟨?_,hF.same⟩;clear hF hR hK hX hb1;simp_all[nodeB,List.length_pos_iff];refine Ba (Vb O) (Ba (Kb O O) (Da ?_));refine Ib O O (λhc2=>?_) (λhc2=>?_);refine Ea (Ba (Db O) (Da ?_));refine Gc (v:=.bool false) O O ⟨?_,hF.same⟩;clear hF hR hK hX hb1;simp_all[nodeB,List.length_pos_iff];refine La (Fa (Ga (Ea (Ba (Ob Xd O) (Zb (Th eZ O hF.F 0 O O) (Da (Qa (Ea (Ba (Qf O O) (Ba (Db O) ?_))))))))));refine Da (Ib O O (λhc3=>?_) (λhc3=>?_));refine Ea (Ba (Ob Wd O) (Zb (Pk jZ O hF.F 0 O O) (Ba (Rw O O) (Ba (Db O) (Da ?_)))));refine Gc (v:=.bool _) O O ⟨?_,hF.same⟩;clear hF hR hK hX hb1;simp_all[nodeB,List.length_pos_iff];refine Ea (Ba (Qf O O) (Ba (Db O) (Da ?_)));refine Ib O O (λhc4=>?_) (λhc4=>?_);refine Ea (Ba (Ob Wd O) (Zb (Pk jZ O hF.F 0 O O) (Ba (Rw O O) (Ba (Vb O) ?_))));refine Ya (d:=55) O (λhg3=>?_) (λhg3=>?_);refine Ca (Ca (Ca (Ba (Tb O O) (Ba (Db O) (Da ?_)))));refine Gc (v:=.bool true) O O ⟨?_,hF.same⟩;clear hF hR hK hX hb1;simp_all[nodeB,List.length_pos_iff];refine Ba (Ob Wd O) (Zb (Pk jZ O hF.F 0 O O) (Ba (Rw O O) (Ba (Kb O O) (Ba (Db O) (Da ?_)))));refine Gc (v:=.bool _) O O ⟨?_,hF.same⟩;clear hF hR hK hX hb1;simp_all[nodeB,List.length_pos_iff];refine Ea (Ba (Qf O O) (Ba (Db O) (Da ?_)));refine Ib O O (λhc5=>?_) (λhc5=>?_);refine Ea (Ba (Ob Wd O) (Zb (Pk jZ O hF.F 0 O O) ?_));refine Oa hF (Wv t hk.1 _ (hG.ext hF.same)) (Na LO O O) ?_;intro w hF;refine Ba (Qk O) (Ba (Iw O O) (Ba (Ao O O) ?_));refine Gg hF pX rZ O ?_;rintro b2 w hb2 hF -;refine Ba (Db O) (Rb (Ba (Vb O) (Ba (Db O) (Da ?_))));refine Gc (v:=.bool _) O O ⟨?_,hF.same⟩
 clear hF hR hK hX hb1;simp_all[nodeB,List.length_pos_iff];refine Ea (Ba (Qf O O) (Ba (Db O) (Da ?_)));refine Ib O O (λhc6=>?_) (λhc6=>?_);refine Ea (Ba (Ob Wd O) (Zb (Pk jZ O hF.F 0 O O) ?_));refine Oa hF (QM t hk.1 _ (hG.ext hF.same)) (Na EY O O) ?_;intro w hF;refine Ba (Db O) (Da ?_);refine Gc (v:=.bool _) O O ⟨?_,hF.same⟩;clear hF hR hK hX hb1;simp_all[nodeB,List.length_pos_iff];refine Ea (Ba (Qf O O) (Ba (Db O) (Da ?_)));refine Ib O O (λhc7=>?_) (λhc7=>?_);refine Ea (Ba (Ob Wd O) (Zb (Pk jZ O hF.F 0 O O) ?_));refine Oa hF (hole_c t hk.1 _ (hG.ext hF.same)) (Na en_126 O O) ?_;intro w hF;refine Ba (Db O) (Da ?_);refine Gc (v:=.bool _) O O ⟨?_,hF.same⟩;clear hF hR hK hX hb1;simp_all[nodeB,List.length_pos_iff];refine La (Bb (Fa (Ea (Ba (Db O) (Da ?_)))));refine Gc (v:=.bool false) O O ⟨?_,hF.same⟩;clear hF hR hK hX hb1;simp_all[nodeB,List.length_pos_iff]
theorem Tree.ind{Q:Tree->Prop}(h:∀k t ks xs,(∀x,x∈xs->Q x)->Q (.node k t ks xs))(x:Tree):Q x :=
  Tree.rec (motive_1:=Q) (motive_2:=λxs=>∀x,x∈xs->Q x) (λk t ks xs ih=>h k t ks xs ih) Ma
    (λy ys h1 h2=>by
      intro z hz;rcases oQ.1 hz with rfl|hz
      ·exact h1
      exact h2 z hz) x
mutual
def Qb:Tree->Nat|.node _ _ _ xs=>1+Dc xs
def Dc:List Tree->Nat|[]=>0|x::xs=>Qb x+Dc xs
end
mutual
def Cd:Tree->Nat|.node _ _ _ xs=>Jd xs+1
def Jd:List Tree->Nat|[]=>0|x::xs=>max (Cd x) (Jd xs)
end
theorem Al:∀(xs ys:List Tree),Dc (xs++ys)=Dc xs+Dc ys
  | [],ys=>by simp[Dc]
  | x::xs,ys=>by simp[Dc,Al xs ys,Nat.add_assoc]
theorem Nu:∀(xs ys:List Tree),Jd (xs++ys)=max (Jd xs) (Jd ys)
  | [],ys=>by simp[Jd]
  | x::xs,ys=>by simp only[List.cons_append,Jd,Nu xs ys];omega
theorem B3(xs:List Tree)(j:Nat)(hj:j<xs.length):Dc (xs.take (j+1))=Dc (xs.take j)+Qb xs[j]:=by
  rw[iQ hj,Al];simp[Dc]
theorem Rz(xs:List Tree)(j:Nat)(hj:j<xs.length):Jd (xs.take (j+1))=max (Jd (xs.take j)) (Cd xs[j]):=by
  rw[iQ hj,Nu];simp[Jd]
theorem Ug:∀{xs:List Tree}{x:Tree},x∈xs->Qb x<=Dc xs
  | [],_,h=>absurd h Ma
  | y :: ys, x, h => by
    rw[Dc];rcases oQ.1 h with rfl|h
    ·omega
    have:=Ug h;omega
theorem O9(x:Tree):1<=Qb x:=by cases x;rw[Qb];omega
theorem Vm:∀(xs:List Tree),xs.length<=Dc xs
  | []=>by simp[Dc]
  | x::xs=>by have:=Vm xs;have:=O9 x;simp only[Dc,kQ];omega
theorem WZ(x:Tree):Cd x<=Qb x:=by
  refine Tree.ind (Q:=λx=>Cd x<=Qb x) (λk t ks xs ih=>?_) x;have:Jd xs<=Dc xs:=by
    induction xs with
    | nil=>simp[Jd,Dc]
    | cons y ys ihy =>
      have h1:=ih y Ma;have h2:=ihy (λz hz=>ih z (by simp[hz]));simp only[Jd,Dc];omega
  simp only[Cd,Qb];omega
theorem Fy(xs:List Tree):Jd xs<=Dc xs:=by
  have:=WZ (.node 0 [] [] xs);simp only[Cd,Qb]at this;omega
def LX(x:Tree):Prop:=∀S w0 cs,Rep S w0 (Pb x) cs->Calls prog 120 #[.agg cs.toArray] w0 (Dd λv w'=>v=J (wr (Qb x))/\Same [] w0 w')
theorem DQ(k:Int)(t:Str)(ks:List Str)(xs:List Tree)(ih:∀x,x∈xs->LX x):LX (.node k t ks xs):=by
 intro S w0 cs hR;obtain⟨A,c,B,e,rfl,-,-,-,hX⟩:=hR.tree_inv;have hXl:=hX.slice_len;refine Ia func120 O ntmps120 Eb (Yb _) ?_;have hF:=FR.start w0 [];refine Ea (Oe hF O ?_);rintro b1 w hb1 hF -;refine Ba (Gb O) (Rb (Ba (Gb O) (Da (Ga (Ea (Ba (Ob Xb O) (Zb (Xe zQ O hF.F 0 O O) (Ba (Ch zZ O) ?_))))))));refine Ba (Za O) (Da (Qa ?_));refine Jc (λμ σ w=>∃(j:Nat),μ=xs.length-j/\(j<=xs.length)/\AllEq σ [(3,J (wr (1+Dc (xs.take j)))),(7,.slice B xs.length e),(8,J ((xs.length:Nat))),(9,J ((j:Int)))]/\FR w0 [] [(b1,.cells #[J k,I t,.slice A ks.length c,.slice B xs.length e] 25)] w) _ ⟨0,O,(Nat.zero_le _),Om,hF⟩ ?_;rintro μ σ w ⟨j,rfl,hj,hs,hF⟩;refine Cg.slots hs ?_;clear hs;intro σ;refine Ea (Ba (Di O O) (Da (Ga ?_)));refine Ib O O (λhc0=>?_) (λhc0=>?_);refine La (Fa (Ga (Qa (Ea ?_))));obtain⟨ad0,cs0,hA0,hl0,hk0,hx0⟩:=hX.tree_elem (i:=j) Aa;have ho0:=hx0.one_;refine Ka (v:=.pointer (some (ad0.add (j*4)))) (Sa (i:=(j:Int)) Hg O hA0 O Aa Aa) (Ka (v:=.agg (List.toArray cs0)) (Wa (l:=cs0) aZ nZ O hl0 (hF.cells0 hk0)) ?_);refine W2 (l:=cs0) hF lX (by rw[hl0];exact nZ) (by rw[hl0];rfl) (v:=.agg (List.toArray cs0)) O O (ho0) O ?_;rintro b2 w hb2 hF -;refine Da (Ha (Ba (Za O) (Ka (v:=.agg (List.toArray cs0)) (Wa (l:=cs0) aZ nZ O hl0 (hF.cellsAll 0 O)) ?_)));refine Oa hF (ih _ (eQ _) _ _ _ (hF.rep hx0)) (Na VT O O) ?_;intro w hF;refine Ka (v:=J (wr (1+Dc (xs.take (j+1))))) (Rr O O (by rw[BS,B3 xs j Aa,Int.natCast_add,Int.add_assoc])) (Ba (Gb O) (Ta (Bb (Fa (Ha (Ba (Nl O O) (Ba (Za O) (Ta ?_))))))));refine Hb ⟨_,?_,j+1,O,Aa,Om,hF.drop 1⟩;omega;refine Ec (Ac O ?_);refine Fa (Ea (Ba (Za O) (Ba (Gb O) (Da ?_))));refine Gc (v:=J (wr (1+Dc (xs.take j)))) O O ?_;obtain rfl:j=xs.length:=by omega
 exact⟨by simp[Qb],hF.same⟩
theorem size_c(x:Tree):LX x:=Tree.ind DQ x
def RL(x:Tree):Prop:=Qb x<=1000000000->∀S w0 cs,Rep S w0 (Pb x) cs->Calls prog 121 #[.agg cs.toArray] w0 (Dd λv w'=>v=J (Cd x:Nat)/\Same [] w0 w')
theorem NK(k:Int)(t:Str)(ks:List Str)(xs:List Tree)(ih:∀x,x∈xs->RL x):RL (.node k t ks xs):=by
 intro hsz S w0 cs hR;obtain⟨A,c,B,e,rfl,-,-,-,hX⟩:=hR.tree_inv;have hXl:=hX.slice_len;have hdl:=Fy xs;rw[Qb]at hsz;refine Ia func121 O ntmps121 Eb (Yb _) ?_;have hF:=FR.start w0 [];refine Ea (Oe hF O ?_);rintro b1 w hb1 hF -;refine Ba (Gb O) (Rb (Ba (Gb O) (Da (Ga (Ea (Ba (Ob Xb O) (Zb (Xe zQ O hF.F 0 O O) (Ba (Ch zZ O) ?_))))))));refine Ba (Za O) (Da (Qa ?_));refine Jc (λμ σ w=>∃(j:Nat),μ=xs.length-j/\(j<=xs.length)/\AllEq σ [(3,J ((Jd (xs.take j):Nat))),(7,.slice B xs.length e),(8,J ((xs.length:Nat))),(9,J ((j:Int)))]/\FR w0 [] [(b1,.cells #[J k,I t,.slice A ks.length c,.slice B xs.length e] 25)] w) _ ⟨0,O,(Nat.zero_le _),Om,hF⟩ ?_;rintro μ σ w ⟨j,rfl,hj,hs,hF⟩;refine Cg.slots hs ?_;clear hs;intro σ;refine Ea (Ba (Di O O) (Da (Ga ?_)));refine Ib O O (λhc0=>?_) (λhc0=>?_);refine La (Fa (Ga (Qa (Ea ?_))));obtain⟨ad0,cs0,hA0,hl0,hk0,hx0⟩:=hX.tree_elem (i:=j) Aa;have ho0:=hx0.one_;refine Ka (v:=.pointer (some (ad0.add (j*4)))) (Sa (i:=(j:Int)) Hg O hA0 O Aa Aa) (Ka (v:=.agg (List.toArray cs0)) (Wa (l:=cs0) aZ nZ O hl0 (hF.cells0 hk0)) ?_);refine W2 (l:=cs0) hF lX (by rw[hl0];exact nZ) (by rw[hl0];rfl) (v:=.agg (List.toArray cs0)) O O (ho0) O ?_;rintro b2 w hb2 hF -;refine Da (Ha (Ba (Za O) (Ka (v:=.agg (List.toArray cs0)) (Wa (l:=cs0) aZ nZ O hl0 (hF.cellsAll 0 O)) ?_)));refine Oa hF (ih _ (eQ _) (by have:=Ug (List.getElem_mem (l:=xs) (n:=j) Aa);omega) _ _ _ (hF.rep hx0)) (Na QX O O) ?_;intro w hF;refine Ka (v:=J ((Jd (xs.take (j+1)):Nat))) (by rw[<-show max ((Jd (xs.take j):Nat):Int) ((Cd xs[j]:Nat):Int)=((Jd (xs.take (j+1)):Nat):Int) from by rw[Rz xs j Aa];omega];exact x_max O O) ?_;refine Ba (Gb O) (Ta (Bb (Fa (Ha (Ba (Nl O O) (Ba (Za O) (Ta ?_)))))));refine Hb ⟨_,?_,j+1,O,Aa,Om,hF.drop 1⟩;omega;refine Ec (Ac O ?_);refine Fa (Ea (Ba (Za O) ?_));have eT:xs.take j=xs:=List.take_of_length_le Aa
 refine Ka (v:=J ((Cd (.node k t ks xs):Nat))) (Rr O O (by rw[eT,Cd];exact Vf Aa Aa Aa)) ?_;refine Ba (Gb O) (Da ?_);refine Gc (v:=J ((Cd (.node k t ks xs):Nat))) O O ?_;exact⟨O,hF.same⟩
theorem depth_c(x:Tree):RL x:=Tree.ind NK x
theorem Same.cell{w w':World}{a:Addr}{v:Value}(h:Same [] w w')(hc:w.cell? a=some v):w'.cell? a=some v:=((FR.start w []).ext h).cell0 hc
mutual
def Xc(q:Tree->Bool):Tree->Bool|.node k t ks xs=>q (.node k t ks xs)&&Yq q xs
def Yq(q:Tree->Bool):List Tree->Bool|[]=>true|x::xs=>Xc q x&&Yq q xs
end
theorem Dr(q:Tree->Bool):∀xs:List Tree,Yq q xs = !(xs.any λx=>!Xc q x)
  | []=>rfl
  | x::xs=>by rw[Yq,Dr q xs];simp
def EachC(w0:World)(bb:Nat)(xs:List Tree)(q:Tree->Bool):Prop:=∀x,x∈xs->∀S w cs,Same [] w0 w->Rep S w (Pb x) cs->Calls prog 123 #[.agg cs.toArray,V bb] w (Dd λv w'=>v=.bool (q x)/\Same [] w w')
theorem EachC.ext{w0 w:World}{bb:Nat}{xs:List Tree}{q:Tree->Bool}(h:EachC w0 bb xs q)(hs:Same [] w0 w):EachC w bb xs q:=λx hx S w' cs hw=>h x hx S w' cs (hs.trans hw)
theorem LR{q:Tree->Bool}{xs:List Tree}{j:Nat}(h:j<xs.length)(hn:(xs.take j).any q=false)(hq:q xs[j]=false):(xs.take (j+1)).any q=false:=by
  rw[iQ h,List.any_append,hn];simp[hq]
def Rx(g:Nat)(q:Tree->Bool)(x:Tree):Prop:=∀S w0 cs,Rep S w0 (Pb x) cs->Vp x->Gl w0->Calls prog 79 #[.agg cs.toArray,.func (.func g) #[] #[]] w0 (Dd λv w'=>v=.bool (Xc q x)/\Same [] w0 w')
theorem SH(xs:List Tree)(q:Tree->Bool)(bb:Nat)(B:Option Addr)(e:Nat)(S:Nat->Prop)(w0:World)(hX:Rep S w0 (.slice (Pe xs)) [.slice B xs.length e])(hq:EachC w0 bb xs q):Calls prog 172 #[.slice B xs.length e,.func (.func 123) #[] #[V bb]] w0 (Dd λv w'=>∃n:Int,v=J n/\decide (0<=n)=xs.any q/\Same [] w0 w'):=by
 have hXl:=hX.slice_len;refine Ia func172 O ntmps172 Eb (Pc _ _) ?_;have hF:=FR.start w0 [];refine Ea (Ba (Gb O) (Da (Ga (Ea (Ba (Sf O) (Ba (Ch zZ O) (Ba (Za O) (Da (Qa ?_)))))))));refine Jc (λμ σ w=>∃(j:Nat),μ=xs.length-j/\(j<=xs.length)/\((xs.take j).any q=false)/\AllEq σ [(0,.slice B xs.length e),(1,.func (.func 123) #[] #[.pointer (some (⟨bb,0,none⟩))]),(7,J ((xs.length:Nat))),(8,J ((j:Int)))]/\FR w0 [] [] w) _ ⟨0,O,(Nat.zero_le _),Ma,Om,hF⟩ ?_;rintro μ σ w ⟨j,rfl,hj,hn,hs,hF⟩;refine Cg.slots hs ?_;clear hs;intro σ;refine Ea (Ba (Di O O) (Da (Ga ?_)));refine Ib O O (λhc0=>?_) (λhc0=>?_);refine La (Fa (Ga (Qa (Ea (Ba (Za O) (Ba (Gb O) (Rb (Ba (Nt) (Ba (Sf O) ?_)))))))));refine Ba (Za O) ?_;obtain⟨ad0,cs0,hA0,hl0,hk0,hx0⟩:=hX.tree_elem (i:=j) Aa;have ho0:=hx0.one_;refine Ka (v:=.pointer (some (ad0.add (j*4)))) (Sa (i:=(j:Int)) Hg O hA0 O Aa Aa) (Ka (v:=.agg (List.toArray cs0)) (Wa (l:=cs0) aZ nZ O hl0 (hF.cells0 hk0)) ?_);refine Oa hF (hq _ (List.getElem_mem (l:=xs) (n:=j) Aa) _ _ _ hF.same (hF.rep hx0)) (Wo O en_123 O O) ?_;intro w hF;refine Da (Le O O (λhc1=>?_) (λhc1=>?_));refine Ea (Ba (Za O) (Ba (Gb O) (Da ?_)));refine Gc (v:=J ((j:Int))) O O ?_;exact⟨_,O,by rw[List.any_eq_true.2 ⟨_,List.getElem_mem (l:=xs) (n:=j) Aa,hc1⟩];simp,hF.same⟩;refine La (Bb (Fa (Ha (Ba (Nl O O) (Ba (Za O) (Ta ?_))))));refine Hb ⟨_,?_,j+1,O,Aa,(LR Aa hn hc1),Om,hF⟩;omega;refine Ec (Ac O ?_);refine Fa (Ea (Ba (Gb O) (Da ?_)));refine Gc (v:=J ((-1))) O O ?_;have eT:xs.take j=xs:=List.take_of_length_le Aa;rw[eT]at hn;exact⟨_,O,by rw[hn];decide,hF.same⟩
theorem Zu(xs:List Tree)(q:Tree->Bool)(bb:Nat)(B:Option Addr)(e:Nat)(S:Nat->Prop)(w0:World)(hX:Rep S w0 (.slice (Pe xs)) [.slice B xs.length e])(hq:EachC w0 bb xs q):Calls prog 122 #[.slice B xs.length e,.func (.func 123) #[] #[V bb]] w0 (Dd λv w'=>v=.bool (xs.any q)/\Same [] w0 w'):=by
 refine Ia func122 O ntmps122 Eb (Pc _ _) ?_;have hF:=FR.start w0 [];refine Ea (Ba (Db O) (Rb (Ba (Sf O) (Ba (Nt) ?_))));refine Lb (SH xs q bb B e S _ (hF.rep hX) (hq.ext hF.same)) (Xa en_172 O O O) ?_;rintro _ w ⟨n,rfl,hn,hE⟩;have hF:=hF.ext hE;refine Ba (Nw O O) (Ba (Db O) (Da ?_));refine Gc (v:=.bool _) O O ?_;exact⟨congrArg Value.bool hn,hF.same⟩
theorem R9(g:Nat)(q:Tree->Bool)(x:Tree)(h:Rx g q x)(bb:Nat)(S:Nat->Prop)(w0:World)(cs:List Value)(hR:Rep S w0 (Pb x) cs)(hk:Vp x)(hG:Gl w0)(hb:w0.cell? ⟨bb,0,none⟩=some (.func (.func g) #[] #[])):Calls prog 123 #[.agg cs.toArray,V bb] w0 (Dd λv w'=>v=.bool (!Xc q x)/\Same [] w0 w'):=by
 have hl:cs.length=4:=hR.length.trans (Yc x);have ho:=hR.one_;refine Ia func123 O ntmps123 Eb (Pc _ _) ?_;have hF:=FR.start w0 [];refine Ea (Jm (v:=.agg (List.toArray cs)) (cs:=(List.toArray cs)) hF O O ?_);rintro b1 w hb1 hF -;refine Ba (Db O) (Rb (Ka (v:=.agg (List.toArray cs)) (Wa (l:=cs) aZ nZ O hl (hF.cellsAll 0 O)) (Ka (v:=.func (.func g) #[] #[]) (Qd isAgg75 O (hF.cell0 hb)) ?_)));refine Oa hF (h S _ cs (hF.rep hR) hk (hG.ext hF.same)) (Xa en_79 O O O) ?_;intro w hF;refine Ba (Si O) (Ba (Db O) (Da ?_));refine Gc (v:=.bool _) O O ?_;exact⟨O,hF.same⟩
theorem AC(q:Tree->Bool)(hp:H9 104 q)(k:Int)(t:Str)(ks:List Str)(xs:List Tree)(ih:∀x,x∈xs->Rx 104 q x):Rx 104 q (.node k t ks xs):=by
 intro S w0 cs hR hk hG;have hk':=hk;rw[Vp]at hk';obtain⟨A,c,B,e,rfl,-,-,hK,hX⟩:=hR.tree_inv;refine Ia func79 O ntmps79 Eb (Pc _ _) ?_;have hF:=FR.start w0 [];refine Ea (Oe hF O ?_);rintro b1 w hb1 hF -;refine MH (.func (.func 104) #[] #[]) hF O ?_;rintro b2 w hb2 hF -;refine Ba (Db O) (Rb (Zb (ylu isAgg75 O hF.F 0 O O) (Zb (Of aZ nZ O hF.F 1 O O) ?_)));refine Oa hF (hp (.node k t ks xs) S _ _ (hF.rep hR) hk (hG.ext hF.same)) (Wo O en_104 O O) ?_;intro w hF;refine Ba (Vb O) (Lc (d:=8) O (λhg0=>?_) (λhg0=>?_));refine Ba (Ob Xb O) (Zb (Xe zQ O hF.F 1 O O) (Ka (v:=.func (.func 123) #[] #[V b2]) (Hk O) ?_));refine Oa hF (Zu xs (λx=>!Xc q x) b2 B e S _ (hF.rep hX) (λx hx S' w' cs' hs hr=>R9 104 q x (ih x hx) b2 S' w' cs' hr (Jl hk'.2.2 x hx) ((hG.ext hF.same).ext hs) (hs.cell (hF.cell 0 O O)))) (Xa CX O O O) ?_;intro w hF;refine Ba (Si O) (Ba (Tb O O) (Ba (Db O) (Da ?_)));refine Gc (v:=.bool _) O O ⟨?_,hF.same⟩;rw[Xc,Dr];simp_all;refine Ca (Ca (Ca (Ca (Ca (Ba (Kb O O) (Ba (Db O) (Da ?_)))))));refine Gc (v:=.bool false) O O ⟨?_,hF.same⟩;rw[Xc,Dr];simp_all
theorem ST(q:Tree->Bool)(hp:H9 104 q)(x:Tree):Rx 104 q x:=Tree.ind (AC q hp) x
theorem UA(q:Tree->Bool)(hp:H9 80 q)(k:Int)(t:Str)(ks:List Str)(xs:List Tree)(ih:∀x,x∈xs->Rx 80 q x):Rx 80 q (.node k t ks xs):=by
 intro S w0 cs hR hk hG;have hk':=hk;rw[Vp]at hk';obtain⟨A,c,B,e,rfl,-,-,hK,hX⟩:=hR.tree_inv;refine Ia func79 O ntmps79 Eb (Pc _ _) ?_;have hF:=FR.start w0 [];refine Ea (Oe hF O ?_);rintro b1 w hb1 hF -;refine MH (.func (.func 80) #[] #[]) hF O ?_;rintro b2 w hb2 hF -;refine Ba (Db O) (Rb (Zb (ylu isAgg75 O hF.F 0 O O) (Zb (Of aZ nZ O hF.F 1 O O) ?_)));refine Oa hF (hp (.node k t ks xs) S _ _ (hF.rep hR) hk (hG.ext hF.same)) (Wo O en_80 O O) ?_;intro w hF;refine Ba (Vb O) (Lc (d:=8) O (λhg0=>?_) (λhg0=>?_));refine Ba (Ob Xb O) (Zb (Xe zQ O hF.F 1 O O) (Ka (v:=.func (.func 123) #[] #[V b2]) (Hk O) ?_));refine Oa hF (Zu xs (λx=>!Xc q x) b2 B e S _ (hF.rep hX) (λx hx S' w' cs' hs hr=>R9 80 q x (ih x hx) b2 S' w' cs' hr (Jl hk'.2.2 x hx) ((hG.ext hF.same).ext hs) (hs.cell (hF.cell 0 O O)))) (Xa CX O O O) ?_;intro w hF;refine Ba (Si O) (Ba (Tb O O) (Ba (Db O) (Da ?_)));refine Gc (v:=.bool _) O O ⟨?_,hF.same⟩;rw[Xc,Dr];simp_all;refine Ca (Ca (Ca (Ca (Ca (Ba (Kb O O) (Ba (Db O) (Da ?_)))))));refine Gc (v:=.bool false) O O ⟨?_,hF.same⟩;rw[Xc,Dr];simp_all
theorem HR(q:Tree->Bool)(hp:H9 80 q)(x:Tree):Rx 80 q x:=Tree.ind (UA q hp) x
def rnodeB(x:Tree):Bool:=decide (x.kind≠7)&&nodeB x
def Im(x:Tree):Bool:=decide (Qb x<=4096)&&decide (Cd x<=32)
def Kd(x:Tree):Bool:=Im x&&Xc nodeB x
def Yd(x:Tree):Bool:=Im x&&Xc rnodeB x
theorem PY{n:Nat}(h:n<=1000000000):wr (n:Int)=(n:Int):=Rh Aa Aa
theorem rnode_c  : H9 104 rnodeB:=by
 rintro⟨k,t,ks,xs⟩ S w0 cs hR hk hG;obtain⟨A,c,B,e,rfl,-,-,hK,hX⟩:=hR.tree_inv;refine Ia func104 O ntmps104 Eb (Yb _) ?_;have hF:=FR.start w0 [];refine Ea (Oe hF O ?_);rintro b1 w hb1 hF -;refine Ba (Db O) (Rb (Ba (Ob Xd O) (Zb (Th eZ O hF.F 0 O O) (Ba (Vk O O) (Ba (Vb O) ?_)))));refine Ya (d:=6) O (λhg0=>?_) (λhg0=>?_);refine Zb (Of aZ nZ O hF.F 0 O O) (Oa hF (TZ (.node k t ks xs) S _ _ (hF.rep hR) hk (hG.ext hF.same)) (Na en_80 O O) ?_);intro w hF;refine Ba (Tb O O) (Ba (Db O) (Da ?_));refine Gc (v:=.bool _) O O ⟨?_,hF.same⟩;simp_all[rnodeB,Tree.kind];refine Ca (Ca (Ba (Kb O O) (Ba (Db O) (Da ?_))));refine Gc (v:=.bool false) O O ⟨?_,hF.same⟩;simp_all[rnodeB,Tree.kind]
theorem size_v(x:Tree)(hsz:Qb x<=1000000000)(S:Nat->Prop)(w0:World)(cs:List Value)(hR:Rep S w0 (Pb x) cs):Calls prog 120 #[.agg cs.toArray] w0 (Dd λv w'=>v=J (Qb x:Nat)/\Same [] w0 w'):=by
  have h:=size_c x S w0 cs hR
  rwa [PY hsz]at h
theorem QP(x:Tree)(hsz:Qb x<=1000000000)(S:Nat->Prop)(w0:World)(cs:List Value)(hR:Rep S w0 (Pb x) cs):Calls prog 78 #[.agg cs.toArray] w0 (Dd λv w'=>v=.bool (Im x)/\Same [] w0 w'):=by
 have hl:cs.length=4:=hR.length.trans (Yc x);have ho:=hR.one_;refine Ia func78 O ntmps78 Eb (Yb _) ?_;have hF:=FR.start w0 [];refine Ea (Jm (v:=.agg (List.toArray cs)) (cs:=(List.toArray cs)) hF O O ?_);rintro b1 w hb1 hF -;refine Ba (Db O) (Rb (Ka (v:=.agg (List.toArray cs)) (Wa (l:=cs) aZ nZ O hl (hF.cellsAll 0 O)) ?_));refine Oa hF (size_v x hsz S _ cs (hF.rep hR)) (Na VT O O) ?_;intro w hF;refine Ba (XC O O) (Ba (Vb O) ?_);refine Ya (d:=6) O (λhg0=>?_) (λhg0=>?_);refine Ka (v:=.agg (List.toArray cs)) (Wa (l:=cs) aZ nZ O hl (hF.cellsAll 0 O)) (Oa hF (depth_c x hsz S _ cs (hF.rep hR)) (Na QX O O) ?_);intro w hF;refine Ba (XC O O) (Ba (Tb O O) (Ba (Db O) (Da ?_)));refine Gc (v:=.bool _) O O ⟨congrArg Value.bool ?_,hF.same⟩;unfold Im
 first|(rw[decide_eq_true (by omega:Qb x<=4096)];exact decide_eq_decide.2 Aa)|(rw[decide_eq_false (by omega:¬Qb x<=4096)];rfl)
 refine Ca (Ca (Ca (Ba (Kb O O) (Ba (Db O) (Da ?_)))));refine Gc (v:=.bool false) O O ⟨congrArg Value.bool ?_,hF.same⟩;unfold Im
 first|(rw[decide_eq_true (by omega:Qb x<=4096)];exact decide_eq_decide.2 Aa)|(rw[decide_eq_false (by omega:¬Qb x<=4096)];rfl)
theorem O4(x:Tree)(hsz:Qb x<=1000000000)(S:Nat->Prop)(w0:World)(cs:List Value)(hR:Rep S w0 (Pb x) cs)(hk:Vp x)(hG:Gl w0):Calls prog 62 #[.agg cs.toArray] w0 (Dd λv w'=>v=.bool (Yd x)/\Same [] w0 w'):=by
 have hl:cs.length=4:=hR.length.trans (Yc x);have ho:=hR.one_;refine Ia func62 O ntmps62 Eb (Yb _) ?_;have hF:=FR.start w0 [];refine Ea (Jm (v:=.agg (List.toArray cs)) (cs:=(List.toArray cs)) hF O O ?_);rintro b1 w hb1 hF -;refine Ba (Db O) (Rb (Ka (v:=.agg (List.toArray cs)) (Wa (l:=cs) aZ nZ O hl (hF.cellsAll 0 O)) ?_));refine Oa hF (QP x hsz S _ cs (hF.rep hR)) (Na en_78 O O) ?_;intro w hF;refine Ba (Vb O) (Lc (d:=5) O (λhg0=>?_) (λhg0=>?_));refine Ka (v:=.agg (List.toArray cs)) (Wa (l:=cs) aZ nZ O hl (hF.cellsAll 0 O)) (Oa hF (ST rnodeB rnode_c x S _ cs (hF.rep hR) hk (hG.ext hF.same)) (Xa en_79 O O O) ?_);intro w hF;refine Ba (Tb O O) (Ba (Db O) (Da ?_));refine Gc (v:=.bool _) O O ?_;exact⟨congrArg Value.bool (by unfold Yd;simp_all),hF.same⟩;refine Ca (Ca (Ba (Kb O O) (Ba (Db O) (Da ?_))));refine Gc (v:=.bool false) O O ?_;exact⟨congrArg Value.bool (by unfold Yd;simp_all),hF.same⟩
theorem L5(x:Tree)(hsz:Qb x<=1000000000)(S:Nat->Prop)(w0:World)(cs:List Value)(hR:Rep S w0 (Pb x) cs)(hk:Vp x)(hG:Gl w0):Calls prog 51 #[.agg cs.toArray] w0 (Dd λv w'=>v=.bool (Kd x)/\Same [] w0 w'):=by
 have hl:cs.length=4:=hR.length.trans (Yc x);have ho:=hR.one_;refine Ia func51 O ntmps51 Eb (Yb _) ?_;have hF:=FR.start w0 [];refine Ea (Jm (v:=.agg (List.toArray cs)) (cs:=(List.toArray cs)) hF O O ?_);rintro b1 w hb1 hF -;refine Ba (Db O) (Rb (Ka (v:=.agg (List.toArray cs)) (Wa (l:=cs) aZ nZ O hl (hF.cellsAll 0 O)) ?_));refine Oa hF (QP x hsz S _ cs (hF.rep hR)) (Na en_78 O O) ?_;intro w hF;refine Ba (Vb O) (Lc (d:=5) O (λhg0=>?_) (λhg0=>?_));refine Ka (v:=.agg (List.toArray cs)) (Wa (l:=cs) aZ nZ O hl (hF.cellsAll 0 O)) (Oa hF (HR nodeB TZ x S _ cs (hF.rep hR) hk (hG.ext hF.same)) (Xa en_79 O O O) ?_);intro w hF;refine Ba (Tb O O) (Ba (Db O) (Da ?_));refine Gc (v:=.bool _) O O ?_;exact⟨congrArg Value.bool (by unfold Kd;simp_all),hF.same⟩;refine Ca (Ca (Ba (Kb O O) (Ba (Db O) (Da ?_))));refine Gc (v:=.bool false) O O ?_;exact⟨congrArg Value.bool (by unfold Kd;simp_all),hF.same⟩
end Go.Scarf
