/- A part of the proof. -/
import Derived.Test.YtidlkjpohhbbcaaGreatDoorQ19
set_option linter.all false
set_option maxHeartbeats 8000000
set_option maxRecDepth 10000
namespace Go.Scarf
open Go.RowKit Go.Proofs Go.Proofs.Tryz
theorem Lv(s:Str)(hl:s.length<=65536)(w0:World)(hG:Gl w0):Calls prog 10 #[I s] w0 (Oc λv w'=>∃A c,v=.tuple #[.slice A (Rf s).1.length c,.bool (Rf s).2]/\Rep (λ_=>True) w' (Tf (Rf s).1) [.slice A (Rf s).1.length c]/\Same [] w0 w'):=by
 have hMP:=RG hl;refine Ea func10 O ntmps10 Bb (Tb _) ?_;have hF:=FR.start w0 [];refine Da (Ba (Cm O) (Ba (Kb O) (Ob (Ba (Pd O) ?_))));refine Ta (HT s hl _ (hG.ext hF.same)) (Ma en_43 O O) ?_;rintro _ w ⟨ct,rfl,hRv,hE⟩;obtain⟨rv,rfl,-⟩:=Wh hRv;have hv:KX [] w [Jb (Cc s).1] rv.cells:=RepL.cons_mk (c2:=[]) (hRv.weaken λb hb hl=>⟨hl,by simp⟩) RepL.nil_mk;obtain⟨hp1,hp2,hp3,hp4,-,-⟩:=Fi hRv;clear hRv;have hF:=hF.ext hE;refine Ba (Aj O) (Ba (Ru O O) (Ba (Nh O O) (Ba (Nh O O) ?_)));refine Hf hF sX oZ O ?_;intro b1 w hb1 hF hE;have hv:=hv.ext hE;refine Ba (Gb O) (Ba (Gb O) (Ca (Fa (Da (Ba (Cb O) (Ba (Sn O O) (Ba (Sc O) ?_)))))));refine Wb (d:=22) O (λhg0=>?_) (λhg0=>?_);refine Ha (Ha (Ha (Ba (Fc O O) (Ca (Od O (Da (Ba (Cm O) (Ba (Kb O) (Ca ?_)))))))));refine Xa (Va (Ka (Jc (v:=.slice _ _ _) (x:=.bool false) O O O) ?_));rw[Pm (by rintro⟨h1,h2,-⟩;have h3:=hp1;simp_all)];exact⟨none,0,O,Rep.nil_slice 0 Aa none,hF.same⟩;refine Ba (Rb Ve O) (Yb (Pi xQ O hF.F 0 O O) (Ba (Sn O O) (Ba (Pc O O) (Ca ?_))));refine Lb O O (λhc0=>?_) (λhc0=>?_);have h0:¬((Cc s).2.2=0/\(Cc s).1.kind=5):=by rintro⟨h1,h2⟩;simp_all
 refine Da (Ba (Cm O) (Ba (Kb O) (Ca ?_)));refine Xa (Va (Ka (Jc (v:=.slice _ _ _) (x:=.bool false) O O O) ?_));rw[Pm (by rintro⟨h1,h2,-⟩;have h3:=hp1;simp_all)];exact⟨none,0,O,Rep.nil_slice 0 Aa none,hF.same⟩;have h0:(Cc s).2.2=0/\(Cc s).1.kind=5:=by constructor <;> simp_all
 refine Na (Ga (Da (Ba (Cm O) (Ca (Fa (Da (Ba (Rb Xb O) (Yb (Ff zQ O hF.F 0 O O) (Ba (Qg jX O) (Ba (Cb O) ?_))))))))));refine Ca (Sa ?_);refine Rc (λμ σ w=>∃(j:Nat),∃(AO:Option Addr),∃(cO:Nat),∃(out:List (Nat × Obj)),∃(valsO:List Value),μ=(Cc s).1.items.length-j/\(j<=(Cc s).1.items.length)/\(SlB 44 6 AO j cO valsO out)/\(KX (ids out) w [Jb (Cc s).1] rv.cells)/\(KX (ids out) w ((((Cc s).1.items.take j).map λy=>(Td y).1).map M5) valsO)/\((((Cc s).1.items.take j).all λy=>(Td y).2)=true)/\AllEq σ [(0,I s),(7,.slice AO j cO),(28,.slice rv.B rv.m rv.e),(29,J ((rv.m:Nat))),(30,J ((j:Int)))]/\FR w0 [] ([(b1,.cells (rv.cells).toArray 36)]++(out++[])) w) _ ⟨0,none,0,[],[],O,(Nat.zero_le _),(SlB.nil _ _),(hv),(RepL.nil_mk),(O),U7,hF⟩ ?_;rintro μ σ w ⟨j,AO,cO,out,valsO,rfl,hj,hS,hv,hO,hall,hs,hF⟩;refine Cg.slots hs ?_;clear hs;intro σ;have hilen:(Cc s).1.items.length<=1000000:=by have:=hMP.n;simpa[Pn]using this
 refine Da (Ba (Dl O O) (Ca (Fa ?_)));refine Lb O O (λhc1=>?_) (λhc1=>?_);refine Na (Ga (Fa (Sa (Fa ?_))));have hjl:j<(Cc s).1.items.length:=by omega
 obtain⟨aad,a_,aA,ak,aX⟩:=Rep.tree_at (i:=j) (Fi hv.one).2.2.2.2.2 hjl;replace aX:=aX.weaken (S':=λb=>b∉ids out) λb hb _=>hb.2;refine Ja (Ia (v:=.pointer (some (aad.add (j*4)))) (Ra (i:=(j:Int)) Tg O aA O Aa Aa) (Ia (v:=.agg (a_.cells).toArray) (Za (l:=a_.cells) aZ oZ O O ak) ?_));refine Hf hF sX oZ O ?_;intro b2 w hb2 hF hE;have hv:=hv.ext hE;have hO:=hO.ext hE;replace aX:=aX.ext hE;refine Ob (Yb (Ig aZ oZ O hF.F 0 O O) ?_);have hszp:=hF.same.size;refine Ta (QQ (Cc s).1.items[j] a_ _ _ aX) (Ma en_44 O O) ?_;rintro _ w ⟨z,rfl,hZ,hpl,hE⟩;have hz:KX (ids out) w [M5 (Td (Cc s).1.items[j]).1] (Cr (Td (Cc s).1.items[j]).1.pr z):=RepL.cons_mk (c2:=[]) (PH (hZ.weaken λb hb hl=>⟨hl,hb⟩) hpl) RepL.nil_mk;have hv:=hv.ext hE;have hO:=hO.ext hE;have hF:=hF.ext hE;clear hE hZ;refine Ba (Aj O) (Ba (Ru O O) (Ba (Xn O O) ?_));refine Hf hF uX rZ O ?_;intro b3 w hb3 hF hE;have hv:=hv.ext hE;have hO:=hO.ext hE;have hz:=hz.ext hE;refine Ba (Kb O) (Ca (Fa (Da (Ba (Sc O) (Ba (Wi O) (Ca ?_))))));refine He O O (λhc2=>?_) (λhc2=>?_);have h2:(Td (Cc s).1.items[j]).2=false:=by simpa using hc2
 refine Da (Ba (Cm O) (Ba (Kb O) (Ca ?_)));refine Xa (Va (Ka (Jc (v:=.slice _ _ _) (x:=.bool false) O O O) ?_));rw[Pm (λh=>by have:=List.all_eq_true.1 h.2.2.1 _ (eQ hjl);rw[h2]at this;cases this)];exact⟨none,0,O,Rep.nil_slice 0 Aa none,hF.same⟩;have h2:(Td (Cc s).1.items[j]).2=true:=by simpa using hc2
 have hall2:(((Cc s).1.items.take (j+1)).all λy=>(Td y).2)=true:=by rw[iQ hjl,List.all_append,hall];simp[h2]
 refine Na (Ga (Ja (Ba (Qe O) (Yb (Ig eZ rZ O hF.F 0 O O) ?_))));refine Ck 1 hF (Fb (cs:=#[I ((Td (Cc s).1.items[j]).1.pr),.bool (z.h),J (z.v.k),I (z.v.t),.slice z.v.A z.v.n z.v.c,.slice z.v.B z.v.m z.v.e]) dX rZ uX Oa Oa Ib) ?_;intro b4 w hb4 hF hE;have hv:=hv.ext hE;have hO:=hO.ext hE;have hz:=hz.ext hE;refine JI (news:=[I ((Td (Cc s).1.items[j]).1.pr),.bool (z.h),J (z.v.k),I (z.v.t),.slice z.v.A z.v.n z.v.c,.slice z.v.B z.v.m z.v.e]) (len':=(j+1)) (ys:=valsO++Cr (Td (Cc s).1.items[j]).1.pr z) U2 hF hS O O (O) (λ_=>⟨_,O,Tc (hF.cellsAll 0 O)⟩) (by simp[Value.oneCell']) (by simp only[maxLen];omega) (O) (O) Aa ?_;intro A1 c1 out_1 w hS1_out hF hE hnew;have hsub:∀x∈out.map (·.1),x∈ids out:=λx hx=>hx;have hO:=(hO.append hz).grow hE hnew hsub;have hv:=hv.grow hE hnew hsub;clear hsub hz;refine Ba (Cm O) (Eb (Wa (Ga (Ja (Ba (Un (((j+1:Nat):Int)) O O) (Ba (Cb O) (Eb ?_)))))));refine Qb ⟨_,?_,j+1,A1,c1,out_1,valsO++Cr (Td (Cc s).1.items[j]).1.pr z,rfl,Aa,(hS1_out),(hv.sub (by intro x hx;simp only[mQ]at hx ⊢;grind)),(by rw[iQ hjl,jQ,jQ];exact hO.sub (by intro x hx;simp only[mQ]at hx ⊢;grind)),(hall2),U7,hF.drop 3⟩;omega;refine Ic (Ec O ?_);refine Ga (Fa (Da (Ba (Qe O) ?_)));obtain rfl:j=(Cc s).1.items.length:=by omega
 have hol:(Pn (Cc s).1).length=(Cc s).1.items.length:=by simp[Pn]
 have hXO:=KX.rowM (pre:=[_]) (its:=out) (post:=[]) (ts:=Pn (Cc s).1) hF hS (by rw[List.take_length]at hO;exact hO) hol;have hSv:=Mu (Pn (Cc s).1) AO cO (λ_=>True) w (by rw[hol];exact hXO) hMP (hG.ext hF.same);rw[hol]at hSv;refine Ta (hSv) (Ma QJ O O) ?_;rintro _ w ⟨rfl,hE⟩;have hXO:=hXO.ext hE;have hF:=hF.ext hE;refine Ba (Aj O) (Ba (L1 O O) (Ba (Nh O O) (Ba (Xf O) (Ba (Gb O) (Ob (Ba (Cb O) (Ba (Sn O O) (Ba (Sc O) ?_))))))));refine Wb (d:=53) O (λhg2=>?_) (λhg2=>?_);refine Ha (Ha (Ha (Ba (Fc O O) (Ca (Od O (Da (Ba (Cm O) (Ba (Kb O) (Ca ?_)))))))));refine Xa (Va (Ka (Jc (v:=.slice _ _ _) (x:=.bool false) O O O) ?_));rw[Pm (λh=>Hz h.2.2.2 (by simp_all))];exact⟨none,0,O,Rep.nil_slice 0 Aa none,hF.same⟩;refine Ba (Pd O) (Ba (Pd O) (Ba (yns O O) (Ba (Pc O O) (Ca ?_))));refine Lb O O (λhc3=>?_) (λhc3=>?_);refine Da (Ba (Cm O) (Ba (Kb O) (Ca ?_)));refine Xa (Va (Ka (Jc (v:=.slice _ _ _) (x:=.bool false) O O O) ?_));rw[Pm (λh=>Hz h.2.2.2 (by simp_all))];exact⟨none,0,O,Rep.nil_slice 0 Aa none,hF.same⟩;refine Na (Ga (Da (Ba (Qe O) (Ba (Cm O) (Ba (Kb O) (Ca ?_))))));refine Xa (Va (Ka (Jc (v:=.slice _ _ _) (x:=.bool true) O O O) ?_));rw[List.take_length]at hall;have hsv:Am (Pn (Cc s).1)=(s,0):=Prod.ext (by simp_all) (by simp_all);have e:Rf s=(Pn (Cc s).1,true):=by unfold Rf;rw[if_pos ⟨h0.1,h0.2,hall,hsv⟩]
 rw[e];exact⟨_,_,by rw[hol],by rw[hol];exact hXO,hF.same⟩
theorem NS{s r:Str}{a:Nat}{c:UInt8}(h:s.drop a=c::r):(s.drop a).headD 0=c:=by rw[h];rfl
theorem lt_drop{s r:Str}{a:Nat}{c:UInt8}(h:s.drop a=c::r):a<s.length:=(Jv h).1
theorem O4{p:UInt8->Bool}:∀{t r:Str},(∀c∈t,p c=true)->(∀c q,r=c::q->p c=false)->Ah p (t++r)=t.length
  | [], r, _, h => by
    cases r with
    | nil=>rfl
    | cons c q=>rw[List.nil_append,Ah,h c q rfl];rfl
  | x :: t, r, h1, h2 => by
    rw[List.cons_append,Ah,if_pos (h1 x List.mem_cons_self),O4 (λc hc=>h1 c (List.mem_cons_of_mem _ hc)) h2];rfl
def sgnK(c:UInt8):Int:=2+Lib.indexByte [123,125,91,93,44,58] c
theorem Hp{s r:Str}{a:Nat}{c:UInt8}(hc:c∈([123,125,91,93,44,58]:Str))(h:s.drop a=c::r):Ud s a=(⟨sgnK c,a,a+1⟩,0):=by
  have h0:0<=Lib.indexByte [123,125,91,93,44,58] c:=by
    simp only[oQ,List.not_mem_nil,or_false]at hc;rcases hc with rfl|rfl|rfl|rfl|rfl|rfl <;> decide
  rw[Ud,NS h,Dq,if_pos h0];rfl
theorem SH{r:Str}(he:Ends r){p:UInt8->Bool}(h1:p 44=false)(h2:p 93=false)(h3:p 125=false):∀c q,r=c::q->p c=false:=λc q e=>by
  rcases he c q e with rfl|rfl|rfl <;> assumption
theorem J6{s r t:Str}{a:Nat}{c:UInt8}{t':Str}(ht:t=c::t')(hs:∀x∈t,Ch x=true)(hw:Iq t≠0)(hc:Lib.indexByte [123,125,91,93,44,58] c<0/\Km c=false/\c.toNat≠34/\¬(c.toNat=45\/(48<=c.toNat/\c.toNat<=57)))(he:Ends r)(h:s.drop a=t++r) :
    Ud s a=(⟨Iq t,a,a+t.length⟩,0):=by
  have hh:(s.drop a).headD 0=c:=by rw[h,ht];rfl
  have hr:Ah Ch (t++r)=t.length:=O4 hs (SH he Oa Oa Oa);rw[Ud,hh,Dq];rw[if_neg Aa,if_neg (by rw[hc.2.1];decide),if_neg hc.2.2.1,if_neg hc.2.2.2,h,hr,List.take_left,if_pos hw]
theorem YZ{s r:Str}{a:Nat}(he:Ends r)(h:s.drop a=[110,117,108,108]++r):Ud s a=(⟨12,a,a+4⟩,0) :=
  J6 (c:=110) (t:=[110,117,108,108]) rfl Oa Oa Oa he h
theorem tok_true{s r:Str}{a:Nat}(he:Ends r)(h:s.drop a=[116,114,117,101]++r):Ud s a=(⟨10,a,a+4⟩,0) :=
  J6 (c:=116) (t:=[116,114,117,101]) rfl Oa Oa Oa he h
theorem HS{s r:Str}{a:Nat}(he:Ends r)(h:s.drop a=[102,97,108,115,101]++r):Ud s a=(⟨11,a,a+5⟩,0) :=
  J6 (c:=102) (t:=[102,97,108,115,101]) rfl Oa Oa Oa he h
theorem HQ{s r t:Str}{a:Nat}(hv:Lib.validD t=true)(h:s.drop a=Cj t++r):Ud s a=(⟨8,a,a+(Cj t).length⟩,0):=by
  have hq:=Q2 hv h;have hh:(s.drop a).headD 0=34:=by rw[h,Wu hv];rfl
  rw[Ud,hh,Dq,if_neg Oa,if_neg Oa,if_pos Oa,hq,if_pos rfl]
theorem ET{c:UInt8}(h:numC c):Q5 c=true:=by
  have:∀n<256,(Bi (UInt8.ofNat n)=true\/UInt8.ofNat n=45\/UInt8.ofNat n=101)->Q5 (UInt8.ofNat n)=true:=by decide +kernel
  have h2:=this c.toNat (UInt8.toNat_lt c);simp only[UInt8.ofNat_toNat]at h2;exact h2 h
theorem B6{t:Str}(h:Th t=true):∃c t',t=c::t'/\(c.toNat=45\/(48<=c.toNat/\c.toNat<=57)):=by
  unfold Th at h;rw[Bool.and_eq_true,decide_eq_true_eq,decide_eq_true_eq]at h;have hr:=Gy t;have h2:=h.2;generalize (Uc t).1=x at hr h2;unfold Gi at h2;have dig:∀{d:Str},d≠[]->(∀c∈d,Bi c=true)->∀z,∃c t',d++z=c::t'/\(c.toNat=45\/(48<=c.toNat/\c.toNat<=57)):=fun {d} hd ha z=>by
    cases d with
    | nil=>exact absurd rfl hd
    | cons c d =>
      have:=ha c List.mem_cons_self;unfold Bi at this;simp only[Bool.and_eq_true,decide_eq_true_eq]at this;exact⟨c,d++z,O,.inr this⟩
  rw[if_neg (by rw[hr];decide)]at h2;by_cases h0:x.digits=[]
  ·rw[if_pos h0]at h2;exact⟨48,[],h2.symm,.inr Oa⟩
  rw[if_neg h0]at h2;by_cases hn:x.neg=true
  ·rw[if_pos hn]at h2;exact⟨45,_,h2.symm,.inl rfl⟩
  rw[if_neg hn]at h2;have hd:∀c∈x.digits,Bi c=true:=by
    unfold Fe at hr;simp only[Bool.or_eq_true,Bool.and_eq_true,decide_eq_true_eq]at hr;rcases hr with h3|h3
    ·subst h3;exact absurd rfl h0
    have h4 : Sl x.digits = true := by simp_all
    unfold Sl at h4;rw[Bool.and_eq_true,List.all_eq_true]at h4;exact h4.1
  obtain⟨c,t',e,hc⟩:=dig h0 hd (if x.exp≠0 then 101::Lib.itoa x.exp else []);exact⟨c,t',h2.symm.trans e,hc⟩
theorem tok_num{s r t:Str}{a:Nat}(ht:Th t=true)(he:Ends r)(h:s.drop a=t++r):Ud s a=(⟨9,a,a+t.length⟩,0):=by
  obtain⟨c,t',e,hc⟩:=B6 ht;have hh:(s.drop a).headD 0=c:=by rw[h,e];rfl
  have hr:Ah Q5 (t++r)=t.length:=O4 (λx hx=>ET (KF ht x hx)) (SH he Oa Oa Oa);have hp:(Uc t).2=0:=by
    unfold Th at ht;rw[Bool.and_eq_true,decide_eq_true_eq]at ht;exact ht.1
  have hk:Lib.indexByte [123,125,91,93,44,58] c<0/\Km c=false/\c.toNat≠34:=by
    have:∀n<256,((UInt8.ofNat n).toNat=45\/(48<=(UInt8.ofNat n).toNat/\(UInt8.ofNat n).toNat<=57))->Lib.indexByte [123,125,91,93,44,58] (UInt8.ofNat n)<0/\Km (UInt8.ofNat n)=false/\(UInt8.ofNat n).toNat≠34:=by decide +kernel
    have h2:=this c.toNat (UInt8.toNat_lt c);simp only[UInt8.ofNat_toNat]at h2;exact h2 hc
  rw[Ud,hh,Dq,if_neg Aa,if_neg (by rw[hk.2.1];decide),if_neg hk.2.2,if_pos hc,h,hr,List.take_left,if_pos hp]
theorem CR{s:Str}{a f:Nat}{out:List Tk}{k:Int}{b:Nat}(h:Ud s a=(⟨k,a,b⟩,0))(ha:a<s.length):Gg (f+1) s a out=Gg f s b (out++[⟨k,a,b⟩]):=by
  rw[Gg,if_pos ha,h,if_pos rfl]
mutual
def Sq:Tree->Nat->List Tk
  | .node k t ks xs, a => if k = 1 then [⟨12, a, a + 4⟩] else if k = 2 then [⟨if t = [116, 114, 117, 101] then 10 else 11, a, a + t.length⟩] else if k = 3 then [⟨9, a, a + t.length⟩]
    else if k=4 then [⟨8,a,a+(qS t).length⟩] else if k=5 then ⟨4,a,a+1⟩::S_ true xs (a+1) else ⟨2,a,a+1⟩::C_ true xs ks (a+1)
def S_:Bool->List Tree->Nat->List Tk
  | _,[],a=>[⟨5,a,a+1⟩]
  | b,x::xs,a=>if b then Sq x a++S_ false xs (a+(Wc false 0 x 0).length) else ⟨6,a,a+1⟩::(Sq x (a+1)++S_ false xs (a+1+(Wc false 0 x 0).length))
def C_:Bool->List Tree->List Str->Nat->List Tk
  | _,[],_,a=>[⟨3,a,a+1⟩]
  | b, x :: xs, ks, a =>
    if b then ⟨8,a,a+(qS (ks.headD [])).length⟩::⟨7,a+(qS (ks.headD [])).length,a+(qS (ks.headD [])).length+1⟩::(Sq x (a+(qS (ks.headD [])).length+1)++C_ false xs ks.tail (a+(qS (ks.headD [])).length+1+(Wc false 0 x 0).length))
    else ⟨6,a,a+1⟩::⟨8,a+1,a+1+(qS (ks.headD [])).length⟩::⟨7,a+1+(qS (ks.headD [])).length,a+1+(qS (ks.headD [])).length+1⟩::(Sq x (a+1+(qS (ks.headD [])).length+1)++C_ false xs ks.tail (a+1+(qS (ks.headD [])).length+1+(Wc false 0 x 0).length))
end
theorem Nv(x:Tree):∀d,Wc false 0 x d=Wc false 0 x 0:=Tree.ind (Q:=λx=>∀d,Wc false 0 x d=Wc false 0 x 0) (λk t ks xs ih d=>by
  have key1:∀ys:List Tree,(∀y∈ys,y∈xs)->Ef false 0 ys (d+1)=Ef false 0 ys (0+1):=by
    intro ys
    induction ys with
    | nil=>intro _;rw[Ef,Ef]
    | cons y ys ihy =>
      intro hm;rw[Ef,Ef,ih y (hm y La) (d+1),ih y (hm y La) (0+1),ihy λz hz=>hm z (by simp[hz])]
  have key2:∀(ys:List Tree)(js:List Str),(∀y∈ys,y∈xs)->Gf false 0 ys js (d+1)=Gf false 0 ys js (0+1):=by
    intro ys
    induction ys with
    | nil=>intro _ _;rw[Gf,Gf]
    | cons y ys ihy =>
      intro js hm;rw[Gf,Gf,ih y (hm y La) (d+1),ih y (hm y La) (0+1),ihy js.tail λz hz=>hm z (by simp[hz])]
  have hj:∀(ps:List Str)(b:Bool),Zc false 0 d b ps=Zc false 0 0 b ps:=by
    intro ps
    induction ps with
    | nil=>intro b;rw[Zc,Zc]
    | cons p ps ihp=>intro b;rw[Zc,Zc,ihp];rfl
  rw[Wc,Wc];rw[key1 xs λ_ h=>h,key2 xs ks λ_ h=>h];unfold Pl;rw[hj,hj];rfl) x
def TkV(x:Tree):Prop:=Zd rnodeB x=true->∀(s r:Str)(a f:Nat)(out:List Tk),Ends r->s.drop a=Wc false 0 x 0++r->s.length-a<f->∃g,s.length-(a+(Wc false 0 x 0).length)<g/\Gg f s a out=Gg g s (a+(Wc false 0 x 0).length) (out++Sq x a)
theorem Pf{s p r:Str}{a:Nat}(h:s.drop a=p++r):s.drop (a+p.length)=r/\a+p.length<=max a s.length:=by
  refine⟨by rw[<-List.drop_drop,h,List.drop_left],?_⟩;have:=congrArg List.length h;rw[List.length_drop,dQ]at this;omega
theorem Ii{s p r:Str}{a f:Nat}{out:List Tk}{k:Int}(hp:p≠[])(h:s.drop a=p++r)(ht:Ud s a=(⟨k,a,a+p.length⟩,0))(hf:s.length-a<f) :
    ∃g,s.length-(a+p.length)<g/\Gg f s a out=Gg g s (a+p.length) (out++[⟨k,a,a+p.length⟩]):=by
  obtain⟨c,q,rfl⟩:=List.exists_cons_of_ne_nil hp;have ha:=lt_drop (r:=q++r) (c:=c) h;obtain⟨f,rfl⟩:∃g,f=g+1:=⟨f-1,by omega⟩;exact⟨f,by simp only[kQ];omega,CR ht ha⟩
theorem Sp(d:Nat)(b:Bool)(p:Str)(ps:List Str):Zc false 0 d b (p::ps)=(if b then [] else [44])++(p++Zc false 0 d false ps):=by
  rw[Zc];rfl
theorem OA(d:Nat)(ps:List Str)(c:UInt8)(hc:c=93\/c=125)(r:Str):Ends (Zc false 0 d false ps++c::r):=by
  cases ps with
  | nil=>intro x q e;rw[Zc]at e;simp only[List.nil_append,List.cons.injEq]at e;rw[<-e.1];rcases hc with rfl|rfl <;> simp
  | cons p ps=>intro x q e;rw[Sp]at e;simp only[Bool.false_eq_true,if_false,List.cons_append,List.cons.injEq]at e;exact .inl e.1.symm
theorem Y_:∀(xs:List Tree),(∀x∈xs,TkV x)->(∀x∈xs,Zd rnodeB x=true)->∀(b:Bool)(d:Nat)(s r:Str)(a f:Nat)(out:List Tk),s.drop a=Zc false 0 d b (Ef false 0 xs 1)++93::r->s.length-a<f ->
    ∃g,s.length-(a+(Zc false 0 d b (Ef false 0 xs 1)).length+1)<g/\Gg f s a out=Gg g s (a+(Zc false 0 d b (Ef false 0 xs 1)).length+1) (out++S_ b xs a)
  | [], _, _, b, d, s, r, a, f, out, h, hf => by
    rw[Ef,Zc]at h ⊢;have h':s.drop a=[93]++r:=h;obtain⟨g,hg,e⟩:=Ii (out:=out) La h' (Hp La h) hf;exact⟨g,hg,by rw[e,S_];rfl⟩
  | x :: xs, ih, hr, b, d, s, r, a, f, out, h, hf => by
    have go:∀(a f:Nat)(out:List Tk),s.drop a=Wc false 0 x 0++(Zc false 0 d false (Ef false 0 xs 1)++93::r)->s.length-a<f ->
        ∃g,s.length-(a+(Wc false 0 x 0).length+(Zc false 0 d false (Ef false 0 xs 1)).length+1)<g/\Gg f s a out=Gg g s (a+(Wc false 0 x 0).length+(Zc false 0 d false (Ef false 0 xs 1)).length+1) (out++(Sq x a++S_ false xs (a+(Wc false 0 x 0).length))):=λa f out h hf=>by
      obtain⟨g,hg,e⟩:=ih x List.mem_cons_self (hr x List.mem_cons_self) s _ a f out (OA d _ 93 (.inl rfl) r) h hf;obtain⟨g2,hg2,e2⟩:=Y_ xs (λy hy=>ih y (List.mem_cons_of_mem _ hy)) (λy hy=>hr y (List.mem_cons_of_mem _ hy)) false d s r _ g (out++Sq x a) (Pf h).1 hg;exact⟨g2,hg2,by rw[e,e2,sQ]⟩
    rw[Ef,Sp,Nv x 1]at h ⊢;cases b with
    | true =>
      simp only[if_true,List.nil_append,sQ]at h;obtain⟨g,hg,e⟩:=go a f out h hf;have e2:S_ true (x::xs) a=Sq x a++S_ false xs (a+(Wc false 0 x 0).length):=by rw[S_];rfl
      have e3:a+((if true=true then ([]:Str) else [44])++(Wc false 0 x 0++Zc false 0 d false (Ef false 0 xs 1))).length+1=a+(Wc false 0 x 0).length+(Zc false 0 d false (Ef false 0 xs 1)).length+1:=by
        simp only[if_true,List.nil_append,dQ];omega
      rw[e3,e2];exact⟨g,hg,e⟩
    | false =>
      simp only[Bool.false_eq_true,if_false,sQ,List.cons_append,List.nil_append]at h ⊢;have h':s.drop a=[44]++(Wc false 0 x 0++(Zc false 0 d false (Ef false 0 xs 1)++93::r)):=h;obtain⟨g,hg,e⟩:=Ii (out:=out) La h' (Hp La h) hf;obtain⟨g2,hg2,e2⟩:=go (a+1) g _ (Pf h').1 hg;refine⟨g2,by simp only[kQ,dQ];omega,?_⟩;rw[e,kQ,List.length_nil,Nat.zero_add,e2,S_,sQ];simp only[kQ,dQ,Bool.false_eq_true,if_false,List.cons_append,List.nil_append];rw[show a+((Wc false 0 x 0).length+(Zc false 0 d false (Ef false 0 xs 1)).length+1)+1=a+1+(Wc false 0 x 0).length+(Zc false 0 d false (Ef false 0 xs 1)).length+1 by omega];rfl
theorem M9:∀(xs:List Tree)(ks:List Str),ks.length=xs.length->(∀k∈ks,Lib.validD k=true)->(∀x∈xs,TkV x)->(∀x∈xs,Zd rnodeB x=true)->∀(b:Bool)(d:Nat)(s r:Str)(a f:Nat)(out:List Tk),s.drop a=Zc false 0 d b (Gf false 0 xs ks 1)++125::r->s.length-a<f ->
    ∃g,s.length-(a+(Zc false 0 d b (Gf false 0 xs ks 1)).length+1)<g/\Gg f s a out=Gg g s (a+(Zc false 0 d b (Gf false 0 xs ks 1)).length+1) (out++C_ b xs ks a)
  | [], ks, _, _, _, _, b, d, s, r, a, f, out, h, hf => by
    rw[Gf,Zc]at h ⊢;have h':s.drop a=[125]++r:=h;obtain⟨g,hg,e⟩:=Ii (out:=out) La h' (Hp La h) hf;exact⟨g,hg,by rw[e,C_];rfl⟩
  | x::xs,[],hl,_,_,_,_,_,_,_,_,_,_,_,_=>by cases hl
  | x :: xs, k :: ks, hl, hk, ih, hr, b, d, s, r, a, f, out, h, hf => by
    have hv:=hk k List.mem_cons_self;have eq:qS k=Cj k:=if_pos hv;have go:∀(a f:Nat)(out:List Tk),s.drop a=qS k++([58]++(Wc false 0 x 0++(Zc false 0 d false (Gf false 0 xs ks 1)++125::r)))->s.length-a<f ->
        ∃g,s.length-(a+(qS k).length+1+(Wc false 0 x 0).length+(Zc false 0 d false (Gf false 0 xs ks 1)).length+1)<g/\Gg f s a out=Gg g s (a+(qS k).length+1+(Wc false 0 x 0).length+(Zc false 0 d false (Gf false 0 xs ks 1)).length+1) (out++(⟨8,a,a+(qS k).length⟩::⟨7,a+(qS k).length,a+(qS k).length+1⟩::(Sq x (a+(qS k).length+1)++C_ false xs ks (a+(qS k).length+1+(Wc false 0 x 0).length)))):=λa f out h hf=>by
      have hne:qS k≠[]:=by obtain⟨q,e⟩:=Zy hv;rw[e];simp
      obtain⟨g0,hg0,e0⟩:=Ii (out:=out) hne h (by have:=HQ hv (h.trans (by rw[eq]));rw[eq];exact this) hf;have h2:=(Pf h).1;obtain⟨g1,hg1,e1⟩:=Ii (out:=out++[⟨8,a,a+(qS k).length⟩]) La h2 (Hp (c:=58) La h2) hg0;have h3:=(Pf h2).1;obtain⟨g,hg,e⟩:=ih x List.mem_cons_self (hr x List.mem_cons_self) s _ _ g1 (out++[⟨8,a,a+(qS k).length⟩]++[⟨7,a+(qS k).length,a+(qS k).length+1⟩]) (OA d _ 125 (.inr rfl) r) h3 hg1;obtain⟨g2,hg2,e2⟩:=M9 xs ks (by simpa using hl) (λy hy=>hk y (List.mem_cons_of_mem _ hy)) (λy hy=>ih y (List.mem_cons_of_mem _ hy)) (λy hy=>hr y (List.mem_cons_of_mem _ hy)) false d s r _ g _ (Pf h3).1 hg;exact⟨g2,hg2,e0.trans (e1.trans (e.trans (e2.trans (by simp[sQ]))))⟩
    rw[Gf,Sp,Nv x 1]at h ⊢;simp only[List.headD_cons,List.tail_cons,Bool.false_eq_true,if_false,List.nil_append]at h ⊢;cases b with
    | true =>
      simp only[if_true,List.nil_append,sQ]at h ⊢;obtain⟨g,hg,e⟩:=go a f out h hf;refine⟨g,by simp only[dQ,kQ,List.length_nil];omega,?_⟩;rw[e,C_];simp only[dQ,kQ,List.length_nil,if_true,List.headD_cons,List.tail_cons];refine congr (congrArg (Gg g s) ?_) O;omega
    | false =>
      simp only[Bool.false_eq_true,if_false,sQ]at h ⊢;obtain⟨g,hg,e⟩:=Ii (out:=out) La h (Hp (c:=44) La h) hf;obtain⟨g2,hg2,e2⟩:=go (a+1) g _ (Pf h).1 hg;refine⟨g2,by simp only[dQ,kQ,List.length_nil];omega,?_⟩;rw[e,kQ,List.length_nil,Nat.zero_add,e2,C_];simp only[dQ,kQ,List.length_nil,Bool.false_eq_true,if_false,List.headD_cons,List.tail_cons,sQ,List.cons_append,List.nil_append];refine congr (congrArg (Gg g2 s) ?_) O;omega
theorem I5{q:Tree->Bool}{k:Int}{t:Str}{ks:List Str}{xs:List Tree}(h:Zd q (.node k t ks xs)=true):q (.node k t ks xs)=true/\∀x∈xs,Zd q x=true:=by
  rw[Zd,Bool.and_eq_true,Yj]at h;exact⟨h.1,λx hx=>List.all_eq_true.1 h.2 x hx⟩
theorem Es(d:Nat)(o c:UInt8)(ps:List Str):Pl false 0 d o c ps=[o]++(Zc false 0 d true ps++[c]):=by
  unfold Pl
  congr 2
  split <;> rfl
theorem FX(x:Tree):TkV x:=Tree.ind (Q:=TkV) (λk t ks xs ih hr s r a f out he h hf=>by
  obtain⟨h1,h2⟩:=I5 hr;rcases W2 h1 with ⟨rfl,rfl,rfl,rfl⟩|⟨rfl,ht,rfl,rfl⟩|⟨rfl,ht,rfl,rfl⟩|⟨rfl,ht,rfl,rfl⟩|⟨rfl,rfl,rfl⟩|⟨rfl,rfl,hnd,hk,hl⟩
  ·have e1 : Wc false 0 (.node 1 [] [] []) 0 = [110, 117, 108, 108] := by rw[Wc];rfl
   rw[e1]at h ⊢;obtain⟨g,hg,e⟩:=Ii (out:=out) La h (YZ he h) hf;exact⟨g,hg,by rw[e,Sq];rfl⟩
  ·have e1 : Wc false 0 (.node 2 t [] []) 0 = t := by rw[Wc];rfl
   rw[e1]at h ⊢;rcases ht with rfl|rfl
   ·obtain⟨g, hg, e⟩ := Ii (out := out) La h (tok_true he h) hf
    exact⟨g,hg,by rw[e,Sq];rfl⟩
   obtain⟨g, hg, e⟩ := Ii (out := out) La h (HS he h) hf;exact⟨g,hg,by rw[e,Sq];rfl⟩
  ·have e1 : Wc false 0 (.node 3 t [] []) 0 = t := by rw[Wc];rfl
   rw[e1]at h ⊢;obtain⟨c,t',e0,-⟩:=B6 ht;obtain⟨g,hg,e⟩:=Ii (out:=out) (by rw[e0];simp) h (tok_num ht he h) hf;exact⟨g,hg,by rw[e,Sq];rfl⟩
  ·have e1 : Wc false 0 (.node 4 t [] []) 0 = qS t := by rw[Wc];rfl
   have eq:qS t=Cj t:=if_pos ht;rw[e1]at h ⊢;obtain⟨q,e0⟩:=Zy ht;obtain⟨g,hg,e⟩:=Ii (out:=out) (by rw[e0];simp) h (by have:=HQ ht (h.trans (by rw[eq]));rw[eq];exact this) hf;exact⟨g,hg,by rw[e,Sq];rfl⟩
  ·have e1 : Wc false 0 (.node 5 [] [] xs) 0 = [91] ++ (Zc false 0 0 true (Ef false 0 xs 1) ++ [93]) := by rw[Wc, if_neg Oa, if_neg Oa, if_pos rfl, Es]
   rw[e1]at h ⊢;have h':s.drop a=[91]++(Zc false 0 0 true (Ef false 0 xs 1)++93::r):=by rw[h];simp
   obtain⟨g,hg,e⟩:=Ii (out:=out) La h' (Hp (c:=91) La h') hf;obtain⟨g2,hg2,e2⟩:=Y_ xs ih h2 true 0 s r (a+1) g (out++[⟨4,a,a+1⟩]) (Pf h').1 hg;have el:a+([91]++(Zc false 0 0 true (Ef false 0 xs 1)++[93]):Str).length=a+1+(Zc false 0 0 true (Ef false 0 xs 1)).length+1:=by
     simp only[dQ,kQ,List.length_nil];omega
   rw[el];refine⟨g2,hg2,e.trans (e2.trans ?_)⟩;rw[Sq,if_neg Oa,if_neg Oa,if_neg Oa,if_neg Oa,if_pos rfl,sQ];rfl
  have e1 : Wc false 0 (.node 6 [] ks xs) 0 = [123] ++ (Zc false 0 0 true (Gf false 0 xs ks 1) ++ [125]) := by rw[Wc, if_neg Oa, if_neg Oa, if_neg Oa, if_pos rfl, Es]
  rw[e1]at h ⊢;have h':s.drop a=[123]++(Zc false 0 0 true (Gf false 0 xs ks 1)++125::r):=by rw[h];simp
  obtain⟨g,hg,e⟩:=Ii (out:=out) La h' (Hp (c:=123) La h') hf;obtain⟨g2,hg2,e2⟩:=M9 xs ks hl hk ih h2 true 0 s r (a+1) g (out++[⟨2,a,a+1⟩]) (Pf h').1 hg;have el:a+([123]++(Zc false 0 0 true (Gf false 0 xs ks 1)++[125]):Str).length=a+1+(Zc false 0 0 true (Gf false 0 xs ks 1)).length+1:=by
    simp only[dQ,kQ,List.length_nil];omega
  rw[el];refine⟨g2,hg2,e.trans (e2.trans ?_)⟩;rw[Sq,if_neg Oa,if_neg Oa,if_neg Oa,if_neg Oa,if_neg Oa,sQ];rfl) x
theorem IU{x:Tree}(hr:Zd rnodeB x=true)(hl:(Wc false 0 x 0).length<=65536):Ub (Wc false 0 x 0)=(Sq x 0,(Wc false 0 x 0).length,0):=by
  obtain⟨g,hg,e⟩:=FX x hr (Wc false 0 x 0) [] 0 ((Wc false 0 x 0).length+1) [] Ends.nil La Aa;obtain⟨g,rfl⟩:∃h,g=h+1:=⟨g-1,by omega⟩;rw[Ub,if_neg Aa,e,Nat.zero_add,List.nil_append,Gg,if_neg Aa]
end Go.Scarf
