/- A part of the proof. -/
import Derived.Test.YteedfdfinodcaaaGreatDoorW4
import Derived.Test.YteedfdfinodcaaaGreatDoorIter
set_option linter.all false
set_option maxHeartbeats 8000000
set_option maxRecDepth 10000
set_option synthInstance.maxHeartbeats 0
set_option synthInstance.maxSize 9999
namespace Go.Scarf
open List renaming length->aL
open Go.RowKit Go.Proofs Go.Proofs.Tryz
mutual
def Dl:Tree->Nat|.node _ _ ks xs=>aL ks+Ek xs
def Ek:List Tree->Nat|[]=>0|x::xs=>Dl x+Ek xs
end
theorem C7:∀{xs:List Tree}{x:Tree},x∈xs->Dl x<=Ek xs
  | [],_,h=>absurd h Ca
  | y :: ys, x, h => by
    rw[Ek];rcases oQ.1 h with rfl|h
    ·omega
    have:=C7 h;omega
def FK{xs:List Tree}{j:Nat}(h:j<aL xs):Mb (xs.take (j+1))=Mb (xs.take j)++[Sa xs[j]]:=by
  rw[iQ h,Fc,Fc,jQ];rfl
def EJ{xs:List Tree}{j:Nat}(h:j<aL xs):Mb (xs.drop j)=Sa xs[j]::Mb (xs.drop (j+1)):=by
  rw[List.drop_eq_getElem_cons h];rfl
theorem RepL.lits{S S':Nat->Prop}{w w':World}:∀{ks:List Str}{cs:List Value},RepL S w (ks.map Hh) cs->RepL S' w' (ks.map Hh) cs
  | [],cs,h=>by have:=RepL.nil_inv h;subst this;exact RepL.nil_mk
  | k :: ks, cs, h => by
    obtain⟨c1,c2,rfl,h1,h2⟩:=RepL.cons_inv h;obtain⟨rfl,h3⟩:=Rep.lit_inv h1;exact RepL.cons_mk (Rep.lit_mk h3)<|RepL.lits h2
def Lie(w:World)(A:Option Addr)(n:Nat)(es:List Value):Prop:=n≠0->∃ad,A=some ad/\∀j (hj:j<aL es),w.cell? (ad.add j)=some es[j]
def Lie.ext{w w':World}{A:Option Addr}{n:Nat}{es:List Value}(h:Lie w A n es)(hs:Same [] w w'):Lie w' A n es:=λhn=>by
  obtain⟨ad,hA,hc⟩:=h hn;exact⟨ad,hA,λj hj=>((FR.start w []).ext hs).cells0 hc j hj⟩
def UD(e m n:Nat)(es:List Value)(w0:World)(v:Value)(w':World):Prop :=
  ∃A c sb,v=.slice A n c/\SlB e m A n c es sb/\(∀p∈sb,w'.heap[p.1]? = some p.2/\w0.heap.size<=p.1)/\Same [] w0 w'
def Rep.slice_open{S:Nat->Prop}{w:World}{ds:List D}{A:Option Addr}{n c m:Nat}(h:Rep S w (.slice ds) [.slice A n c])(hm:∀d∈ds,Ic d=m) :
    ∃es,RepL S w ds es/\aL es=n*m/\Lie w A n es:=by
  have hl:=h.slice_len;obtain⟨A',c',hA,_,_,hr⟩:=Rep.slice_inv h;simp only[List.cons.injEq,Value.slice.injEq,and_true]at hA;obtain⟨rfl,_,_⟩:=hA;have hsz:∀ds:List D,(∀d∈ds,Ic d=m)->Ic.sizeL ds=aL ds*m:=by
    intro ds
    induction ds with
    | nil =>
      intro _;simp[Ic.sizeL]
    | cons d ds ih =>
      intro h;rw[Ic.sizeL,h d Ca,ih λx hx=>h x zT,kQ,Nat.add_mul];omega
  by_cases hne:ds=[]
  ·subst hne
   exact⟨[],RepL.nil_mk,by simp[hl.1],λh=>absurd hl.1 (aS h)⟩
  obtain⟨ad, rfl, es, hc, hr⟩ := hr hne;exact⟨es,hr,by rw[hr.length,hsz ds hm,hl.1],λ_=>⟨ad,O,λj hj=>(hc j hj).1⟩⟩
def L0(ks:List Str):∀d∈ks.map Hh,Ic d=1:=λd hd=>by obtain⟨k,_,rfl⟩:=nQ.1 hd;rfl
theorem VL(xs:List Tree):∀d∈Mb xs,Ic d=4:=by grind [Fc,Cb]
theorem FR.sbown{w0 w:World}{pre sb post:List (Nat × Obj)}(h:FR w0 [] (pre++(sb++post)) w):∀p∈sb,w.heap[p.1]? = some p.2/\w0.heap.size<=p.1:=λp hp=>by
  have:=h.own p (by simp[hp]);grind
theorem SlB.soft{e m n c:Nat}{A:Option Addr}{es:List Value}{sb:List (Nat × Obj)}{w:World}(h:SlB e m A n c es sb)(hb:∀p∈sb,w.heap[p.1]? = some p.2):∀p∈sb,ZE w p.1:=λp hp=>by
  have h2:∃cur,p=(p.1,.cells cur e):=by
    rcases h.2 with ⟨-,-,rfl⟩|⟨g,cur,-,rfl,-⟩
    ·cases hp
    grind
  obtain⟨cur,h2⟩:=h2;have:=hb p hp;rw[h2]at this;exact⟨cur,e,this⟩
def SlB.btw{e m n c:Nat}{A:Option Addr}{es:List Value}{sb:List (Nat × Obj)}{w w':World}{ds:List D}(h:SlB e m A n c es sb)(hb:∀p∈sb,w'.heap[p.1]? = some p.2/\w.heap.size<=p.1)(hr:RepL (Btw w w') w' ds es)(hn:aL ds=n):Rep (Btw w w') w' (.slice ds) [.slice A n c] :=
  h.repOf (λp hp=>⟨(hb p hp).1,(hb p hp).2,Ga (hb p hp).1,h.soft (λp hp=>(hb p hp).1) p hp⟩) hr hn
def X2{S:Nat->Prop}{w0 w w':World}{ks:List Str}{es:List Value}{v:Value}(h:UD 9 1 (aL ks) es w v w')(hr:RepL S w0 (ks.map Hh) es):∃A c,v=.slice A (aL ks) c/\Rep (Btw w w') w' (Wa ks) [.slice A (aL ks) c]/\Same [] w w':=by
  obtain⟨A,c,sb,rfl,hS,hb,hE⟩:=h;exact⟨A,c,O,hS.btw hb hr.lits Ca,hE⟩
def Xz(len:Nat)(A:Option Addr)(c:Nat)(es:List Value)(w0:World)(hel:aL es=len*1)(hcell:Lie w0 A len es)(ho:∀v∈es,one v=true)(hb:len<=8796093022208):Calls prog 73 #[.slice A len c] w0 (Qb λv w'=>UD 9 1 len es w0 v w'):=by
 refine Ha func73 ntmps73 ?_;intro hF;refine rn 9<|Da (v:=.bool<|(A).isNone) (T6 wZ O O) ?_;refine rn 3 ⟨λhc0=>?_,λhc0=>?_⟩;have hA:A=none:=aS hc0
 refine rn 6 ?_;have h0:len=0:=by rcases Nat.eq_zero_or_pos len with h|h;exact h;obtain⟨ad,hh,_⟩:=hcell fX;rw[hA]at hh;cases hh
 have hes:es=[]:=List.eq_nil_of_length_eq_zero (by rw[hel,h0,Nat.zero_mul]);subst hes;exact⟨none,0,[],by rw[h0],by rw[h0];exact SlB.nil _ _,Ca,hF.same⟩;refine rn 4<|ON 0 hF (Gv wZ sizeOf9) ?_;rintro b1 w hb1 hF -;have hS0:SlB 9 1 (some ⟨b1,0,none⟩) 0 0 [] [(b1,.cells #[] 9)]:=⟨Ca,.inr ⟨b1,#[],rfl,rfl,gQ _,bZ _,Ca,Ca⟩⟩;refine rn 1 ?_;refine Qo [] [] (news:=es) (len':=0+len) (ys:=[]++es) X_ hF hS0 rfl rfl (by rw[hel]) (λhk=>by obtain⟨ad,hA,hc⟩:=hcell hk;exact⟨ad,hA,Ce<|hF.cells0 hc⟩) (Zl ho) qR (rfl) (rfl) fX ?_;intro A0 c0 a_0 w hS0_a hF hE hnew;refine rn 4 ?_;simp only[Nat.zero_add,kZ]at *;exact⟨_,_,_,O,qK,hF.sbown (pre:=[]) (post:=[]),hF.same⟩
def PU(len:Nat)(A:Option Addr)(c:Nat)(es:List Value)(w0:World)(hel:aL es=len*4)(hcell:Lie w0 A len es)(ho:∀v∈es,one v=true)(hb:len<=1000000000):Calls prog 131 #[.slice A len c] w0 (Qb λv w'=>UD 25 4 len es w0 v w'):=by
 refine Ha func131 ntmps131 ?_;intro hF;refine rn 9<|Da (v:=.bool<|(A).isNone) (T6 xZ O O) ?_;refine rn 3 ⟨λhc0=>?_,λhc0=>?_⟩;have hA:A=none:=aS hc0
 refine rn 6 ?_;have h0:len=0:=by rcases Nat.eq_zero_or_pos len with h|h;exact h;obtain⟨ad,hh,_⟩:=hcell fX;rw[hA]at hh;cases hh
 have hes:es=[]:=List.eq_nil_of_length_eq_zero (by rw[hel,h0,Nat.zero_mul]);subst hes;exact⟨none,0,[],by rw[h0],by rw[h0];exact SlB.nil _ _,Ca,hF.same⟩;refine rn 4<|ON 0 hF (Gv xZ rZ) ?_;rintro b1 w hb1 hF -;have hS0:SlB 25 4 (some ⟨b1,0,none⟩) 0 0 [] [(b1,.cells #[] 25)]:=⟨Ca,.inr ⟨b1,#[],rfl,rfl,gQ _,bZ _,Ca,Ca⟩⟩;refine rn 1 ?_;refine Qo [] [] (news:=es) (len':=0+len) (ys:=[]++es) H3 hF hS0 rfl rfl (by rw[hel]) (λhk=>by obtain⟨ad,hA,hc⟩:=hcell hk;exact⟨ad,hA,Ce<|hF.cells0 hc⟩) (Zl ho) qR (rfl) (rfl) fX ?_;intro A0 c0 a_0 w hS0_a hF hE hnew;refine rn 4 ?_;simp only[Nat.zero_add,kZ]at *;exact⟨_,_,_,O,qK,hF.sbown (pre:=[]) (post:=[]),hF.same⟩
def NewC(F:Nat)(args:Array Value)(d:D)(w0:World):Prop:=Calls prog F args w0 (Qb λv w'=>∃ct:List Value,v=.agg ct.toArray/\Rep (Btw w0 w') w' d ct/\Same [] w0 w')
def OM(x:Tree):Prop:=∀S w0 cs,Rep S w0 (Sa x) cs->Ja x<=1000000000->(Dl x<=8796093022208)->NewC 99 #[.agg cs.toArray] (Sa x) w0
theorem GL(k:Int)(t:Str)(ks:List Str)(xs:List Tree)(ih:∀x,x∈xs->OM x):OM (.node k t ks xs):=by
 intro S w0 cs hR hsz hky;rw[Ja]at hsz;rw[Dl]at hky;have hxn:=Vd xs;obtain⟨A,c,B,e,rfl,hk,ht,hK,hX⟩:=hR.tree_inv;obtain⟨eK,hrK,hKl,hKc⟩:=hK.slice_open<|L0 ks;obtain⟨eX,hrX,hXl,hXc⟩:=hX.slice_open<|VL xs;refine Ha func99 ntmps99 ?_;intro hF;refine rn 3 ?_;rintro b1 w hb1 hF -;refine rn 1 ?_;rintro b2 w hb2 hF -;refine rn 3<|Fe (zs:=.of [9,7]) (bQ [0,1,3,4]<|.act 2<|.free 6<|.act 5<|.act 7<|.free 8<|.act 9 .nil) hF ?_;intro w hF;refine rn 4<|Me (Xz (aL ks) A c eK _ hKl (Lie.ext hKc hF.same) hrK.one_ fX) ?_;rintro _ w hcl;obtain⟨A1,c1,rfl,hK1,hE⟩:=X2 hcl hrK;have hKX:=RX.made (ids:=[b2,b1]) hF.same.size (λx hx=>hF.lt_ids qJ) hK1;have hF:=hF.ext hE;clear hE hcl hK1;refine⟨hF,?_⟩;refine rn 1<|Me (PU (aL xs) B e eX _ hXl (Lie.ext hXc hF.same) hrX.one_ fX) ?_;rintro _ w ⟨A2,c2,sb2,rfl,hS2,hh2,hE⟩;have hKX:=hKX.step (ids':=[b2,b1]++sb2.map (·.1)) hE Ca (λx hx=>by rcases mQ.1 hx with hx|hx;exact .inl hx;obtain⟨p,hp,rfl⟩:=nQ.1 hx;exact .inr (hh2 p hp).2);have hF:=hF.extseg hE hh2 hS2.pw;refine⟨hF.su,?_⟩;refine rn 1 ?_;intro w hF hE;have hKX:=hKX.store hE qJ;refine rn 2 ?_;intro w hF hE;have hKX:=hKX.store hE qJ;refine rn 12 (Za (λμ σ w=>∃(j:Nat),∃(dn:List Value),∃(rs:List Value),∃(sb:List (Nat × Obj)),μ=aL xs-j/\(j<=aL xs)/\(SlB 25 4 A2 (aL xs) c2 (dn++rs) sb)/\(aL dn=j*4)/\(RepL S w0 (Mb<|xs.drop j) rs)/\(RX w0 ([b2,b1]++sb.map (·.1)) w (Mb<|xs.take j) dn)/\(RX w0 ([b2,b1]++sb.map (·.1)) w [Wa ks] [.slice A1 (aL ks) c1])/\AllEq σ [(1,V b1),(2,V b2),(14,.slice A2 (aL xs) c2),(15,J<|(aL xs:Nat)),(16,J<|(j:Int))]/\FR w0 [] ([(b2,.cells #[J 0,I [],aQ,aQ] 25),(b1,.cells #[J k,I t,.slice A1 (aL ks) c1,.slice A2 (aL xs) c2] 25)]++(sb++[])) w) _ ⟨0,[],eX,sb2,O,bZ _,hS2,O,aS hrX,RX.nil,hKX,Gc,hF⟩ ?_)
 rintro μ σ w ⟨j,dn,rs,sb,rfl,hj,hS,hd,hrr,hDX,hKX,hzz,hF⟩;refine Gh hzz 7 ⟨λhc0=>?_,λhc0=>?_⟩;refine rn 7 ?_;have hjx:j<aL xs:=by_Om
 rw[EJ hjx]at hrr;obtain⟨c1_,c2_,rfl,hr1,hr2⟩:=RepL.cons_inv hrr;have hl1:aL c1_=4:=hr1.length.trans<|Cb _;have ho1:=hr1.one_;obtain⟨ad0,hA0,hk0⟩:=hS.elemMid (pre:=[(b2,.cells #[J 0,I [],aQ,aQ] 25),(b1,.cells #[J k,I t,.slice A1 (aL ks) c1,.slice A2 (aL xs) c2] 25)]) (post:=[]) (pr:=dn) (mid:=c1_) (po:=c2_) hF (j:=j) hd hl1 hjx;refine Da (v:=.pointer<|some<|ad0.add<|j*4) (Ea (i:=(j:Int)) Wc hA0)<|Da (v:=.agg<|List.toArray c1_) (Qa (l:=c1_) nZ rZ O hl1 hk0) ?_;refine rn 1 ?_;intro b3 w hb3 hF hE;have hKX:=hKX.alloc hE hb3;have hDX:=hDX.alloc hE hb3;refine rn 1 ?_;refine Cd 0 (l:=c1_) (cs':=(List.toArray c1_)) hF wS O (v:=.agg<|List.toArray c1_) O O (ho1) O (by rw[hl1];exact Nat.le_of_ble_eq_true O) (Vg (by rw[hl1];rfl)) ?_;intro w hF hE;have hKX:=hKX.store hE qJ;have hDX:=hDX.store hE qJ;refine rn 2<|Vb (.of [6]) (bQ [0,1,2,3]<|.act 4<|.free 5<|.act 6 .nil) hF ?_;intro w hF hE;have hKX:=hKX.ext hE;have hDX:=hDX.ext hE;refine⟨λwq=>FR w0 [] [(b3,.cells (List.toArray c1_) 25),(b2,.cells #[J 0,I [],aQ,aQ] 25),(b1,.cells #[J k,I t,.slice A1 (aL ks) c1,.slice A2 (aL xs) c2] 25)] wq,hF.mid 0 3,?_⟩;refine rn 3 ?_;refine Fa O (v:=.agg<|List.toArray c1_) (λw hC=>Qa (l:=c1_) nZ rZ O hl1<|hC.cellsAll 0 O) ?_;refine Me (ih xs[j] (eQ hjx) S _ c1_ (hF.rep hr1) (by have:=Ld<|eQ hjx;omega) (by have:=C7<|eQ hjx;omega)) ?_;rintro _ w ⟨ct,rfl,hRt,hE⟩;have hlt:aL ct=4:=hRt.length.trans<|Cb _;have hot:=hRt.one_;have hYX:=RX.made (ids:=b3::([b2,b1]++sb.map (·.1))) hF.same.size (λx hx=>hF.lt_ids qJ) hRt;have hKX:=hKX.ext hE;have hDX:=(hDX.ext hE).append hYX;have hF:=hF.ext hE;clear hE hYX;refine⟨hF.su,?_⟩;obtain⟨ad1,hA1,hk1⟩:=hS.elemMid (pre:=[(b3,.cells (List.toArray c1_) 25),(b2,.cells #[J 0,I [],aQ,aQ] 25),(b1,.cells #[J k,I t,.slice A1 (aL ks) c1,.slice A2 (aL xs) c2] 25)]) (post:=[]) (pr:=dn) (mid:=c1_) (po:=c2_) hF (j:=j) hd hl1 hjx
 refine Fa O (v:=.pointer<|some<|ad1.add<|j*4) (λw hC=>Ea (i:=(j:Int)) Wc hA1)<|AX [(b3,.cells (List.toArray c1_) 25),(b2,.cells #[J 0,I [],aQ,aQ] 25),(b1,.cells #[J k,I t,.slice A1 (aL ks) c1,.slice A2 (aL xs) c2] 25)] [] O hF (pr:=dn) (mid:=c1_) (po:=c2_) (new:=ct) (j:=j) hS hd hl1 hA1 (hjx) rZ O (v:=.agg<|List.toArray ct) O O hlt hot ?_;intro i_2 w hS2_i hF hE hids;have hKX:=hKX.store hE qJ;have hDX:=hDX.store hE qJ;refine rn 4<|Tc Fj ?_;refine rn 2 ?_;refine Va ⟨_,?_,j+1,dn++ct,c2_,i_2,O,hjx,aS hS2_i,by rw[dQ,hd,hlt];omega,hr2,by rw[FK hjx,hids];exact hDX.sub λx hx=>fZ _ hx,by rw[hids];exact hKX.sub λx hx=>fZ _ hx,Gc,hF.su⟩;omega;refine rn 6 ?_;intro w hF hE;have hKX:=hKX.store hE qJ;have hDX:=hDX.store hE qJ;refine rn 3 ?_;have ej:j=aL xs:=by_Om
 subst ej;rw[List.take_length]at hDX;have e0:rs=[]:=by rw[List.drop_length]at hrr;exact RepL.nil_inv hrr
 subst e0;rw[qQ]at hS;refine⟨_,O,?_,hF.same⟩
 ·exact Rep.tree_mk hk ht hKX.done<|hS.rep (pre:=[_,_]) (post:=[]) hF hDX Ca
def HD(x:Tree):OM x:=Tree.ind GL x
mutual
def sortT:Tree->Tree
  | .node k t ks xs=>if k=6 then .node k t (We ks) ((We ks).map λkey=>(Jc ks (Od xs) key).getD (.node 0 [] [] [])) else .node k t [] (Od xs)
def Od:List Tree->List Tree
  | []=>[]
  | x::xs=>sortT x::Od xs
end
theorem Uh:∀xs:List Tree,Od xs=xs.map sortT
  | []=>rfl
  | x::xs=>by rw[Od,Uh xs,iZ]
theorem Cw{key:Str}{y:Tree}:∀{ks:List Str}{xs:List Tree},Jc ks xs key=some y->Jc ks (Od xs) key=some (sortT y)
  | [],xs,h=>by cases xs <;> cases h
  | k::ks,[],h=>by cases h
  | k :: ks, x :: xs, h => by
    rw[Od,Jc];rw[Jc]at h;by_cases he:k=key
    ·rw[uQ he]at h ⊢;injection h with h;rw[h]
    rw[tQ he]at h ⊢;exact Cw h
theorem EN{S:Nat->Prop}{w:World}{key:Str}{ks:List Str}{xs:List Tree}{l:MapL}(hk:l.map (·.1)=ks)(hm:MapRep S w xs l)(hin:key∈ks) :
    ∃(cs:List Value)(y:Tree),Ad l key=some (.agg cs.toArray)/\Jc ks xs key=some y/\y∈xs/\Rep S w (Sa y) cs:=by
  rcases Sr key hk hm with ⟨h,-⟩|h
  ·exfalso
   rw[<-hk]at hin;obtain⟨x,hx,hxe⟩:=nQ.1 hin;unfold Ad at h;rw[Option.map_eq_none_iff,List.find?_eq_none]at h;grind
  exact h
def MapRep.back{S:Nat->Prop}{w0 w:World}{xs:List Tree}{l:MapL}(h:MapRep (Old S w0) w xs l)(hs:Same [] w0 w):MapRep (Old S w0) w0 xs l:=λi hi=>by
  obtain⟨cs,h1,h2,h3⟩:=h i hi;exact⟨cs,h1,h2,h3.back hs⟩
def KeysAt(w1:World)(bk m:Nat)(l:MapL):Prop:=∃W:World,w1=W.alloc (.cells #[.map (some m)] 78)/\bk=W.heap.size/\W.heap[m]? = some (Ub l)
def keys_c(m:Nat)(l:MapL)(w:World)(hm:w.heap[m]? = some (Ub l)):Calls prog 254 #[.map (some m)] w (Qb λv w'=>∃bk,v=.func (.func 269) #[] #[V bk]/\KeysAt w' bk m l/\Same [] w w') :=
  (callsIn_wide.1<|maps_Keys_254 (some m) w).mono λ_ _ ⟨he,hw⟩=>⟨_,he,w.heap.size,rfl,⟨w,hw,rfl,hm⟩,by rw[hw];exact Same.alloc w _⟩
theorem QC(bk m:Nat)(l:MapL)(ks:List Str)(w:World)(h:KeysAt w bk m l)(hk:l.map (·.1)=ks)(hn:ks.Nodup)(hb:aL ks<=1000000000)(hs:∀s∈ks,aL s<=140737488355328) :
    Calls prog 137 #[.func (.func 269) #[] #[V bk]] w (Qb λv w'=>∃A c,v=.slice A (aL ks) c/\Rep (Btw w w') w' (Wa (We ks)) [.slice A (aL ks) c]/\Same [] w w'):=by
  obtain⟨W,rfl,rfl,hm⟩:=h;have hl:aL l=aL ks:=qJ
  obtain⟨D0,hown,hperm,hsz⟩:=WL (P:=prog) bX hm (by rw[hk];exact hn) (λx hx=>by have:=hs x.1 (by rw[<-hk];exact List.mem_map_of_mem hx);simp only[maxLen];omega) qR;refine (callsIn_wide.1<|slices_Sorted_keys_137_254 m (aL l) D0 _ W hown (by rw[hsz];simp only[maxLen];omega) (by rw[hsz];omega)).mono ?_;rintro e w' ⟨v,ss,rfl,hp,hrow,-,hbel⟩;have hpk:ss.Perm ks:=qJ
  have e1:(ss.mergeSort λx y=>decide (x<=y))=We ks:=H_ hpk;rw[e1]at hrow;have e2:aL ss=aL (We ks):=by rw[Jd];exact hpk.length_eq
  rw[e2]at hrow;obtain⟨A,c,rfl,hr⟩:=row_strs (S:=Btw (W.alloc<|.cells #[.map<|some m] 78) w') 9 hrow (λg h1 h2 h3=>⟨h1,h2,h3⟩) (λs hs'=>by have:=hs s<|Xl.1 hs';omega);rw[Jd]at hr;exact⟨_,O,A,c,by rw[Jd],hr,.of_below hbel⟩
def YD(x:Tree):Prop:=∀S w0 cs,Rep S w0 (Sa x) cs->Rw x->Zb nodeB x=true->Ja x<=1000000000->NewC 227 #[.agg cs.toArray] (Sa (sortT x)) w0
def OK{xs:List Tree}{j:Nat}(h:j<aL xs):Mb (Od (xs.take (j+1)))=Mb (Od (xs.take j))++[Sa (sortT xs[j])]:=by
  rw[iQ h,Fc,Fc,Uh,Uh,jQ,jQ];rfl
def E_(ks:List Str)(xs:List Tree):List Tree:=(We ks).map λkey=>(Jc ks (Od xs) key).getD (.node 0 [] [] [])
theorem G9(ks:List Str)(xs:List Tree):aL (E_ ks xs)=aL ks:=by grind [E_,Jd]
theorem MW{ks:List Str}{xs:List Tree}{j:Nat}{y:Tree}(h:j<aL (We ks))(hy:Jc ks xs (We ks)[j]=some y):Mb ((E_ ks xs).take (j+1))=Mb ((E_ ks xs).take j)++[Sa (sortT y)]:=by
  have h':j<aL (E_ ks xs):=by grind [G9,Jd]
  rw[iQ h',Fc,Fc,jQ];grind [E_,Cw]
theorem PJ(k:Int)(t:Str)(ks:List Str)(xs:List Tree)(ih:∀x,x∈xs->YD x):YD (.node k t ks xs):=by
 intro S w0 cs hR hok hnx hsz;have hR:=hR.old;rw[Rw]at hok;rw[Ja]at hsz;have hxn:=Vd xs;have hnx:=Sc hnx;obtain⟨A,c,B,e,rfl,hk,ht,hK,hX⟩:=hR.tree_inv;have hXl:=hX.slice_len;have hKn:k=6->aL ks=aL xs:=λe=>(Hk<|e▸hnx.1).2;refine Ha func227 ntmps227 ?_;intro hF;refine rn 3 ?_;rintro b1 w hb1 hF -;refine rn 1 ?_;rintro b2 w hb2 hF -;refine rn 8<|Da (w':=w) (v:=.agg #[J k,I t,aQ,aQ]) Ib ?_;refine rn 1 ?_;rintro b3 w hb3 hF -;refine rn 11 ⟨λhc0=>?_,λhc0=>?_⟩;refine rn 10 (Za (λμ σ w=>∃(j:Nat),∃(A1:Option Addr),∃(c1:Nat),∃(sb:List (Nat × Obj)),∃(cs1:List Value),μ=aL xs-j/\(j<=aL xs)/\(SlB 25 4 A1 j c1 cs1 sb)/\(RX w0 ([b3,b2,b1]++sb.map (·.1)) w (Mb<|Od<|xs.take j) cs1)/\AllEq σ [(2,V b2),(3,V b3),(18,.slice B (aL xs) e),(19,J<|(aL xs:Nat)),(20,J<|(j:Int))]/\FR w0 [] ([(b3,.cells #[J k,I t,aQ,.slice A1 j c1] 25),(b2,.cells #[J 0,I [],aQ,aQ] 25),(b1,.cells #[J k,I t,.slice A (aL ks) c,.slice B (aL xs) e] 25)]++(sb++[])) w) _ ⟨0,none,0,[],[],O,bZ _,SlB.nil _ _,RX.nil,Gc,hF⟩ ?_);rintro μ σ w ⟨j,A1,c1,sb,cs1,rfl,hj,hS,hDX,hzz,hF⟩;refine Gh hzz 7 ⟨λhc1=>?_,λhc1=>?_⟩;refine rn 6 ?_;obtain⟨ad0,cs0,hA0,hl0,hk0,hx0⟩:=hX.tree_elem (i:=j) fX;have ho0:=hx0.one_;refine Da (v:=.pointer<|some<|ad0.add<|j*4) (Ea (i:=(j:Int)) Wc hA0)<|Da (v:=.agg<|List.toArray cs0) (Qa (l:=cs0) nZ rZ O hl0<|hF.cells0 hk0) ?_;refine Zm (l:=cs0) hF cX jB bB (v:=.agg<|List.toArray cs0) O O (ho0) O ?_;intro b4 w hb4 hF hE;have hDX:=hDX.alloc hE hb4;refine rn 2<|Vb (.of [7]) (bQ [0,1,2]<|cQ [3,4,5]<|.free 6<|.act 7 .nil) hF ?_;intro w hF hE;have hDX:=hDX.ext hE;refine⟨λwq=>FR w0 [] [(b4,.cells (List.toArray cs0) 25),(b3,.cells #[J k,I t,aQ,.slice A1 j c1] 25),(b2,.cells #[J 0,I [],aQ,aQ] 25),(b1,.cells #[J k,I t,.slice A (aL ks) c,.slice B (aL xs) e] 25)] wq,hF.mid 0 4,?_⟩
 refine rn 2 ?_;refine Fa O (v:=.agg<|List.toArray cs0) (λw hC=>Qa (l:=cs0) nZ rZ O hl0<|hC.cellsAll 0 O) ?_;refine Me (ih xs[j] (eQ fX) _ _ cs0 (hF.rep hx0) (Ct hok.2.2 _<|eQ fX) (hnx.2 _<|eQ fX) zY) ?_;rintro _ w ⟨ct,rfl,hRt,hE⟩;have hlt:aL ct=4:=hRt.length.trans<|Cb _;have hot:=hRt.one_;have hYX:=RX.made (ids:=[b4,b3,b2,b1]++sb.map (·.1)) hF.same.size (λx hx=>hF.lt_ids qJ) hRt;have hDX:=(hDX.ext hE).append hYX;have hF:=hF.ext hE;clear hE hYX;refine⟨hF.su,?_⟩;refine f_newS 1 O hF (Zp (l:=ct) xZ rZ cX Pa Pa O hlt) ?_;intro b5 w hb5 hF hE;have hDX:=hDX.alloc hE hb5;refine⟨hF.su,?_⟩;refine f_app (news:=ct) (len':=j+1) (ys:=cs1++ct) O H3 hF hS O O (by rw[hlt]) (λ_=>⟨_,O,Ce<|hF.cellsAll 0 O⟩) (Zl hot) qR (O) (O) fX ?_;intro A1 c1 i_1 w hS1_i hF hE hnew;have hDX:=hDX.app (l:=[b5,b4,b3,b2,b1]) hE hnew;refine⟨hF.su,?_⟩;refine rn 2 ?_;intro w hF hE;have hDX:=hDX.store hE qJ;refine rn 4<|Tc Fj ?_;refine rn 2 ?_;refine Va ⟨_,?_,j+1,A1,c1,i_1,cs1++ct,O,fX,qK,by rw[OK fX];exact hDX.sub qJ,Gc,hF.su⟩;omega;refine rn 6 ?_;intro w hF hE;have hDX:=hDX.store hE qJ;refine rn 3 ?_;have ej:j=aL xs:=by_Om
 subst ej;rw[List.take_length]at hDX;refine⟨_,O,?_,hF.same⟩;rw[sortT,tQ hc0];exact Rep.tree_mk hk ht (Rep.nil_slice 0 fX none)<|hS.rep (pre:=[_,_,_]) (post:=[]) hF hDX (by rw[Vh,Uh,rQ]);refine rn 5 ?_;have k6:k=6:=aS hc0
 refine Yb (Fu k t ks xs (Hk<|k6▸hnx.1).1 (Hk<|k6▸hnx.1).2 _ _ _<|hF.rep hR) ?_;rintro _ w ⟨m1,l1,rfl,hge,hm1,hk1,hr1,hE⟩;have hF:=hF.cons_ext hE hm1 hge;have hr1:=hr1.back hF.same;clear hE hm1 hge;refine rn 6<|Yb (keys_c m1 l1 _<|hF.heap (i:=0) O) ?_;rintro _ w ⟨bk,rfl,hKA,hE⟩;have hF:=hF.ext hE;refine Yb (QC bk m1 l1 ks _ hKA hk1 (Hk<|k6▸hnx.1).1 fX hok.2.1) ?_;rintro _ w ⟨A2,c2,rfl,hK2,hE⟩;have hKX:=RX.made (ids:=[m1,b3,b2,b1]) hF.same.size (λx hx=>hF.lt_ids qJ) hK2;have hF:=hF.ext hE;clear hE hK2;refine rn 2 ?_;intro w hF hE;have hKX:=hKX.store hE qJ;refine rn 12 (Za (λμ σ w=>∃(j:Nat),∃(A1:Option Addr),∃(c1:Nat),∃(sb:List (Nat × Obj)),∃(cs1:List Value),μ=aL ks-j/\(j<=aL ks)/\(SlB 25 4 A1 j c1 cs1 sb)/\(RX w0 ([m1,b3,b2,b1]++sb.map (·.1)) w (Mb<|(E_ ks xs).take j) cs1)/\(RX w0 ([m1,b3,b2,b1]++sb.map (·.1)) w [Wa<|We ks] [.slice A2 (aL ks) c2])/\AllEq σ [(2,V b2),(3,V b3),(6,.map<|some m1),(40,.slice A2 (aL ks) c2),(41,J<|(aL ks:Nat)),(42,J<|(j:Int))]/\FR w0 [] ([(m1,Ub l1),(b3,.cells #[J k,I t,.slice A2 (aL ks) c2,.slice A1 j c1] 25),(b2,.cells #[J 0,I [],aQ,aQ] 25),(b1,.cells #[J k,I t,.slice A (aL ks) c,.slice B (aL xs) e] 25)]++(sb++[])) w) _ ⟨0,none,0,[],[],O,bZ _,SlB.nil _ _,RX.nil,hKX,Gc,hF⟩ ?_);rintro μ σ w ⟨j,A1,c1,sb,cs1,rfl,hj,hS,hDX,hKX,hzz,hF⟩;refine Gh hzz 7 ⟨λhc2=>?_,λhc2=>?_⟩;refine rn 6 ?_;obtain⟨ad2,hA2,hk2,hx2⟩:=hKX.rep.str_elem (i:=j) (by rw[Jd];omega);refine Da (v:=.pointer<|some<|ad2.add<|j*1) (Ea (i:=(j:Int)) Hd hA2) ?_;refine Da (v:=I<|(We ks)[j]'(by rw[Jd];omega)) (Ma qZ hk2) ?_;refine rn 3<|Vb (.of [9]) (bQ [0,1,2,3,4]<|cQ [5,6,7]<|.free 8<|.act 9 .nil) hF ?_;intro w hF hE;have hDX:=hDX.ext hE;have hKX:=hKX.ext hE;refine⟨λwq=>FR w0 [] [(m1,Ub l1),(b3,.cells #[J k,I t,.slice A2 (aL ks) c2,.slice A1 j c1] 25),(b2,.cells #[J 0,I [],aQ,aQ] 25),(b1,.cells #[J k,I t,.slice A (aL ks) c,.slice B (aL xs) e] 25)] wq,hF.mid 0 4,?_⟩
 refine rn 4 ?_;obtain⟨cy,y,hlk,hlt_,hym,hry⟩:=EN hk1 hr1<|Xl.1<|List.getElem_mem (l:=We ks) (n:=j) (by rw[Jd];omega);have hoy:=hry.one_;have hly:aL cy=4:=hry.length.trans<|Cb _;refine Fa O (v:=.agg<|List.toArray cy) (λw hC=>Sf zZ bX cX O O (hC.heap (i:=0) O) jD) ?_;refine Me (ih y hym _ _ cy (hF.rep hry) (Ct hok.2.2 y hym) (hnx.2 y hym) (by have:=Ld hym;omega)) ?_;rintro _ w ⟨ct,rfl,hRt,hE⟩;have hlt:aL ct=4:=hRt.length.trans<|Cb _;have hot:=hRt.one_;have hYX:=RX.made (ids:=[m1,b3,b2,b1]++sb.map (·.1)) hF.same.size (λx hx=>hF.lt_ids qJ) hRt;have hDX:=(hDX.ext hE).append hYX;have hF:=hF.ext hE;have hKX:=hKX.ext hE;clear hE hYX;refine⟨hF.su,?_⟩;refine f_newS 1 O hF (Zp (l:=ct) xZ rZ cX Pa Pa O hlt) ?_;intro b6 w hb6 hF hE;have hDX:=hDX.alloc hE hb6;have hKX:=hKX.alloc hE hb6;refine⟨hF.su,?_⟩;refine f_app (news:=ct) (len':=j+1) (ys:=cs1++ct) O H3 hF hS O O (by rw[hlt]) (λ_=>⟨_,O,Ce<|hF.cellsAll 0 O⟩) (Zl hot) qR (O) (O) fX ?_;intro A3 c3 i_3 w hS3_i hF hE hnew;have hDX:=hDX.app (l:=[b6,m1,b3,b2,b1]) hE hnew;have hKX:=hKX.app (l:=[b6,m1,b3,b2,b1]) hE hnew;refine⟨hF.su,?_⟩;refine rn 2 ?_;intro w hF hE;have hDX:=hDX.store hE qJ;have hKX:=hKX.store hE qJ;refine rn 4<|Tc Fj ?_;refine rn 2 ?_;refine Va ⟨_,?_,j+1,A3,c3,i_3,cs1++ct,O,fX,qK,by rw[MW (by rw[Jd];omega) hlt_];exact hDX.sub qJ,hKX.sub qJ,Gc,hF.su⟩;omega;refine rn 6 ?_;intro w hF hE;have hDX:=hDX.store hE qJ;have hKX:=hKX.store hE qJ;refine rn 3 ?_;have ej:j=aL ks:=by_Om
 subst ej;rw[cZ (by rw[G9];exact gQ _)]at hDX;refine⟨_,O,?_,hF.same⟩;rw[sortT,uQ k6]
 ·exact Rep.tree_mk hk ht hKX.done<|hS.rep (pre:=[_,_,_,_]) (post:=[]) hF hDX (by rw[Vh];exact G9 ks xs)
def sorted_c(x:Tree):YD x:=Tree.ind PJ x
def zeroT:Tree:=.node 0 [] [] []
def Zf(S:Nat->Prop)(w:World):Rep S w (Sa zeroT) [J 0,I [],aQ,aQ] :=
  Rep.tree_mk ⟨by_Om,by_Om⟩ Ca (Rep.nil_slice 0 fX none) (Rep.nil_slice 0 fX none)
def Oe(x:Tree):Tree:=if Ke x then sortT x else zeroT
def Jy(x:Tree):Tree:=if Ke x then x else zeroT
def Di(x:Tree)(key:Str):Tree × Bool:=if Ke x=true/\x.kind=6 then match Jc x.keys x.items key with|some y=>(y,true)|none=>(zeroT,false) else (zeroT,false)
theorem GP{k:Int}{t:Str}{ks:List Str}{xs:List Tree}(h:nodeB (.node k t ks xs)=true):aL ks<=aL xs:=by
  by_cases h6:k=6
  ·subst h6
   have:=(Hk h).2;omega
  grind [nodeB]
theorem HE:∀x:Tree,Zb nodeB x=true->Dl x+1<=Ja x:=λx=>Tree.ind (Q:=λx=>Zb nodeB x=true->Dl x+1<=Ja x) (λk t ks xs ih h=>by
  obtain⟨h1,h2⟩:=Sc h;have h3:=GP h1;have h7:∀ys:List Tree,(∀y∈ys,y∈xs)->aL ys+Ek ys<=Oa ys:=by
    intro ys
    induction ys with
    | nil=>intro _;simp[Ek,Oa]
    | cons y ys ihy =>
      intro hm;have h5:=ihy λz hz=>hm z qA;have h9:=ih y (hm y Ca)<|h2 y<|hm y Ca;simp only[Ek,Oa,kQ];omega
  have:=h7 xs λ_ h=>h;rw[Dl,Ja];omega) x
theorem Vj{key:Str}{y:Tree}:∀{ks:List Str}{xs:List Tree},Jc ks xs key=some y->y∈xs
  | [],xs,h=>by cases xs <;> cases h
  | k::ks,[],h=>by cases h
  | k :: ks, x :: xs, h => by
    rw[Jc]at h;by_cases he:k=key
    ·rw[uQ he]at h;injection h with h;simp[h]
    rw[tQ he]at h;simp[Vj h]
theorem RS:∀{xs:List Tree},(∀x∈xs,Rw x)->KJ xs
  | [],_=>by rw[KJ];trivial
  | x::xs,h=>by rw[KJ];exact⟨h x Ca,RS λy hy=>h y qD⟩
theorem HU{x:Tree}(h:Ke x=true):Ja x<=4096:=by grind [Ke,Um]
theorem GA(x:Tree)(hsz:Ja x<=1000000000)(S:Nat->Prop)(w0:World)(cs:List Value)(hR:Rep S w0 (Sa x) cs)(hk:Rw x)(hG:Gl w0):NewC 199 #[.agg cs.toArray] (Sa (Oe x)) w0:=by
 have hl:aL cs=4:=hR.length.trans<|Cb x;have ho:=hR.one_;refine Ha func199 ntmps199 ?_;intro hF;refine rn 2<|Cj (v:=.agg<|List.toArray cs) (cs:=(List.toArray cs)) hF O O ?_;rintro b1 w hb1 hF -;refine rn 1 ?_;rintro b2 w hb2 hF -;refine rn 5<|Da (v:=.agg<|List.toArray cs) (Qa (l:=cs) nZ rZ O hl<|hF.cellsAll 1 O) ?_;refine Ta (Rv x hsz S cs (hF.rep hR) hk<|hG.ext hF.same) ?_;rintro w hF -;refine rn 4 ⟨λhc0=>?_,λhc0=>?_⟩;refine rn 2<|Da (w':=w) (v:=.agg #[J 0,I [],aQ,aQ]) Ib ?_;refine rn 1 ?_;rintro w hF -;refine rn 3 ?_;have ho_:Ke x=false:=aS hc0
 refine⟨_,O,?_,hF.same⟩;rw[Oe,ho_];exact Zf _ _;refine rn 4<|Da (v:=.agg<|List.toArray cs) (Qa (l:=cs) nZ rZ O hl<|hF.cellsAll 1 O) ?_;refine Yb (sorted_c x S _ cs (hF.rep hR) hk (Aj (aS hc0)) hsz) ?_;rintro _ w ⟨ct,rfl,hRt,hE⟩;have hlct:aL ct=4:=hRt.length.trans<|Cb _;have hoct:=hRt.one_;have hXX:=RX.made (ids:=[b2,b1]) hF.same.size (λx hx=>hF.lt_ids qJ) hRt;have hF:=hF.ext hE;clear hE hRt;refine Cd 0 (l:=ct) (cs':=(List.toArray ct)) hF wP O (v:=.agg<|List.toArray ct) O O (hoct) O jS (Vg (by rw[hlct];rfl)) ?_;intro w hF hE;have hXX:=hXX.store hE qJ;refine rn 2<|Bo<|Ej λ_ hr=>Ug (res_c hr (l:=ct) O nZ rZ hlct<|hF.cellsAll 0 O) ?_;have ho_:Ke x=true:=aS hc0
 refine⟨_,O,?_,hF.same⟩;rw[Oe,ho_]
 ·exact hXX.done
theorem OD(x:Tree)(hsz:Ja x<=1000000000)(S:Nat->Prop)(w0:World)(cs:List Value)(hR:Rep S w0 (Sa x) cs)(hk:Rw x)(hG:Gl w0):NewC 72 #[.agg cs.toArray] (Sa (Jy x)) w0:=by
 have hl:aL cs=4:=hR.length.trans<|Cb x;have ho:=hR.one_;refine Ha func72 ntmps72 ?_;intro hF;refine rn 2<|Cj (v:=.agg<|List.toArray cs) (cs:=(List.toArray cs)) hF O O ?_;rintro b1 w hb1 hF -;refine rn 1 ?_;rintro b2 w hb2 hF -;refine rn 5<|Da (v:=.agg<|List.toArray cs) (Qa (l:=cs) nZ rZ O hl<|hF.cellsAll 1 O) ?_;refine Ta (Rv x hsz S cs (hF.rep hR) hk<|hG.ext hF.same) ?_;rintro w hF -;refine rn 4 ⟨λhc0=>?_,λhc0=>?_⟩;refine rn 2<|Da (w':=w) (v:=.agg #[J 0,I [],aQ,aQ]) Ib ?_;refine rn 1 ?_;rintro w hF -;refine rn 3 ?_;have ho_:Ke x=false:=aS hc0
 refine⟨_,O,?_,hF.same⟩;rw[Jy,ho_];exact Zf _ _;refine rn 4<|Da (v:=.agg<|List.toArray cs) (Qa (l:=cs) nZ rZ O hl<|hF.cellsAll 1 O) ?_;refine Yb (HD x S _ cs (hF.rep hR) hsz (by have:=HE x<|Aj (aS hc0);omega)) ?_;rintro _ w ⟨ct,rfl,hRt,hE⟩;have hlct:aL ct=4:=hRt.length.trans<|Cb _;have hoct:=hRt.one_;have hXX:=RX.made (ids:=[b2,b1]) hF.same.size (λx hx=>hF.lt_ids qJ) hRt;have hF:=hF.ext hE;clear hE hRt;refine Cd 0 (l:=ct) (cs':=(List.toArray ct)) hF wP O (v:=.agg<|List.toArray ct) O O (hoct) O jS (Vg (by rw[hlct];rfl)) ?_;intro w hF hE;have hXX:=hXX.store hE qJ;refine rn 2<|Bo<|Ej λ_ hr=>Ug (res_c hr (l:=ct) O nZ rZ hlct<|hF.cellsAll 0 O) ?_;have ho_:Ke x=true:=aS hc0
 refine⟨_,O,?_,hF.same⟩;rw[Jy,ho_]
 ·exact hXX.done
theorem getV_c(k:Int)(t:Str)(ks:List Str)(xs:List Tree)(key:Str)(hsz:Ja (.node k t ks xs)<=1000000000)(S:Nat->Prop)(w0:World)(cs:List Value)(hR:Rep S w0 (Sa (.node k t ks xs)) cs)(hk:Rw (.node k t ks xs))(hG:Gl w0):Calls prog 78 #[.agg cs.toArray,I key] w0 (Qb λv w'=>∃ct:List Value,v=.tuple #[.agg ct.toArray,.bool (Di (.node k t ks xs) key).2]/\Rep (Btw w0 w') w' (Sa (Di (.node k t ks xs) key).1) ct/\Same [] w0 w'):=by
 have hR:=hR.old;obtain⟨A,c,B,e,rfl,-,-,hK,hX⟩:=hR.tree_inv;refine Ha func78 ntmps78 ?_;intro hF;refine rn 3 ?_;rintro b1 w hb1 hF -;refine rn 1 ?_;rintro b2 w hb2 hF -;refine rn 7<|Ta (Rv (.node k t ks xs) hsz _ _ (hF.rep hR) hk<|hG.ext hF.same) ?_;rintro w hF -;refine rn 3 ⟨λhg0=>?_,λhg0=>?_⟩;refine rn 9<|Da (w':=w) (v:=.agg #[J 0,I [],aQ,aQ]) Ib ?_;refine rn 1 ?_;rintro w hF -;refine rn 4 ?_;have hg:Di (.node k t ks xs) key=(zeroT,false):=by rw[Di,tQ];rintro⟨h1,h2⟩;rw[Tree.kind]at h2;simp_all
 refine⟨_,by rw[hg],?_,hF.same⟩;rw[hg];exact Zf _ _;refine rn 7 ⟨λhc0=>?_,λhc0=>?_⟩;refine rn 2<|Da (w':=w) (v:=.agg #[J 0,I [],aQ,aQ]) Ib ?_;refine rn 1 ?_;rintro w hF -;refine rn 4 ?_;have hg:Di (.node k t ks xs) key=(zeroT,false):=by rw[Di,tQ];rintro⟨h1,h2⟩;rw[Tree.kind]at h2;simp_all
 refine⟨_,by rw[hg],?_,hF.same⟩;rw[hg];exact Zf _ _;refine rn 5 ?_;have ho_:Ke (.node k t ks xs)=true:=qX
 have k6:k=6:=qX
 have hnx:=Sc<|Aj ho_;refine Yb (Fu k t ks xs (Hk<|k6▸hnx.1).1 (Hk<|k6▸hnx.1).2 _ _ _<|hF.rep hR) ?_;rintro _ w ⟨m1,l1,rfl,hge,hm1,hk1,hr1,hE⟩;have hF:=hF.cons_ext hE hm1 hge;have hr1:=hr1.back hF.same;clear hE hm1 hge;refine rn 1 ?_;rcases Sr key hk1 hr1 with ⟨hlk,hlt⟩|⟨cy,y,hlk,hlt,hym,hry⟩
 have hry:=Zf S w;have hkz:Dl zeroT<=8796093022208:=Pa
 have hsz_:Ja zeroT<=1000000000:=Pa
 refine Da (v:=.tuple #[.agg #[J 0,I [],aQ,aQ],.bool false]) (Oj zZ bX cX O O (hF.heap (i:=0) O) jD jD) ?_;refine rn 4 ?_;rintro b3 w hb3 hF -;refine rn 6<|Yb (HD zeroT S _ _ (Zf S _) hsz_ hkz) ?_;rintro _ w ⟨ct,rfl,hRt,hE⟩;have hlct:aL ct=4:=hRt.length.trans<|Cb _;have hoct:=hRt.one_;have hXX:=RX.made (ids:=[b1,b2]) hF.same.size (λx hx=>hF.lt_ids qJ) hRt;have hF:=hF.ext hE;clear hE hRt;refine rn 1 ?_;refine Cd 2 (l:=ct) (cs':=(List.toArray ct)) hF wP O (v:=.agg<|List.toArray ct) O O (hoct) O jS (Vg (by rw[hlct];rfl)) ?_;intro w hF hE;have hXX:=hXX.store hE qJ;refine rn 3<|Bo<|Ej λ_ hr=>Ug (QE hr (l:=ct) O nZ rZ hlct (hF.cellsAll 2 O) (v:=.bool false) O) ?_;have hg:Di (.node k t ks xs) key=(zeroT,false):=by rw[Di,uQ ⟨ho_,by rw[Tree.kind];exact k6⟩];show (match Jc ks xs key with|some y=>(y,true)|none=>(zeroT,false))=_;rw[hlt]
 refine⟨_,by rw[hg],?_,hF.same⟩;rw[hg]
 ·exact hXX.done
 have hoy:=hry.one_;have hly:aL cy=4:=hry.length.trans<|Cb _;have hsz_:Ja y<=1000000000:=by have:=Ld hym;rw[Ja]at hsz;omega
 have hkz:Dl y<=8796093022208:=by have:=HE y<|hnx.2 y hym;omega
 refine Da (v:=.tuple #[.agg<|List.toArray cy,.bool true]) (Oj zZ bX cX O O (hF.heap (i:=0) O) jD jD) ?_;refine rn 3 ?_;refine Zm (l:=cy) hF cX (by rw[hly];exact rZ) (by rw[hly];rfl) (v:=.agg<|List.toArray cy) O O (hoy) O ?_;rintro b4 w hb4 hF -;refine rn 5<|Da (v:=.agg<|List.toArray cy) (Qa (l:=cy) nZ rZ O hly<|hF.cellsAll 0 O) ?_;refine Yb (HD y _ _ cy (hF.rep hry) hsz_ hkz) ?_;rintro _ w ⟨ct,rfl,hRt,hE⟩;have hlct:aL ct=4:=hRt.length.trans<|Cb _;have hoct:=hRt.one_;have hXX:=RX.made (ids:=[b1,b2]) hF.same.size (λx hx=>hF.lt_ids qJ) hRt;have hF:=hF.ext hE;clear hE hRt;refine rn 1 ?_;refine Cd 2 (l:=ct) (cs':=(List.toArray ct)) hF wP O (v:=.agg<|List.toArray ct) O O (hoct) O jS (Vg (by rw[hlct];rfl)) ?_;intro w hF hE;have hXX:=hXX.store hE qJ;refine rn 3<|Bo<|Ej λ_ hr=>Ug (QE hr (l:=ct) O nZ rZ hlct (hF.cellsAll 2 O) (v:=.bool true) O) ?_;have hg:Di (.node k t ks xs) key=(y,true):=by rw[Di,uQ ⟨ho_,by rw[Tree.kind];exact k6⟩];show (match Jc ks xs key with|some y=>(y,true)|none=>(zeroT,false))=_;rw[hlt]
 refine⟨_,by rw[hg],?_,hF.same⟩;rw[hg]
 ·exact hXX.done
mutual
def eqT:Tree->Tree->Bool
  | .node k t ks xs,.node k' t' ks' ys=>decide (k=k')&&decide (t=t')&&decide (ks=ks')&&TM xs ys
def TM:List Tree->List Tree->Bool
  | [],[]=>true
  | x::xs,y::ys=>eqT x y&&TM xs ys
  | _,_=>false
end
theorem VS:∀{xs ys:List Tree},(∀x∈xs,∀y,eqT x y=true↔x=y)->(TM xs ys=true↔xs=ys)
  | [],[],_=>by simp[TM]
  | [],_::_,_=>by simp[TM]
  | _::_,[],_=>by simp[TM]
  | x :: xs, y :: ys, h => by
    rw[TM,vQ,h x Ca y,VS λz hz=>h z qA];simp
theorem Ky(x:Tree):∀y,eqT x y=true↔x=y:=Tree.ind (Q:=λx=>∀y,eqT x y=true↔x=y) (λk t ks xs ih y=>by
  obtain⟨k',t',ks',ys⟩:=y;rw[eqT,vQ,vQ,vQ,VS ih];simp[and_assoc]) x
def Rh(x:Tree):eqT x x=true:=(Ky x x).2 rfl
theorem I0{x y:Tree}(h:x≠y):eqT x y=false:=by grind [Ky]
instance : DecidableEq Tree:=λx y=>if h:eqT x y=true then .isTrue ((Ky x y).1 h) else .isFalse (λe=>h ((Ky x y).2 e))
def BC{α:Type}{xs ys:List α}{j:Nat}(h:j<aL xs)(h2:j<aL ys)(ha:xs.take j=ys.take j)(he:xs[j]=ys[j]):xs.take (j+1)=ys.take (j+1):=by rw[iQ h,iQ h2,ha,he]
def PO(x:Tree):Prop:=∀y S S' w0 cs ct,Rep S w0 (Sa x) cs->Rep S' w0 (Sa y) ct->Calls prog 14 #[.agg cs.toArray,.agg ct.toArray] w0 (Qb λv w'=>v=.bool (eqT x y)/\Same [] w0 w')
mutual
def Vq(left deep:Int):Tree->Int|.node _ _ ks xs=>if 60<deep then -1 else Nk (left-1-aL ks) deep xs
def Nk(left deep:Int):List Tree->Int|[]=>left|x::xs=>if left<0 then left else Nk (Vq left (deep+1) x) deep xs
end
mutual
def Lj:Tree->Bool|.node _ t ks xs=>decide (aL t<=2048)&&ks.all (λk=>decide (aL k<=1024))&&Hp xs
def Hp:List Tree->Bool|[]=>true|x::xs=>Lj x&&Hp xs
end
def FF(x:Tree)(most:Int):Bool:=decide (0<=Vq most 0 x)&&Lj x
theorem FJ(deep:Int):∀(xs:List Tree)(left:Int),(∀x∈xs,∀l d:Int,0<=l->Vq l d x<=l)->Nk left deep xs<=left
  | [],left,_=>by rw[Nk];exact Int.le_refl _
  | x :: xs, left, h => by
    rw[Nk];split
    ·exact Int.le_refl _
    have h1 := h x Ca left (deep + 1) fX;have h2:=FJ deep xs (Vq left (deep+1) x) λy hy=>h y qD;omega
def fewT_le(x:Tree):∀l d:Int,0<=l->Vq l d x<=l:=Tree.ind (Q:=λx=>∀l d:Int,0<=l->Vq l d x<=l) (λk t ks xs ih l d hl=>by
  rw[Vq];split
  ·omega
  have := FJ d xs (l-1-aL ks) ih;omega) x
theorem Gz{left deep:Int}(h:left<0):∀xs:List Tree,Nk left deep xs=left
  | []=>by rw[Nk]
  | x::xs=>by rw[Nk,uQ h]
theorem SM(x:Tree):∀l d:Int,0<=l->0<=d->0<=Vq l d x->Vq l d x=l-Ja x-Dl x/\d+Db x<=61:=Tree.ind (Q:=λx=>∀l d:Int,0<=l->0<=d->0<=Vq l d x->Vq l d x=l-Ja x-Dl x/\d+Db x<=61) (λk t ks xs ih l d hl hd h=>by
  rw[Vq]at h ⊢;split at h
  ·omega
  rename_i hd60
  rw[tQ hd60];have key:∀(ys:List Tree),(∀y∈ys,y∈xs)->∀m:Int,0<=Nk m d ys->Nk m d ys=m-Oa ys-Ek ys/\d+1+Ya ys<=61:=by
    intro ys
    induction ys with
    | nil=>intro _ m hm;simp only[Nk,Oa,Ek,Ya];omega
    | cons y ys ihy =>
      intro hm m h0;rw[Nk]at h0 ⊢;split at h0
      ·omega
      rename_i hmm
      rw[tQ hmm];obtain⟨a1,a2⟩:=ihy (λz hz=>hm z qA) _ h0;have h3:0<=Vq m (d+1) y:=by
        rcases Int.lt_or_le (Vq m (d+1) y) 0 with hlt|hge
        ·rw[Gz hlt]at h0;omega
        exact hge
      obtain⟨b1,b2⟩:=ih y (hm y Ca) m (d+1) fX fX h3;simp only[Oa,Ek,Ya];omega
  obtain⟨a1,a2⟩:=key xs (λ_ h=>h) _ h;rw[Ja,Dl,Db];omega) x
theorem fewB_ok{x:Tree}{most:Int}(hm:0<=most)(h:FF x most=true):(Ja x:Int)+Dl x<=most/\Db x<=61/\Lj x=true:=by grind [FF,SM]
def HM{left deep:Int}{xs:List Tree}{j:Nat}(h:j<aL xs)(h0:¬left<0):Nk left deep (xs.drop j)=Nk (Vq left (deep+1) xs[j]) deep (xs.drop (j+1)):=by rw[List.drop_eq_getElem_cons h,Nk,tQ h0]
def FewC(x:Tree):Prop:=∀(left deep:Int) S w0 cs,0<=left->left<=1000000->0<=deep->deep<=61->Rep S w0 (Sa x) cs->Calls prog 18 #[.agg cs.toArray,J left,J deep] w0 (Qb λv w'=>v=J (Vq left deep x)/\Same [] w0 w')
def EP(x:Tree):Prop:=∀S w0 cs,Rep S w0 (Sa x) cs->Calls prog 19 #[.agg cs.toArray] w0 (Qb λv w'=>v=.bool (Lj x)/\Same [] w0 w')
theorem QK{xs:List Tree}{x:Tree}(h:x∈xs)(hs:Lj x=false):Hp xs=false:=by
  induction xs with
  | nil=>cases h
  | cons y ys ih=>grind [Hp]
def MK{xs:List Tree}(h:∀j (hj:j<aL xs),Lj xs[j]=true):Hp xs=true:=by
  induction xs with
  | nil=>rfl
  | cons y ys ih =>
    have h0:Lj y=true:=h 0 Ca;rw[Hp,h0,Bool.true_and];exact ih (λj hj=>by have:=h (j+1) (aS hj);simpa using this)
def ZO(k:Int)(t:Str)(ks:List Str)(xs:List Tree)(ih:∀x,x∈xs->PO x):PO (.node k t ks xs):=by
 rintro⟨k',t',ks',ys⟩ S S' w0 cs ct hR hR';obtain⟨A,c,B,e,rfl,-,-,hK,hX⟩:=hR.tree_inv;obtain⟨A',c',B',e',rfl,-,-,hK',hY⟩:=hR'.tree_inv;have hXl:=hX.slice_len;have hKl:=hK.slice_len;have hYl:=hY.slice_len;have hKl':=hK'.slice_len;refine Ha func14 ntmps14 ?_;intro hF;refine rn 3 ?_;rintro b1 w hb1 hF -;refine rn 1 ?_;rintro b2 w hb2 hF -;refine rn 13 ⟨λhg0=>?_,λhg0=>?_⟩;refine rn 33 ?_;refine⟨xQ Value.bool (I0 λhe=>?_).symm,hF.same⟩;cases he;first|exact absurd rfl qK|(simp only[Rh]at hc4;cases hc4)
 refine rn 8 ⟨λhg1=>?_,λhg1=>?_⟩;refine rn 26 ?_;refine⟨xQ Value.bool (I0 λhe=>?_).symm,hF.same⟩;cases he;first|exact absurd rfl qK|(simp only[Rh]at hc4;cases hc4)
 refine rn 10 ⟨λhg2=>?_,λhg2=>?_⟩;refine rn 17 ?_;refine⟨xQ Value.bool (I0 λhe=>?_).symm,hF.same⟩;cases he;first|exact absurd rfl qK|(simp only[Rh]at hc4;cases hc4)
 refine rn 11 ⟨λhc0=>?_,λhc0=>?_⟩;refine rn 6 ?_;refine⟨xQ Value.bool (I0 λhe=>?_).symm,hF.same⟩;cases he;first|exact absurd rfl qK|(simp only[Rh]at hc4;cases hc4)
 refine rn 9<|Za (λμ σ w=>∃(j:Nat),μ=aL ks-j/\(j<=aL ks)/\(ks.take j=ks'.take j)/\AllEq σ [(2,V b1),(3,V b2),(5,J<|(j:Int))]/\FR w0 [] [(b2,.cells #[J k',I t',.slice A' (aL ks') c',.slice B' (aL ys) e'] 25),(b1,.cells #[J k,I t,.slice A (aL ks) c,.slice B (aL xs) e] 25)] w) _ ⟨0,O,bZ _,Ca,Gc,hF⟩ ?_;rintro μ σ w ⟨j,rfl,hj,ha,hzz,hF⟩;refine Gh hzz 11 ⟨λhc1=>?_,λhc1=>?_⟩;refine rn 5<|Fe (zs:=.of []) (bQ [0,1,2,3,4,5,6,7,8,9,10] .nil) hF ?_;intro w hF;refine rn 3 ?_;obtain⟨ad3,hA3,hk3,hx3⟩:=hK.str_elem (i:=j) fX;refine Fa O (v:=.pointer<|some<|ad3.add<|j*1) (λw hC=>Ea (i:=(j:Int)) Hd hA3)<|Fa O (v:=I<|ks[j]) (λw hC=>Ma qZ<|hC.cell0 hk3) ?_;refine rn 3 ?_;obtain⟨ad4,hA4,hk4,hx4⟩:=hK'.str_elem (i:=j) fX;refine Fa O (v:=.pointer<|some<|ad4.add<|j*1) (λw hC=>Ea (i:=(j:Int)) Hd hA4)<|Fa O (v:=I<|ks'[j]) (λw hC=>Ma qZ<|hC.cell0 hk4) ?_;refine rn 4 ⟨λhc2=>?_,λhc2=>?_⟩;refine rn 6 ?_;refine⟨xQ Value.bool (I0 λhe=>?_).symm,hF.same⟩;cases he;first|exact absurd rfl qK|(simp only[Rh]at hc4;cases hc4)
 refine rn 5<|Tc Fj ?_;refine rn 2<|Va ⟨_,?_,j+1,O,fX,BC fX fX ha (aS hc2),Gc,hF⟩;omega;refine rn 9<|Za (λμ σ w=>∃(i:Nat),μ=aL xs-i/\(i<=aL xs)/\(xs.take i=ys.take i)/\AllEq σ [(2,V b1),(3,V b2),(6,J<|(i:Int))]/\FR w0 [] [(b2,.cells #[J k',I t',.slice A' (aL ks') c',.slice B' (aL ys) e'] 25),(b1,.cells #[J k,I t,.slice A (aL ks) c,.slice B (aL xs) e] 25)] w) _ ⟨0,O,bZ _,Ca,Gc,hF⟩ ?_;rintro μ σ w ⟨i,rfl,hi,hb,hzz,hF⟩;have hke:ks=ks':=by rw[cZ fX,cZ fX]at ha;exact ha
 refine Gh hzz 11 ⟨λhc3=>?_,λhc3=>?_⟩;refine rn 5<|Fe (zs:=.of []) (bQ [0,1,2,3,4,5,6,7,8,9]<|.act 10<|.free 11 .nil) hF ?_;intro w hF;refine rn 3 ?_;obtain⟨ad5,cs5,hA5,hl5,hk5,hx5⟩:=hX.tree_elem (i:=i) fX;have ho5:=hx5.one_;refine Fa O (v:=.pointer<|some<|ad5.add<|i*4) (λw hC=>Ea (i:=(i:Int)) Wc hA5)<|Fa O (v:=.agg<|List.toArray cs5) (λw hC=>Qa (l:=cs5) nZ rZ O hl5<|hC.cells0 hk5) ?_;refine rn 3 ?_;obtain⟨ad6,cs6,hA6,hl6,hk6,hx6⟩:=hY.tree_elem (i:=i) fX;have ho6:=hx6.one_;refine Fa O (v:=.pointer<|some<|ad6.add<|i*4) (λw hC=>Ea (i:=(i:Int)) Wc hA6)<|Fa O (v:=.agg<|List.toArray cs6) (λw hC=>Qa (l:=cs6) nZ rZ O hl6<|hC.cells0 hk6) ?_;refine Mf (ih _ (List.getElem_mem (l:=xs) (n:=i) fX) ys[i] _ _ _ _ _ (hF.rep hx5) (hF.rep hx6)) ?_;rintro w hF -;refine rn 10 ⟨λhc4=>?_,λhc4=>?_⟩;refine rn 6 ?_;refine⟨xQ Value.bool (I0 λhe=>?_).symm,hF.same⟩;cases he;first|exact absurd rfl qK|(simp only[Rh]at hc4;cases hc4)
 refine rn 5<|Tc Fj ?_;refine rn 2<|Va ⟨_,?_,i+1,O,fX,BC fX fX hb<|(Ky _ _).1 (aS hc4),Gc,hF⟩;omega;refine rn 8 ?_;have e3:xs=ys:=(by have h1:=hb;rw[cZ fX]at h1;rw[cZ fX]at h1;exact h1);have e1:k=k':=Classical.not_not.1 hg0;have e2:t=t':=Classical.not_not.1 hg1;subst hke e3 e1 e2;exact⟨xQ Value.bool (Rh _).symm,hF.same⟩
def Sw(x:Tree):PO x:=Tree.ind ZO x
def few_step(k:Int)(t:Str)(ks:List Str)(xs:List Tree)(ih:∀x,x∈xs->FewC x):FewC (.node k t ks xs):=by
 intro left deep S w0 cs h0 h1 h2 h3 hR;obtain⟨A,c,B,e,rfl,-,-,hK,hX⟩:=hR.tree_inv;have hXl:=hX.slice_len;have hKl:=hK.slice_len;refine Ha func18 ntmps18 ?_;intro hF;refine rn 3 ?_;rintro b1 w hb1 hF -;refine rn 11 ⟨λhc0=>?_,λhc0=>?_⟩;refine rn 6 ?_;exact⟨xQ (Value.int .i64) (by rw[Vq,uQ fX]),hF.same⟩;refine rn 5<|Tc Yu ?_;refine rn 3<|Tc Yu ?_;refine rn 10<|Za (λμ σ w=>∃(j:Nat),∃(lf:Int),μ=aL xs-j/\(j<=aL xs)/\(lf<=1000000)/\(Nk (left-1-aL ks) deep xs=Nk lf deep (xs.drop j))/\AllEq σ [(1,J lf),(2,J deep),(3,V b1),(7,J<|(j:Int))]/\FR w0 [] [(b1,.cells #[J k,I t,.slice A (aL ks) c,.slice B (aL xs) e] 25)] w) _ ⟨0,left-1-aL ks,O,bZ _,fX,Ca,Gc,hF⟩ ?_;rintro μ σ w ⟨j,lf,rfl,hj,hlf,hf,hzz,hF⟩;refine Gh hzz 10 ⟨λhg0=>?_,λhg0=>?_⟩;refine rn 6 ⟨λhc1=>?_,λhc1=>?_⟩;refine rn 8 ?_;obtain⟨ad1,cs1,hA1,hl1,hk1,hx1⟩:=hX.tree_elem (i:=j) fX;have ho1:=hx1.one_;refine Da (v:=.pointer<|some<|ad1.add<|j*4) (Ea (i:=(j:Int)) Wc hA1)<|Da (v:=.agg<|List.toArray cs1) (Qa (l:=cs1) nZ rZ O hl1<|hF.cells0 hk1) ?_;refine rn 2<|Tc Fj ?_;refine Ta (ih _ (List.getElem_mem (l:=xs) (n:=j) fX) lf (deep+1) _ _ _ fX fX fX fX<|hF.rep hx1) ?_;rintro w hF -;refine rn 6<|Tc Fj ?_;refine rn 2 ?_;refine Va ⟨_,?_,j+1,Vq lf (deep+1) xs[j],O,fX,(by have:=fewT_le xs[j] lf (deep+1) fX;omega),hf.trans<|HM fX fX,Gc,hF⟩;omega;refine rn 9 ⟨xQ (Value.int .i64) ?_,hF.same⟩;rw[Vq,tQ fX,hf]
 ·first|(rw[List.drop_eq_nil_of_le fX,Nk];done)|(rw[Gz fX])
 refine rn 15 ⟨xQ (Value.int .i64) ?_,hF.same⟩;rw[Vq,tQ fX,hf]
 ·first|(rw[List.drop_eq_nil_of_le fX,Nk];done)|(rw[Gz fX])
def few_c(x:Tree):FewC x:=Tree.ind few_step x
def WO(k:Int)(t:Str)(ks:List Str)(xs:List Tree)(ih:∀x,x∈xs->EP x):EP (.node k t ks xs):=by
 intro S w0 cs hR;obtain⟨A,c,B,e,rfl,-,-,hK,hX⟩:=hR.tree_inv;have hXl:=hX.slice_len;have hKl:=hK.slice_len;refine Ha func19 ntmps19 ?_;intro hF;refine rn 3 ?_;rintro b1 w hb1 hF -;refine rn 13 ⟨λhc0=>?_,λhc0=>?_⟩
 ·
  refine rn 6 ?_;exact⟨xQ Value.bool (by rw[Lj,dZ fX];rfl),hF.same⟩
 refine rn 9<|Za (λμ σ w=>∃(j:Nat),μ=aL ks-j/\(j<=aL ks)/\(∀i (hi:i<j) (hk:i<aL ks),aL ks[i]<=1024)/\AllEq σ [(1,V b1),(3,J<|(j:Int))]/\FR w0 [] [(b1,.cells #[J k,I t,.slice A (aL ks) c,.slice B (aL xs) e] 25)] w) _ ⟨0,O,bZ _,λi hi=>absurd hi fX,Gc,hF⟩ ?_;rintro μ σ w ⟨j,rfl,hj,ha,hzz,hF⟩;refine Gh hzz 11 ⟨λhc1=>?_,λhc1=>?_⟩
 ·
  refine rn 9 ?_;obtain⟨ad0,hA0,hk0,hx0⟩:=hK.str_elem (i:=j) fX;refine Da (v:=.pointer<|some<|ad0.add<|j*1) (Ea (i:=(j:Int)) Hd hA0)<|Da (v:=I<|ks[j]) (Ma qZ<|hF.cell0 hk0) ?_;refine rn 5 ⟨λhc2=>?_,λhc2=>?_⟩
  ·
   refine rn 6 ?_;have hno:ks.all (λk=>decide (aL k<=1024))=false:=by
     rw[Bool.eq_false_iff];intro hall;have:=List.all_eq_true.1 hall ks[j] (eQ _);simp only[wQ]at this;omega
   exact⟨xQ Value.bool (by rw[Lj,hno,Bool.and_false];rfl),hF.same⟩
  refine rn 5<|Tc Fj ?_;refine rn 2 ?_;refine Va ⟨_,?_,j+1,rfl,fX,(λi hi hk=>by rcases Nat.lt_or_ge i j with h|h;exact ha i h hk;obtain rfl:i=j:=fX;omega),Gc,hF⟩;omega
 refine rn 9<|Za (λμ σ w=>∃(i:Nat),μ=aL xs-i/\(i<=aL xs)/\(∀m (hm:m<i) (hk:m<aL xs),Lj xs[m]=true)/\AllEq σ [(1,V b1),(4,J<|(i:Int))]/\FR w0 [] [(b1,.cells #[J k,I t,.slice A (aL ks) c,.slice B (aL xs) e] 25)] w) _ ⟨0,O,bZ _,λi hi=>absurd hi fX,Gc,hF⟩ ?_;rintro μ σ w ⟨i,rfl,hi,hb,hzz,hF⟩;refine Gh hzz 11 ⟨λhc3=>?_,λhc3=>?_⟩
 ·
  refine rn 9 ?_;obtain⟨ad1,cs1,hA1,hl1,hk1,hx1⟩:=hX.tree_elem (i:=i) fX;have ho1:=hx1.one_;refine Da (v:=.pointer<|some<|ad1.add<|i*4) (Ea (i:=(i:Int)) Wc hA1)<|Da (v:=.agg<|List.toArray cs1) (Qa (l:=cs1) nZ rZ O hl1<|hF.cells0 hk1) ?_;refine Ta (ih _ (List.getElem_mem (l:=xs) (n:=i) fX) _ _ _<|hF.rep hx1) ?_;rintro w hF -;refine rn 10 ⟨λhc4=>?_,λhc4=>?_⟩
  ·
   refine rn 6 ?_;exact⟨xQ Value.bool (by rw[Lj,QK (List.getElem_mem (l:=xs) (n:=i) fX) (aS hc4),Bool.and_false]),hF.same⟩
  refine rn 5<|Tc Fj ?_;refine rn 2 ?_;refine Va ⟨_,?_,i+1,rfl,fX,(λm hm hk=>by rcases Nat.lt_or_ge m i with h|h;exact hb m h hk;obtain rfl:m=i:=fX;simpa using hc4),Gc,hF⟩;omega
 refine rn 8 ?_;have h1:ks.all (λk=>decide (aL k<=1024))=true:=by
   rw[List.all_eq_true];intro k hk;obtain⟨q,hq,rfl⟩:=List.getElem_of_mem hk;simp only[wQ];exact ha q fX hq
 exact⟨xQ Value.bool (by rw[Lj,h1,eZ fX,MK λm hm=>hb m fX hm];rfl),hF.same⟩
def short_c(x:Tree):EP x:=Tree.ind WO x
def AZ(x:Tree)(most:Int)(h0:0<=most)(h1:most<=1000000)(S:Nat->Prop)(w0:World)(cs:List Value)(hR:Rep S w0 (Sa x) cs):Calls prog 6 #[.agg cs.toArray,J most] w0 (Qb λv w'=>v=.bool (FF x most)/\Same [] w0 w'):=by
 have hl:aL cs=4:=hR.length.trans<|Cb x;have ho:=hR.one_;refine Ha func6 ntmps6 ?_;intro hF;refine rn 2<|Cj (v:=.agg<|List.toArray cs) (cs:=(List.toArray cs)) hF O O ?_;rintro b1 w hb1 hF -;refine rn 5<|Da (v:=.agg<|List.toArray cs) (Qa (l:=cs) nZ rZ O hl<|hF.cellsAll 0 O) ?_;refine rn 1<|Ta (few_c x most 0 S _ cs h0 h1 fX fX<|hF.rep hR) ?_;rintro w hF -;refine rn 9 ⟨λhg0=>?_,λhg0=>?_⟩;refine Da (v:=.agg<|List.toArray cs) (Qa (l:=cs) nZ rZ O hl<|hF.cellsAll 0 O)<|Ta (short_c x S _ cs<|hF.rep hR) ?_;rintro w hF -;refine rn 5 ⟨xQ Value.bool ?_,hF.same⟩;unfold FF
 first|(rw[eZ hg0];rfl)|(rw[dZ hg0];rfl)
 refine rn 7 ⟨xQ Value.bool ?_,hF.same⟩;unfold FF
 first|(rw[eZ hg0];rfl)|(rw[dZ hg0];rfl)
def row_c(A:Option Addr)(n c:Nat)(w0:World):Calls prog 17 #[.slice A n c] w0 (Qb λv w'=>v=.agg #[J 5,I [],aQ,.slice A n c]/\Same [] w0 w'):=by
 refine Ha func17 ntmps17 ?_;intro hF;refine rn 3 ?_;rintro b1 w hb1 hF -;refine rn 5<|Da (w':=w) (v:=.agg #[J 5,I [],aQ,.slice A n c]) Ib ?_;refine rn 1 ?_;rintro w hF -;refine rn 3 ?_;exact⟨O,hF.same⟩
def map_c(A:Option Addr)(n c:Nat)(B:Option Addr)(m d:Nat)(w0:World):Calls prog 16 #[.slice A n c,.slice B m d] w0 (Qb λv w'=>v=.agg #[J 6,I [],.slice A n c,.slice B m d]/\Same [] w0 w'):=by
 refine Ha func16 ntmps16 ?_;intro hF;refine rn 3 ?_;rintro b1 w hb1 hF -;refine rn 6<|Da (w':=w) (v:=.agg #[J 6,I [],.slice A n c,.slice B m d]) Ib ?_;refine rn 1 ?_;rintro w hF -;refine rn 3 ?_;exact⟨O,hF.same⟩
structure LA {α:Type} (f:α->α->Int) (P:α->Prop) (a:α):Prop where
  rng:∀b,f a b = -1\/f a b=0\/f a b=1
  anti:∀b,P b->f b a = - f a b
  eq:∀b,P b->(f a b=0↔a=b)
  tr:∀b c,P b->P c->f a b<=0->f b c<=0->f a c<=0
theorem Wz{ks:List Str}{xs:List Tree}(hn:ks.Nodup):∀{i:Nat}(h:i<aL ks)(h2:i<aL xs),Jc ks xs ks[i]=some xs[i]:=by
  induction ks generalizing xs with
  | nil=>grind
  | cons k ks ih =>
    intro i h h2;cases xs with
    | nil=>cases h2
    | cons x xs=>grind [Jc]
theorem IJ{ks:List Str}{xs:List Tree}(hl:aL ks=aL xs){key:Str}(h:key∈ks):∃y,Jc ks xs key=some y:=by
  induction ks generalizing xs with
  | nil=>cases h
  | cons k ks ih =>
    cases xs with
    | nil=>cases hl
    | cons x xs =>
      rw[Jc];by_cases e:k=key
      ·simp_all
      grind
theorem OA{ks:List Str}{xs:List Tree}{key:Str}{y:Tree}(h:Jc ks xs key=some y):key∈ks:=by
  induction ks generalizing xs with
  | nil=>cases xs <;> cases h
  | cons k ks ih =>
    cases xs with
    | nil=>cases h
    | cons x xs=>grind [Jc]
theorem An{ks:List Str}{xs:List Tree}(key:Str):Jc ks (Od xs) key=(Jc ks xs key).map sortT:=by
  cases h:Jc ks xs key with
  | some y=>grind [Cw]
  | none =>
    induction ks generalizing xs with
    | nil=>cases xs <;> rfl
    | cons k ks ih =>
      cases xs with
      | nil=>rfl
      | cons x xs=>grind [Jc,Od]
theorem PG{ks ks':List Str}(h1:ks.Nodup)(hl:aL ks=aL ks')(hs:∀k∈ks,k∈ks'):ks.Perm ks':=by
  induction ks generalizing ks' with
  | nil=>grind
  | cons k ks ih =>
    have hk:=hs k Ca;have hp:=List.perm_cons_erase hk;refine List.Perm.trans (List.Perm.cons k<|ih (List.nodup_cons.1 h1).2 ?_ ?_) hp.symm
    ·rw[List.length_erase_of_mem hk, <- hl]
     simp
    intro x hx;have hne:x≠k:=λe=>(List.nodup_cons.1 h1).1 (e▸hx);exact (List.mem_erase_of_ne hne).2 (hs x zT)
def NB{xs ys:List Tree}(h:∀x∈xs,∀y,Zb nodeB y=true->(Qh x y=true↔sortT x=sortT y))(hl:aL xs=aL ys)(hy:∀y∈ys,Zb nodeB y=true):Lx xs ys=true↔Od xs=Od ys:=by
  induction xs generalizing ys with
  | nil => cases ys with
    | nil=>simp[Lx]
    | cons y ys=>cases hl
  | cons x xs ih => cases ys with
    | nil=>cases hl
    | cons y ys =>
      rw[Lx,vQ,h x Ca y<|hy y Ca,ih (λx hx=>h x zT) (aS hl) λy hy'=>hy y (by simp[hy']),Od,Od,List.cons.injEq]
theorem FO(xs:List Tree)(ks ks':List Str)(ys:List Tree)(hl:aL ks=aL xs):Ix xs ks ks' ys=true↔∀i (h:i<aL ks),∃y,Jc ks' ys ks[i]=some y/\Qh (xs[i]' fX) y=true:=by
  induction xs generalizing ks with
  | nil=>grind [Ix]
  | cons x xs ih => cases ks with
    | nil=>cases hl
    | cons k ks =>
      rw[Ix,vQ,ih ks (aS hl)];constructor
      ·rintro⟨h1, h2⟩ i hi
       cases i with
       | zero =>
         cases hk:Jc ks' ys k with
         | none =>
           rw[hk]at h1;cases h1
         | some y =>
           rw[hk]at h1;exact⟨y,hk,h1⟩
       | succ i=>exact h2 i (aS hi)
      intro h;refine⟨?_,λi hi=>h (i+1) (aS hi)⟩;obtain⟨y,h1,h2⟩:=h 0 Ca;simp only[List.getElem_cons_zero]at h1 h2;rw[h1];exact h2
theorem same_iff(x:Tree):Zb nodeB x=true->∀y,Zb nodeB y=true->(Qh x y=true↔sortT x=sortT y):=Tree.ind (Q:=λx=>Zb nodeB x=true->∀y,Zb nodeB y=true->(Qh x y=true↔sortT x=sortT y)) (λk t ks xs ih hx y hy=>by
  obtain⟨k',t',ks',ys⟩:=y;obtain⟨hn,hxs⟩:=Sc hx;obtain⟨hn',hys⟩:=Sc hy;have ih':∀x∈xs,∀y,Zb nodeB y=true->(Qh x y=true↔sortT x=sortT y):=λx hx'=>ih x hx'<|hxs x hx';rw[Qh,vQ,vQ,vQ,wQ,wQ,wQ,sortT,sortT];by_cases h:k=k'
  ·subst h
   by_cases h6:k=6
   ·subst h6
    obtain⟨nd,len⟩:=Hk hn;obtain⟨nd',len'⟩:=Hk hn';rw[tQ Ca,uQ rfl,uQ rfl,vQ,wQ,FO xs ks ks' ys len];constructor
    ·rintro⟨⟨⟨-, e1⟩, e2⟩, e3, hall⟩
     have hp:ks.Perm ks':=PG nd e3 (λk hk=>by
       obtain⟨i,hi,rfl⟩:=List.getElem_of_mem hk;obtain⟨y,h1,-⟩:=hall i hi;exact OA h1)
     have hs:We ks=We ks':=by unfold We;exact mergeSort_of_perm hp
     rw[e1,<-hs]
     congr 1
     refine List.map_congr_left λkey hkey=>?_;have hin:=Xl.1 hkey;obtain⟨i,hi,rfl⟩:=List.getElem_of_mem hin;obtain⟨y,h1,h2⟩:=hall i hi;rw[An,An,h1,Wz nd hi fX];simp only[Option.map_some,Option.getD_some];exact (ih' _ (eQ _) y<|hys y<|Vj h1).1 h2
    intro e;injection e with _ e1 e2 e3
    have hl:aL ks=aL ks':=by have:=xQ List.length e2;rwa [Jd,Jd]at this
    refine⟨⟨⟨O,e1⟩,by_Om⟩,hl,λi hi=>?_⟩;have hin:ks[i]∈We ks:=Xl.2<|eQ _;have hin':ks[i]∈ks':=Xl.1<|e2▸hin;obtain⟨y,h1⟩:=IJ len' hin';refine⟨y,h1,(ih' _ (eQ _) y<|hys y<|Vj h1).2 ?_⟩;rw[<-e2]at e3;have:=List.map_inj_left.1 e3 ks[i] hin;rw[An,An,h1,Wz nd hi fX]at this;simpa using this
   rw[uQ h6, tQ h6, tQ h6];constructor
   ·rintro⟨⟨⟨-, e1⟩, e2⟩, e3⟩
    rw[e1,(NB ih' e2 hys).1 e3]
   intro e;injection e with _ e1 _ e3
   have hl:aL xs=aL ys:=by have:=xQ List.length e3;rwa [Uh,Uh,rQ,rQ]at this
   exact⟨⟨⟨O,e1⟩,hl⟩,(NB ih' hl hys).2 e3⟩
  constructor
  ·rintro⟨⟨⟨e,-⟩,-⟩,-⟩;exact absurd e h
  intro e;exfalso;split at e <;> split at e <;> injection e with e <;> exact h e) x
theorem OO{ks ks':List Str}{n:Int}(h:ks.Perm ks'):Wl ks n=Wl ks' n:=by
  unfold Wl;rw[h.length_eq,decide_eq_decide.2 h.nodup_iff]
  congr 2
  grind
theorem Ko{q:Tree->Bool}:∀{xs:List Tree},(∀x∈xs,Zb q x=true)->Er q xs=true
  | [],_=>rfl
  | x::xs,h=>by rw[Er,h x Ca,Ko λy hy=>h y qD];rfl
theorem SQ{ks:List Str}{xs:List Tree}(hn:ks.Nodup)(hl:aL ks=aL xs):(E_ ks xs).Perm (Od xs):=by
  have h1:(E_ ks xs).Perm (ks.map λkey=>(Jc ks (Od xs) key).getD (.node 0 [] [] [])):=(Mj ks).map _;refine h1.trans ?_;have h2:(ks.map λkey=>(Jc ks (Od xs) key).getD (.node 0 [] [] []))=Od xs:=by
    apply List.ext_getElem
    all_goals grind [Uh,Wz]
  rw[h2]
def MA{k:Int}{t:Str}{ks:List Str}{xs:List Tree}:sortT (.node k t ks xs)=if k=6 then .node k t (We ks) (E_ ks xs) else .node k t [] (Od xs):=by rw[sortT];rfl
theorem FW(x:Tree):Zb nodeB x=true->Zb nodeB (sortT x)=true:=Tree.ind (Q:=λx=>Zb nodeB x=true->Zb nodeB (sortT x)=true) (λk t ks xs ih hx=>by
  obtain⟨hn,hxs⟩:=Sc hx;have hs:∀y∈Od xs,Zb nodeB y=true:=by
    intro y hy;rw[Uh]at hy;obtain⟨z,hz,rfl⟩:=nQ.1 hy;exact ih z hz<|hxs z hz
  rw[MA];split
  ·rename_i h6
   subst h6;obtain⟨nd,len⟩:=Hk hn;have hp:=SQ nd len;rw[Zb,vQ];refine⟨?_,Ko λy hy=>hs y<|hp.mem_iff.1 hy⟩;simp only[nodeB]at hn ⊢;rw[uQ trivial]at hn ⊢;rw[OO<|Mj ks,hp.length_eq,Uh,rQ];exact hn
  rename_i h6
  rw[Zb,vQ];refine⟨?_,Ko hs⟩;simp only[nodeB]at hn ⊢;by_cases h5:k=5
  ·rw[uQ h5]at hn ⊢
   simp at hn ⊢;exact hn.2
  rw[tQ h5, tQ h6]at hn ⊢;by_cases hc:ks≠[]\/xs≠[]
  ·rw[uQ hc]at hn;cases hn
  have hk : ks = [] := Classical.byContradiction λh => hc (.inl h);have hx0:xs=[]:=Classical.byContradiction λh=>hc<|.inr h;subst hk hx0;simpa[Od]using hn) x
theorem R8:∀xs:List Tree,Oa xs=(xs.map Ja).sum
  | []=>rfl
  | x::xs=>by rw[Oa,R8 xs];rfl
theorem Au{xs ys:List Tree}(h:xs.Perm ys):Oa xs=Oa ys:=by grind [R8]
theorem XD{xs ys:List Tree}(h:xs.Perm ys):Ya xs=Ya ys:=by
  induction h with
  | nil=>rfl
  | cons x _ ih=>grind [Ya]
  | swap x y l=>grind [Ya]
  | trans _ _ h1 h2=>grind
theorem Vy(x:Tree):Zb nodeB x=true->Ja (sortT x)=Ja x/\Db (sortT x)=Db x:=Tree.ind (Q:=λx=>Zb nodeB x=true->Ja (sortT x)=Ja x/\Db (sortT x)=Db x) (λk t ks xs ih hx=>by
  obtain⟨hn,hxs⟩:=Sc hx;have h1:∀ys:List Tree,(∀y∈ys,y∈xs)->Oa (Od ys)=Oa ys/\Ya (Od ys)=Ya ys:=by
    intro ys
    induction ys with
    | nil=>intro _;exact⟨rfl,rfl⟩
    | cons y ys ihy =>
      intro hm;obtain⟨a,b⟩:=ih y (hm y Ca)<|hxs y<|hm y Ca;obtain⟨c,d⟩:=ihy λz hz=>hm z qA;simp only[Od,Oa,Ya,a,b,c,d];exact⟨trivial,trivial⟩
  obtain⟨a,b⟩:=h1 xs λ_ h=>h;rw[MA];split
  ·rename_i h6
   subst h6;obtain⟨nd,len⟩:=Hk hn;have hp:=SQ nd len;simp only[Ja,Db,Au hp,XD hp,a,b];exact⟨trivial,trivial⟩
  simp only[Ja, Db, a, b];exact⟨trivial,trivial⟩) x
theorem GV{x:Tree}(h:Ke x=true):Ke (sortT x)=true:=by grind [Vy,Aj,FW,Ke,Um]
theorem Mp{x:Tree}(h:Ke x=true):Oe x=sortT x:=by grind [Oe]
section
variable {ρ:Operand->Value}{o:Oper}
variable {P:Program}{w0 w w':World}{ids:List Nat}{ds:List D}
theorem Ah{P:Program}{w w':World}{p:Prop}{_:Decidable p}(h:(execOp ρ o).run P w=.ok (.value (.bool (decide p))) w')(hp:p):(execOp ρ o).run P w=.ok (.value (.bool true)) w':=qJ
theorem Gd{P:Program}{w w':World}{p:Prop}{_:Decidable p}(h:(execOp ρ o).run P w=.ok (.value (.bool (decide p))) w')(hp:¬p):(execOp ρ o).run P w=.ok (.value (.bool false)) w':=qJ
theorem FR.rowX{bs:List (Nat × Obj)}(hF:FR w0 [] bs w)(i:Nat){b n:Nat}{l:List Value}{T:TypeId}(hi:bs[i]? = some (b,.cells l.toArray T))(hr:RX w0 ids w ds l)(hb:b∉ids)(hn:aL ds=n)(hm:n<=9223372036854775807) :
    RX w0 ids w [.slice ds] [.slice (some ⟨b,0,none⟩) n n]:=by
  refine .one<|Rep.slice_mk hn.symm (gQ _) hm λ_=>⟨_,O,l,λj hj=>⟨?_,?_⟩,hr⟩
  ·exact hF.cellsAll i hi j hj
  exact⟨hF.ge hi,hF.lt hi,hb,l.toArray,T,hF.heap hi⟩
def RX.tree{k:Int}{t:Str}{ks:List Str}{xs:List Tree}{v u:Value}(hk:-9223372036854775808<=k/\k<=9223372036854775807)(ht:aL t<=9223372036854775807)
    (h3:RX w0 ids w [Wa ks] [v]) (h4:RX w0 ids w [.slice (Mb xs)] [u]):RX w0 ids w [Sa (.node k t ks xs)] [J k,I t,v,u]:=.one (Rep.tree_mk hk ht h3.rep h4.rep)
def RX.nils{ids:List Nat}:RX w0 ids w [.slice []] [aQ]:=.one (Rep.nil_slice 0 fX none)
theorem RX.strs:∀{ks:List Str},(∀k∈ks,aL k<=9223372036854775807)->RX w0 ids w (ks.map Hh) (ks.map λk=>I k)
  | [],_=>RX.nil
  | k::ks,h=>RepL.cons_mk (Rep.lit_mk (v:=I k)<|h k Ca)<|RX.strs λx hx=>h x zT
def RX.num(t:Str)(ht:aL t<=9223372036854775807):RX w0 ids w [Sa (.node 3 t [] [])] [J 3,I t,aQ,aQ]:=RX.tree ⟨by_Om,by_Om⟩ ht RX.nils RX.nils
def RX.str(t:Str)(ht:aL t<=9223372036854775807):RX w0 ids w [Sa (.node 4 t [] [])] [J 4,I t,aQ,aQ]:=RX.tree ⟨by_Om,by_Om⟩ ht RX.nils RX.nils
end
end Go.Scarf
