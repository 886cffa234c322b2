/- A part of the proof. -/
import Derived.Test.YtidlkjpohhbbcaaGreatDoorW4
import Derived.Test.YtidlkjpohhbbcaaGreatDoorIter
set_option linter.all false
set_option maxHeartbeats 8000000
set_option maxRecDepth 10000
set_option synthInstance.maxHeartbeats 0
set_option synthInstance.maxSize 9999
namespace Go.Scarf
open List renaming length->aL
open Go.RowKit Go.Proofs Go.Proofs.Tryz
mutual
def Rg:Tree->Nat|.node _ _ ks xs=>aL ks+Xj xs
def Xj:List Tree->Nat|[]=>0|x::xs=>Rg x+Xj xs
end
theorem Pw:∀{xs:List Tree}{x:Tree},x∈xs->Rg x<=Xj xs
  | [],_,h=>absurd h Da
  | y :: ys, x, h => by
    rw[Xj];rcases oQ.1 h with rfl|h
    ·omega
    have:=Pw h;omega
def L2{xs:List Tree}{j:Nat}(h:j<aL xs):Hc (xs.take (j+1))=Hc (xs.take j)++[Na xs[j]]:=by
  rw[iQ h,Jc,Jc,jQ];rfl
def GH{xs:List Tree}{j:Nat}(h:j<aL xs):Hc (xs.drop j)=Na xs[j]::Hc (xs.drop (j+1)):=by
  rw[List.drop_eq_getElem_cons h];rfl
theorem RepL.lits{S S':Nat->Prop}{w w':World}:∀{ks:List Str}{cs:List Value},RepL S w (ks.map Uj) cs->RepL S' w' (ks.map Uj) cs
  | [],cs,h=>by have:=RepL.nil_inv h;subst this;exact RepL.nil_mk
  | k :: ks, cs, h => by
    obtain⟨c1,c2,rfl,h1,h2⟩:=RepL.cons_inv h;obtain⟨rfl,h3⟩:=Rep.lit_inv h1;exact RepL.cons_mk (Rep.lit_mk h3)<|RepL.lits h2
def Lie(w:World)(A:Option Addr)(n:Nat)(es:List Value):Prop:=n≠0->∃ad,A=some ad/\∀j (hj:j<aL es),w.cell? (ad.add j)=some es[j]
def Lie.ext{w w':World}{A:Option Addr}{n:Nat}{es:List Value}(h:Lie w A n es)(hs:Same [] w w'):Lie w' A n es:=λhn=>by
  obtain⟨ad,hA,hc⟩:=h hn;exact⟨ad,hA,λj hj=>((FR.start w []).ext hs).cells0 hc j hj⟩
def RB(e m n:Nat)(es:List Value)(w0:World)(v:Value)(w':World):Prop :=
  ∃A c sb,v=.slice A n c/\SlB e m A n c es sb/\(∀p∈sb,w'.heap[p.1]? = some p.2/\w0.heap.size<=p.1)/\Same [] w0 w'
def Rep.slice_open{S:Nat->Prop}{w:World}{ds:List D}{A:Option Addr}{n c m:Nat}(h:Rep S w (.slice ds) [.slice A n c])(hm:∀d∈ds,Gc d=m) :
    ∃es,RepL S w ds es/\aL es=n*m/\Lie w A n es:=by
  have hl:=h.slice_len;obtain⟨A',c',hA,_,_,hr⟩:=Rep.slice_inv h;simp only[List.cons.injEq,Value.slice.injEq,and_true]at hA;obtain⟨rfl,_,_⟩:=hA;have hsz:∀ds:List D,(∀d∈ds,Gc d=m)->Gc.sizeL ds=aL ds*m:=by
    intro ds
    induction ds with
    | nil =>
      intro _;simp[Gc.sizeL]
    | cons d ds ih =>
      intro h;rw[Gc.sizeL,h d Da,ih λx hx=>h x wM,kQ,Nat.add_mul];omega
  by_cases hne:ds=[]
  ·subst hne
   exact⟨[],RepL.nil_mk,by simp[hl.1],λh=>absurd hl.1 (aS h)⟩
  obtain⟨ad, rfl, es, hc, hr⟩ := hr hne;exact⟨es,hr,by rw[hr.length,hsz ds hm,hl.1],λ_=>⟨ad,O,λj hj=>(hc j hj).1⟩⟩
def Ez(ks:List Str):∀d∈ks.map Uj,Gc d=1:=λd hd=>by obtain⟨k,_,rfl⟩:=nQ.1 hd;rfl
theorem HL(xs:List Tree):∀d∈Hc xs,Gc d=4:=by grind [Jc,Bb]
theorem FR.sbown{w0 w:World}{pre sb post:List (Nat × Obj)}(h:FR w0 [] (pre++(sb++post)) w):∀p∈sb,w.heap[p.1]? = some p.2/\w0.heap.size<=p.1:=λp hp=>by
  have:=h.own p bJ;grind
theorem SlB.soft{e m n c:Nat}{A:Option Addr}{es:List Value}{sb:List (Nat × Obj)}{w:World}(h:SlB e m A n c es sb)(hb:∀p∈sb,w.heap[p.1]? = some p.2):∀p∈sb,Hp w p.1:=λp hp=>by
  have h2:∃cur,p=(p.1,.cells cur e):=by
    rcases h.2 with ⟨-,-,rfl⟩|⟨g,cur,-,rfl,-⟩
    ·cases hp
    grind
  obtain⟨cur,h2⟩:=h2;have:=hb p hp;rw[h2]at this;exact⟨cur,e,this⟩
def SlB.btw{e m n c:Nat}{A:Option Addr}{es:List Value}{sb:List (Nat × Obj)}{w w':World}{ds:List D}(h:SlB e m A n c es sb)(hb:∀p∈sb,w'.heap[p.1]? = some p.2/\w.heap.size<=p.1)(hr:RepL (Btw w w') w' ds es)(hn:aL ds=n):Rep (Btw w w') w' (.slice ds) [.slice A n c] :=
  h.repOf (λp hp=>⟨(hb p hp).1,(hb p hp).2,Pa (hb p hp).1,h.soft (λp hp=>(hb p hp).1) p hp⟩) hr hn
def EJ{S:Nat->Prop}{w0 w w':World}{ks:List Str}{es:List Value}{v:Value}(h:RB 9 1 (aL ks) es w v w')(hr:RepL S w0 (ks.map Uj) es):∃A c,v=.slice A (aL ks) c/\Rep (Btw w w') w' (Ee ks) [.slice A (aL ks) c]/\Same [] w w':=by
  obtain⟨A,c,sb,rfl,hS,hb,hE⟩:=h;exact⟨A,c,O,hS.btw hb hr.lits Da,hE⟩
def DV(len:Nat)(A:Option Addr)(c:Nat)(es:List Value)(w0:World)(hel:aL es=len*1)(hcell:Lie w0 A len es)(ho:∀v∈es,one v=true)(hb:len<=8796093022208):Calls prog 207 #[.slice A len c] w0 (Za λv w'=>RB 9 1 len es w0 v w'):=by
 refine Ea func207 ntmps207 ?_;intro hF;refine rn 9<|Ba (v:=.bool<|(A).isNone) (Y7 fX O O) ?_;refine rn 3 ⟨λhc0=>?_,λhc0=>?_⟩;have hA:A=none:=aS hc0
 refine rn 6 ?_;have h0:len=0:=by rcases Nat.eq_zero_or_pos len with h|h;exact h;obtain⟨ad,hh,_⟩:=hcell Aa;rw[hA]at hh;cases hh
 have hes:es=[]:=List.eq_nil_of_length_eq_zero (by rw[hel,h0,Nat.zero_mul]);subst hes;exact⟨none,0,[],by rw[h0],by rw[h0];exact SlB.nil _ _,Da,hF.same⟩;refine rn 4<|X5 0 hF (Mj fX sizeOf9) ?_;rintro b1 w hb1 hF -;have hS0:SlB 9 1 (some ⟨b1,0,none⟩) 0 0 [] [(b1,.cells #[] 9)]:=⟨Da,.inr ⟨b1,#[],rfl,rfl,gQ _,dZ _,Da,Da⟩⟩;refine rn 1 ?_;refine Vk [] [] (news:=es) (len':=0+len) (ys:=[]++es) I2 hF hS0 rfl rfl (by rw[hel]) (λhk=>by obtain⟨ad,hA,hc⟩:=hcell hk;exact⟨ad,hA,Kc<|hF.cells0 hc⟩) (Ig ho) qN (rfl) (rfl) Aa ?_;intro A0 c0 a_0 w hS0_a hF hE hnew;refine rn 4 ?_;simp only[Nat.zero_add,nZ]at *;exact⟨_,_,_,O,qW,hF.sbown (pre:=[]) (post:=[]),hF.same⟩
def BU(len:Nat)(A:Option Addr)(c:Nat)(es:List Value)(w0:World)(hel:aL es=len*4)(hcell:Lie w0 A len es)(ho:∀v∈es,one v=true)(hb:len<=1000000000):Calls prog 208 #[.slice A len c] w0 (Za λv w'=>RB 36 4 len es w0 v w'):=by
 refine Ea func208 ntmps208 ?_;intro hF;refine rn 9<|Ba (v:=.bool<|(A).isNone) (Y7 gX O O) ?_;refine rn 3 ⟨λhc0=>?_,λhc0=>?_⟩;have hA:A=none:=aS hc0
 refine rn 6 ?_;have h0:len=0:=by rcases Nat.eq_zero_or_pos len with h|h;exact h;obtain⟨ad,hh,_⟩:=hcell Aa;rw[hA]at hh;cases hh
 have hes:es=[]:=List.eq_nil_of_length_eq_zero (by rw[hel,h0,Nat.zero_mul]);subst hes;exact⟨none,0,[],by rw[h0],by rw[h0];exact SlB.nil _ _,Da,hF.same⟩;refine rn 4<|X5 0 hF (Mj gX uZ) ?_;rintro b1 w hb1 hF -;have hS0:SlB 36 4 (some ⟨b1,0,none⟩) 0 0 [] [(b1,.cells #[] 36)]:=⟨Da,.inr ⟨b1,#[],rfl,rfl,gQ _,dZ _,Da,Da⟩⟩;refine rn 1 ?_;refine Vk [] [] (news:=es) (len':=0+len) (ys:=[]++es) E2 hF hS0 rfl rfl (by rw[hel]) (λhk=>by obtain⟨ad,hA,hc⟩:=hcell hk;exact⟨ad,hA,Kc<|hF.cells0 hc⟩) (Ig ho) qN (rfl) (rfl) Aa ?_;intro A0 c0 a_0 w hS0_a hF hE hnew;refine rn 4 ?_;simp only[Nat.zero_add,nZ]at *;exact⟨_,_,_,O,qW,hF.sbown (pre:=[]) (post:=[]),hF.same⟩
def GF(F:Nat)(args:Array Value)(d:D)(w0:World):Prop:=Calls prog F args w0 (Za λv w'=>∃ct:List Value,v=.agg ct.toArray/\Rep (Btw w0 w') w' d ct/\Same [] w0 w')
def KL(x:Tree):Prop:=∀S w0 cs,Rep S w0 (Na x) cs->La x<=1000000000->(Rg x<=8796093022208)->GF 149 #[.agg cs.toArray] (Na x) w0
theorem BO(k:Int)(t:Str)(ks:List Str)(xs:List Tree)(ih:∀x,x∈xs->KL x):KL (.node k t ks xs):=by
 intro S w0 cs hR hsz hky;rw[La]at hsz;rw[Rg]at hky;have hxn:=Pf xs;obtain⟨A,c,B,e,rfl,hk,ht,hK,hX⟩:=hR.tree_inv;obtain⟨eK,hrK,hKl,hKc⟩:=hK.slice_open<|Ez ks;obtain⟨eX,hrX,hXl,hXc⟩:=hX.slice_open<|HL xs;refine Ea func149 ntmps149 ?_;intro hF;refine rn 3 ?_;rintro b1 w hb1 hF -;refine rn 1 ?_;rintro b2 w hb2 hF -;refine rn 3<|Rb (zs:=.of [9,7]) (bQ [0,1,3,4]<|.act 2<|.free 6<|.act 5<|.act 7<|.free 8<|.act 9 .nil) hF ?_;intro w hF;refine rn 4<|Lk (DV (aL ks) A c eK _ hKl (Lie.ext hKc hF.same) hrK.one_ Aa) ?_;rintro _ w hcl;obtain⟨A1,c1,rfl,hK1,hE⟩:=EJ hcl hrK;have hKX:=RX.made (ids:=[b2,b1]) hF.same.size (λx hx=>hF.lt_ids qK) hK1;have hF:=hF.ext hE;clear hE hcl hK1;refine⟨hF,?_⟩;refine rn 1<|Lk (BU (aL xs) B e eX _ hXl (Lie.ext hXc hF.same) hrX.one_ Aa) ?_;rintro _ w ⟨A2,c2,sb2,rfl,hS2,hh2,hE⟩;have hKX:=hKX.step (ids':=[b2,b1]++sb2.map (·.1)) hE Da (λx hx=>by rcases mQ.1 hx with hx|hx;exact .inl hx;obtain⟨p,hp,rfl⟩:=nQ.1 hx;exact .inr (hh2 p hp).2);have hF:=hF.extseg hE hh2 hS2.pw;refine⟨hF.su,?_⟩;refine rn 1 ?_;intro w hF hE;have hKX:=hKX.store hE qK;refine rn 2 ?_;intro w hF hE;have hKX:=hKX.store hE qK;refine rn 12 (Sa (λμ σ w=>∃(j:Nat),∃(dn:List Value),∃(rs:List Value),∃(sb:List (Nat × Obj)),μ=aL xs-j/\(j<=aL xs)/\(SlB 36 4 A2 (aL xs) c2 (dn++rs) sb)/\(aL dn=j*4)/\(RepL S w0 (Hc<|xs.drop j) rs)/\(RX w0 ([b2,b1]++sb.map (·.1)) w (Hc<|xs.take j) dn)/\(RX w0 ([b2,b1]++sb.map (·.1)) w [Ee ks] [.slice A1 (aL ks) c1])/\AllEq σ [(1,V b1),(2,V b2),(14,.slice A2 (aL xs) c2),(15,J<|(aL xs:Nat)),(16,J<|(j:Int))]/\FR w0 [] ([(b2,.cells #[J 0,I [],aQ,aQ] 36),(b1,.cells #[J k,I t,.slice A1 (aL ks) c1,.slice A2 (aL xs) c2] 36)]++(sb++[])) w) _ ⟨0,[],eX,sb2,O,dZ _,hS2,O,aS hrX,RX.nil,hKX,Va,hF⟩ ?_)
 rintro μ σ w ⟨j,dn,rs,sb,rfl,hj,hS,hd,hrr,hDX,hKX,hzz,hF⟩;refine Wf hzz 7 ⟨λhc0=>?_,λhc0=>?_⟩;refine rn 7 ?_;have hjx:j<aL xs:=Aa
 rw[GH hjx]at hrr;obtain⟨c1_,c2_,rfl,hr1,hr2⟩:=RepL.cons_inv hrr;have hl1:aL c1_=4:=hr1.length.trans<|Bb _;have ho1:=hr1.one_;obtain⟨ad0,hA0,hk0⟩:=hS.elemMid (pre:=[(b2,.cells #[J 0,I [],aQ,aQ] 36),(b1,.cells #[J k,I t,.slice A1 (aL ks) c1,.slice A2 (aL xs) c2] 36)]) (post:=[]) (pr:=dn) (mid:=c1_) (po:=c2_) hF (j:=j) hd hl1 hjx;refine Ba (v:=.pointer<|some<|ad0.add<|j*4) (Ca (i:=(j:Int)) Fd hA0)<|Ba (v:=.agg<|List.toArray c1_) (Ma (l:=c1_) qZ uZ O hl1 hk0) ?_;refine rn 1 ?_;intro b3 w hb3 hF hE;have hKX:=hKX.alloc hE hb3;have hDX:=hDX.alloc hE hb3;refine rn 1 ?_;refine Ye 0 (l:=c1_) (cs':=(List.toArray c1_)) hF (by rw[hl1];exact uZ) O (v:=.agg<|List.toArray c1_) O O (ho1) O (by rw[hl1];exact Nat.le_of_ble_eq_true O) (Ij (by rw[hl1];rfl)) ?_;intro w hF hE;have hKX:=hKX.store hE qK;have hDX:=hDX.store hE qK;refine rn 2<|Gb (.of [6]) (bQ [0,1,2,3]<|.act 4<|.free 5<|.act 6 .nil) hF ?_;intro w hF hE;have hKX:=hKX.ext hE;have hDX:=hDX.ext hE;refine⟨λwq=>FR w0 [] [(b3,.cells (List.toArray c1_) 36),(b2,.cells #[J 0,I [],aQ,aQ] 36),(b1,.cells #[J k,I t,.slice A1 (aL ks) c1,.slice A2 (aL xs) c2] 36)] wq,hF.mid 0 3,?_⟩;refine rn 3 ?_;refine Ga O (v:=.agg<|List.toArray c1_) (λw hC=>Ma (l:=c1_) qZ uZ O hl1<|hC.cellsAll 0 O) ?_;refine Lk (ih xs[j] (eQ hjx) S _ c1_ (hF.rep hr1) (by have:=Td<|eQ hjx;omega) (by have:=Pw<|eQ hjx;omega)) ?_;rintro _ w ⟨ct,rfl,hRt,hE⟩;have hlt:aL ct=4:=hRt.length.trans<|Bb _;have hot:=hRt.one_;have hYX:=RX.made (ids:=b3::([b2,b1]++sb.map (·.1))) hF.same.size (λx hx=>hF.lt_ids qK) hRt;have hKX:=hKX.ext hE;have hDX:=(hDX.ext hE).append hYX;have hF:=hF.ext hE;clear hE hYX;refine⟨hF.su,?_⟩;obtain⟨ad1,hA1,hk1⟩:=hS.elemMid (pre:=[(b3,.cells (List.toArray c1_) 36),(b2,.cells #[J 0,I [],aQ,aQ] 36),(b1,.cells #[J k,I t,.slice A1 (aL ks) c1,.slice A2 (aL xs) c2] 36)]) (post:=[]) (pr:=dn) (mid:=c1_) (po:=c2_) hF (j:=j) hd hl1 hjx
 refine Ga O (v:=.pointer<|some<|ad1.add<|j*4) (λw hC=>Ca (i:=(j:Int)) Fd hA1)<|YU [(b3,.cells (List.toArray c1_) 36),(b2,.cells #[J 0,I [],aQ,aQ] 36),(b1,.cells #[J k,I t,.slice A1 (aL ks) c1,.slice A2 (aL xs) c2] 36)] [] O hF (pr:=dn) (mid:=c1_) (po:=c2_) (new:=ct) (j:=j) hS hd hl1 hA1 (hjx) uZ O (v:=.agg<|List.toArray ct) O O hlt hot ?_;intro i_2 w hS2_i hF hE hids;have hKX:=hKX.store hE qK;have hDX:=hDX.store hE qK;refine rn 4<|Zb Uh ?_;refine rn 2 ?_;refine Ha ⟨_,?_,j+1,dn++ct,c2_,i_2,O,hjx,aS hS2_i,by rw[dQ,hd,hlt];omega,hr2,by rw[L2 hjx,hids];exact hDX.sub λx hx=>iZ _ hx,by rw[hids];exact hKX.sub λx hx=>iZ _ hx,Va,hF.su⟩;omega;refine rn 6 ?_;intro w hF hE;have hKX:=hKX.store hE qK;have hDX:=hDX.store hE qK;refine rn 3 ?_;have ej:j=aL xs:=Aa
 subst ej;rw[List.take_length]at hDX;have e0:rs=[]:=by rw[List.drop_length]at hrr;exact RepL.nil_inv hrr
 subst e0;rw[qQ]at hS;refine⟨_,O,?_,hF.same⟩
 ·exact Rep.tree_mk hk ht hKX.done<|hS.rep (pre:=[_,_]) (post:=[]) hF hDX Da
def clone_c(x:Tree):KL x:=Tree.ind BO x
mutual
def Oe:Tree->Tree
  | .node k t ks xs=>if k=6 then .node k t (Je ks) ((Je ks).map λkey=>(Dh ks (Fe xs) key).getD (.node 0 [] [] [])) else .node k t [] (Fe xs)
def Fe:List Tree->List Tree
  | []=>[]
  | x::xs=>Oe x::Fe xs
end
theorem Xf:∀xs:List Tree,Fe xs=xs.map Oe
  | []=>rfl
  | x::xs=>by rw[Fe,Xf xs,lZ]
theorem B7{key:Str}{y:Tree}:∀{ks:List Str}{xs:List Tree},Dh ks xs key=some y->Dh ks (Fe xs) key=some (Oe y)
  | [],xs,h=>by cases xs <;> cases h
  | k::ks,[],h=>by cases h
  | k :: ks, x :: xs, h => by
    rw[Fe,Dh];rw[Dh]at h;by_cases he:k=key
    ·rw[uQ he]at h ⊢;injection h with h;rw[h]
    rw[tQ he]at h ⊢;exact B7 h
theorem UM{S:Nat->Prop}{w:World}{key:Str}{ks:List Str}{xs:List Tree}{l:MapL}(hk:l.map (·.1)=ks)(hm:MapRep S w xs l)(hin:key∈ks) :
    ∃(cs:List Value)(y:Tree),Ie l key=some (.agg cs.toArray)/\Dh ks xs key=some y/\y∈xs/\Rep S w (Na y) cs:=by
  rcases J8 key hk hm with ⟨h,-⟩|h
  ·exfalso
   rw[<-hk]at hin;obtain⟨x,hx,hxe⟩:=nQ.1 hin;unfold Ie at h;rw[Option.map_eq_none_iff,List.find?_eq_none]at h;grind
  exact h
def MapRep.back{S:Nat->Prop}{w0 w:World}{xs:List Tree}{l:MapL}(h:MapRep (Old S w0) w xs l)(hs:Same [] w0 w):MapRep (Old S w0) w0 xs l:=λi hi=>by
  obtain⟨cs,h1,h2,h3⟩:=h i hi;exact⟨cs,h1,h2,h3.back hs⟩
def KeysAt(w1:World)(bk m:Nat)(l:MapL):Prop:=∃W:World,w1=W.alloc (.cells #[.map (some m)] 166)/\bk=W.heap.size/\W.heap[m]? = some (Vc l)
def keys_c(m:Nat)(l:MapL)(w:World)(hm:w.heap[m]? = some (Vc l)):Calls prog 139 #[.map (some m)] w (Za λv w'=>∃bk,v=.func (.func 203) #[] #[V bk]/\KeysAt w' bk m l/\Same [] w w') :=
  (callsIn_wide.1<|maps_Keys_139 (some m) w).mono λ_ _ ⟨he,hw⟩=>⟨_,he,w.heap.size,rfl,⟨w,hw,rfl,hm⟩,by rw[hw];exact Same.alloc w _⟩
def OE(bk m:Nat)(l:MapL)(ks:List Str)(w:World)(h:KeysAt w bk m l)(hk:l.map (·.1)=ks)(hn:ks.Nodup)(hb:aL ks<=1000000000)(hs:∀s∈ks,aL s<=140737488355328) :
    Calls prog 138 #[.func (.func 203) #[] #[V bk]] w (Za λv w'=>∃A c,v=.slice A (aL ks) c/\Rep (Btw w w') w' (Ee (Je ks)) [.slice A (aL ks) c]/\Same [] w w'):=by
  obtain⟨W,rfl,rfl,hm⟩:=h;have hl:aL l=aL ks:=by rw[<-hk,rQ]
  obtain⟨D0,hown,hperm,hsz⟩:=LN (P:=prog) jX hm (by rw[hk];exact hn) (λx hx=>by have:=hs x.1 (by rw[<-hk];exact List.mem_map_of_mem hx);simp only[maxLen];omega) qN;refine (callsIn_wide.1<|slices_Sorted_keys_138_139 m (aL l) D0 _ W hown (by rw[hsz];simp only[maxLen];omega) (by rw[hsz];omega)).mono ?_;rintro e w' ⟨v,ss,rfl,hp,hrow,-,hbel⟩;have hpk:ss.Perm ks:=by rw[<-hk];exact hp.trans hperm
  have e1:(ss.mergeSort λx y=>decide (x<=y))=Je ks:=M9 hpk;rw[e1]at hrow;have e2:aL ss=aL (Je ks):=by rw[Xd];exact hpk.length_eq
  rw[e2]at hrow;obtain⟨A,c,rfl,hr⟩:=UW (S:=Btw (W.alloc<|.cells #[.map<|some m] 166) w') 9 hrow (λg h1 h2 h3=>⟨h1,h2,h3⟩) (λs hs'=>by have:=hs s<|Jn.1 hs';omega);rw[Xd]at hr;exact⟨_,O,A,c,by rw[Xd],hr,.of_below hbel⟩
def XC(x:Tree):Prop:=∀S w0 cs,Rep S w0 (Na x) cs->To x->Uc nodeB x=true->La x<=1000000000->GF 83 #[.agg cs.toArray] (Na (Oe x)) w0
def Q1{xs:List Tree}{j:Nat}(h:j<aL xs):Hc (Fe (xs.take (j+1)))=Hc (Fe (xs.take j))++[Na (Oe xs[j])]:=by
  rw[iQ h,Jc,Jc,Xf,Xf,jQ,jQ];rfl
def E0(ks:List Str)(xs:List Tree):List Tree:=(Je ks).map λkey=>(Dh ks (Fe xs) key).getD (.node 0 [] [] [])
theorem Oo(ks:List Str)(xs:List Tree):aL (E0 ks xs)=aL ks:=by grind [E0,Xd]
theorem GB{ks:List Str}{xs:List Tree}{j:Nat}{y:Tree}(h:j<aL (Je ks))(hy:Dh ks xs (Je ks)[j]=some y):Hc ((E0 ks xs).take (j+1))=Hc ((E0 ks xs).take j)++[Na (Oe y)]:=by
  have h':j<aL (E0 ks xs):=by grind [Oo,Xd]
  rw[iQ h',Jc,Jc,jQ];grind [E0,B7]
theorem SF(k:Int)(t:Str)(ks:List Str)(xs:List Tree)(ih:∀x,x∈xs->XC x):XC (.node k t ks xs):=by
 intro S w0 cs hR hok hnx hsz;have hR:=hR.old;rw[To]at hok;rw[La]at hsz;have hxn:=Pf xs;have hnx:=Xe hnx;obtain⟨A,c,B,e,rfl,hk,ht,hK,hX⟩:=hR.tree_inv;have hXl:=hX.slice_len;have hKn:k=6->aL ks=aL xs:=λe=>(Dv<|e▸hnx.1).2;refine Ea func83 ntmps83 ?_;intro hF;refine rn 3 ?_;rintro b1 w hb1 hF -;refine rn 1 ?_;rintro b2 w hb2 hF -;refine rn 8<|Ba (w':=w) (v:=.agg #[J k,I t,aQ,aQ]) Ua ?_;refine rn 1 ?_;rintro b3 w hb3 hF -;refine rn 11 ⟨λhc0=>?_,λhc0=>?_⟩;refine rn 10 (Sa (λμ σ w=>∃(j:Nat),∃(A1:Option Addr),∃(c1:Nat),∃(sb:List (Nat × Obj)),∃(cs1:List Value),μ=aL xs-j/\(j<=aL xs)/\(SlB 36 4 A1 j c1 cs1 sb)/\(RX w0 ([b3,b2,b1]++sb.map (·.1)) w (Hc<|Fe<|xs.take j) cs1)/\AllEq σ [(2,V b2),(3,V b3),(18,.slice B (aL xs) e),(19,J<|(aL xs:Nat)),(20,J<|(j:Int))]/\FR w0 [] ([(b3,.cells #[J k,I t,aQ,.slice A1 j c1] 36),(b2,.cells #[J 0,I [],aQ,aQ] 36),(b1,.cells #[J k,I t,.slice A (aL ks) c,.slice B (aL xs) e] 36)]++(sb++[])) w) _ ⟨0,none,0,[],[],O,dZ _,SlB.nil _ _,RX.nil,Va,hF⟩ ?_);rintro μ σ w ⟨j,A1,c1,sb,cs1,rfl,hj,hS,hDX,hzz,hF⟩;refine Wf hzz 7 ⟨λhc1=>?_,λhc1=>?_⟩;refine rn 6 ?_;obtain⟨ad0,cs0,hA0,hl0,hk0,hx0⟩:=hX.tree_elem (i:=j) Aa;have ho0:=hx0.one_;refine Ba (v:=.pointer<|some<|ad0.add<|j*4) (Ca (i:=(j:Int)) Fd hA0)<|Ba (v:=.agg<|List.toArray cs0) (Ma (l:=cs0) qZ uZ O hl0<|hF.cells0 hk0) ?_;refine Wu (l:=cs0) hF kX wR kD (v:=.agg<|List.toArray cs0) O O (ho0) O ?_;intro b4 w hb4 hF hE;have hDX:=hDX.alloc hE hb4;refine rn 2<|Gb (.of [7]) (bQ [0,1,2]<|cQ [3,4,5]<|.free 6<|.act 7 .nil) hF ?_;intro w hF hE;have hDX:=hDX.ext hE;refine⟨λwq=>FR w0 [] [(b4,.cells (List.toArray cs0) 36),(b3,.cells #[J k,I t,aQ,.slice A1 j c1] 36),(b2,.cells #[J 0,I [],aQ,aQ] 36),(b1,.cells #[J k,I t,.slice A (aL ks) c,.slice B (aL xs) e] 36)] wq,hF.mid 0 4,?_⟩
 refine rn 2 ?_;refine Ga O (v:=.agg<|List.toArray cs0) (λw hC=>Ma (l:=cs0) qZ uZ O hl0<|hC.cellsAll 0 O) ?_;refine Lk (ih xs[j] (eQ Aa) _ _ cs0 (hF.rep hx0) (Bj hok.2.2 _<|eQ Aa) (hnx.2 _<|eQ Aa) zW) ?_;rintro _ w ⟨ct,rfl,hRt,hE⟩;have hlt:aL ct=4:=hRt.length.trans<|Bb _;have hot:=hRt.one_;have hYX:=RX.made (ids:=[b4,b3,b2,b1]++sb.map (·.1)) hF.same.size (λx hx=>hF.lt_ids qK) hRt;have hDX:=(hDX.ext hE).append hYX;have hF:=hF.ext hE;clear hE hYX;refine⟨hF.su,?_⟩;refine Js 1 O hF (Cj (l:=ct) gX uZ kX Ja Ja O hlt) ?_;intro b5 w hb5 hF hE;have hDX:=hDX.alloc hE hb5;refine⟨hF.su,?_⟩;refine f_app (news:=ct) (len':=j+1) (ys:=cs1++ct) O E2 hF hS O O (by rw[hlt]) (λ_=>⟨_,O,Kc<|hF.cellsAll 0 O⟩) (Ig hot) qN (O) (O) Aa ?_;intro A1 c1 i_1 w hS1_i hF hE hnew;have hDX:=hDX.app (l:=[b5,b4,b3,b2,b1]) hE hnew;refine⟨hF.su,?_⟩;refine rn 2 ?_;intro w hF hE;have hDX:=hDX.store hE qK;refine rn 4<|Zb Uh ?_;refine rn 2 ?_;refine Ha ⟨_,?_,j+1,A1,c1,i_1,cs1++ct,O,Aa,qW,by rw[Q1 Aa];exact hDX.sub qK,Va,hF.su⟩;omega;refine rn 6 ?_;intro w hF hE;have hDX:=hDX.store hE qK;refine rn 3 ?_;have ej:j=aL xs:=Aa
 subst ej;rw[List.take_length]at hDX;refine⟨_,O,?_,hF.same⟩;rw[Oe,tQ hc0];exact Rep.tree_mk hk ht (Rep.nil_slice 0 Aa none)<|hS.rep (pre:=[_,_,_]) (post:=[]) hF hDX (by rw[Qe,Xf,rQ]);refine rn 5 ?_;have k6:k=6:=aS hc0
 refine Fc (EU k t ks xs (Dv<|k6▸hnx.1).1 (Dv<|k6▸hnx.1).2 _ _ _<|hF.rep hR) ?_;rintro _ w ⟨m1,l1,rfl,hge,hm1,hk1,hr1,hE⟩;have hF:=hF.cons_ext hE hm1 hge;have hr1:=hr1.back hF.same;clear hE hm1 hge;refine rn 6<|Fc (keys_c m1 l1 _<|hF.heap (i:=0) O) ?_;rintro _ w ⟨bk,rfl,hKA,hE⟩;have hF:=hF.ext hE;refine Fc (OE bk m1 l1 ks _ hKA hk1 (Dv<|k6▸hnx.1).1 Aa hok.2.1) ?_;rintro _ w ⟨A2,c2,rfl,hK2,hE⟩;have hKX:=RX.made (ids:=[m1,b3,b2,b1]) hF.same.size (λx hx=>hF.lt_ids qK) hK2;have hF:=hF.ext hE;clear hE hK2;refine rn 2 ?_;intro w hF hE;have hKX:=hKX.store hE qK;refine rn 12 (Sa (λμ σ w=>∃(j:Nat),∃(A1:Option Addr),∃(c1:Nat),∃(sb:List (Nat × Obj)),∃(cs1:List Value),μ=aL ks-j/\(j<=aL ks)/\(SlB 36 4 A1 j c1 cs1 sb)/\(RX w0 ([m1,b3,b2,b1]++sb.map (·.1)) w (Hc<|(E0 ks xs).take j) cs1)/\(RX w0 ([m1,b3,b2,b1]++sb.map (·.1)) w [Ee<|Je ks] [.slice A2 (aL ks) c2])/\AllEq σ [(2,V b2),(3,V b3),(6,.map<|some m1),(40,.slice A2 (aL ks) c2),(41,J<|(aL ks:Nat)),(42,J<|(j:Int))]/\FR w0 [] ([(m1,Vc l1),(b3,.cells #[J k,I t,.slice A2 (aL ks) c2,.slice A1 j c1] 36),(b2,.cells #[J 0,I [],aQ,aQ] 36),(b1,.cells #[J k,I t,.slice A (aL ks) c,.slice B (aL xs) e] 36)]++(sb++[])) w) _ ⟨0,none,0,[],[],O,dZ _,SlB.nil _ _,RX.nil,hKX,Va,hF⟩ ?_);rintro μ σ w ⟨j,A1,c1,sb,cs1,rfl,hj,hS,hDX,hKX,hzz,hF⟩;refine Wf hzz 7 ⟨λhc2=>?_,λhc2=>?_⟩;refine rn 6 ?_;obtain⟨ad2,hA2,hk2,hx2⟩:=hKX.rep.str_elem (i:=j) (by rw[Xd];omega);refine Ba (v:=.pointer<|some<|ad2.add<|j*1) (Ca (i:=(j:Int)) Ii hA2) ?_;refine Ba (v:=I<|(Je ks)[j]'(by rw[Xd];omega)) (Xa sZ hk2) ?_;refine rn 3<|Gb (.of [9]) (bQ [0,1,2,3,4]<|cQ [5,6,7]<|.free 8<|.act 9 .nil) hF ?_;intro w hF hE;have hDX:=hDX.ext hE;have hKX:=hKX.ext hE;refine⟨λwq=>FR w0 [] [(m1,Vc l1),(b3,.cells #[J k,I t,.slice A2 (aL ks) c2,.slice A1 j c1] 36),(b2,.cells #[J 0,I [],aQ,aQ] 36),(b1,.cells #[J k,I t,.slice A (aL ks) c,.slice B (aL xs) e] 36)] wq,hF.mid 0 4,?_⟩
 refine rn 4 ?_;obtain⟨cy,y,hlk,hlt_,hym,hry⟩:=UM hk1 hr1<|Jn.1<|List.getElem_mem (l:=Je ks) (n:=j) (by rw[Xd];omega);have hoy:=hry.one_;have hly:aL cy=4:=hry.length.trans<|Bb _;refine Ga O (v:=.agg<|List.toArray cy) (λw hC=>Hq underlying166 jX kX O O (hC.heap (i:=0) O) (by rw[hlk];rfl)) ?_;refine Lk (ih y hym _ _ cy (hF.rep hry) (Bj hok.2.2 y hym) (hnx.2 y hym) (by have:=Td hym;omega)) ?_;rintro _ w ⟨ct,rfl,hRt,hE⟩;have hlt:aL ct=4:=hRt.length.trans<|Bb _;have hot:=hRt.one_;have hYX:=RX.made (ids:=[m1,b3,b2,b1]++sb.map (·.1)) hF.same.size (λx hx=>hF.lt_ids qK) hRt;have hDX:=(hDX.ext hE).append hYX;have hF:=hF.ext hE;have hKX:=hKX.ext hE;clear hE hYX;refine⟨hF.su,?_⟩;refine Js 1 O hF (Cj (l:=ct) gX uZ kX Ja Ja O hlt) ?_;intro b6 w hb6 hF hE;have hDX:=hDX.alloc hE hb6;have hKX:=hKX.alloc hE hb6;refine⟨hF.su,?_⟩;refine f_app (news:=ct) (len':=j+1) (ys:=cs1++ct) O E2 hF hS O O (by rw[hlt]) (λ_=>⟨_,O,Kc<|hF.cellsAll 0 O⟩) (Ig hot) qN (O) (O) Aa ?_;intro A3 c3 i_3 w hS3_i hF hE hnew;have hDX:=hDX.app (l:=[b6,m1,b3,b2,b1]) hE hnew;have hKX:=hKX.app (l:=[b6,m1,b3,b2,b1]) hE hnew;refine⟨hF.su,?_⟩;refine rn 2 ?_;intro w hF hE;have hDX:=hDX.store hE qK;have hKX:=hKX.store hE qK;refine rn 4<|Zb Uh ?_;refine rn 2 ?_;refine Ha ⟨_,?_,j+1,A3,c3,i_3,cs1++ct,O,Aa,qW,by rw[GB (by rw[Xd];omega) hlt_];exact hDX.sub qK,hKX.sub qK,Va,hF.su⟩;omega;refine rn 6 ?_;intro w hF hE;have hDX:=hDX.store hE qK;have hKX:=hKX.store hE qK;refine rn 3 ?_;have ej:j=aL ks:=Aa
 subst ej;rw[eZ (by rw[Oo];exact gQ _)]at hDX;refine⟨_,O,?_,hF.same⟩;rw[Oe,uQ k6]
 ·exact Rep.tree_mk hk ht hKX.done<|hS.rep (pre:=[_,_,_,_]) (post:=[]) hF hDX (by rw[Qe];exact Oo ks xs)
def G6(x:Tree):XC x:=Tree.ind SF x
def zeroT:Tree:=.node 0 [] [] []
def Sk(S:Nat->Prop)(w:World):Rep S w (Na zeroT) [J 0,I [],aQ,aQ] :=
  Rep.tree_mk ⟨Aa,Aa⟩ Da (Rep.nil_slice 0 Aa none) (Rep.nil_slice 0 Aa none)
def Zc(x:Tree):Tree:=if De x then Oe x else zeroT
def Gs(x:Tree):Tree:=if De x then x else zeroT
def Vd(x y:Tree):Int:=if De x then if De y then Lm (Oe x) (Oe y) else 1 else if De y then -1 else 0
theorem EM{k:Int}{t:Str}{ks:List Str}{xs:List Tree}(h:nodeB (.node k t ks xs)=true):aL ks<=aL xs:=by
  by_cases h6:k=6
  ·subst h6
   have:=(Dv h).2;omega
  grind [nodeB]
def CR:∀x:Tree,Uc nodeB x=true->Rg x+1<=La x:=λx=>Tree.ind (Q:=λx=>Uc nodeB x=true->Rg x+1<=La x) (λk t ks xs ih h=>by
  obtain⟨h1,h2⟩:=Xe h;have h3:=EM h1;have h7:∀ys:List Tree,(∀y∈ys,y∈xs)->aL ys+Xj ys<=Ra ys:=by
    intro ys
    induction ys with
    | nil=>intro _;simp[Xj,Ra]
    | cons y ys ihy =>
      intro hm;have h5:=ihy λz hz=>hm z wP;have h9:=ih y (hm y Da)<|h2 y<|hm y Da;simp only[Xj,Ra,kQ];omega
  have:=h7 xs λ_ h=>h;rw[Rg,La];omega) x
theorem H1{key:Str}{y:Tree}:∀{ks:List Str}{xs:List Tree},Dh ks xs key=some y->y∈xs
  | [],xs,h=>by cases xs <;> cases h
  | k::ks,[],h=>by cases h
  | k :: ks, x :: xs, h => by
    rw[Dh]at h;by_cases he:k=key
    ·rw[uQ he]at h;injection h with h;simp[h]
    rw[tQ he]at h;simp[H1 h]
theorem V4:∀{xs:List Tree},(∀x∈xs,To x)->Q6 xs
  | [],_=>by rw[Q6];trivial
  | x::xs,h=>by rw[Q6];exact⟨h x Da,V4 λy hy=>h y bT⟩
def PH(x:Tree):To x->To (Oe x):=Tree.ind (Q:=λx=>To x->To (Oe x)) (λk t ks xs ih h=>by
  rw[To]at h;have hs:∀y∈Fe xs,To y:=by
    intro y hy;rw[Xf]at hy;obtain⟨z,hz,rfl⟩:=nQ.1 hy;exact ih z hz<|Bj h.2.2 z hz
  rw[Oe];split
  ·rw[To]
   refine⟨h.1,λk hk=>h.2.1 k<|Jn.1 hk,V4 λy hy=>?_⟩;obtain⟨key,_,rfl⟩:=nQ.1 hy;cases hl:Dh ks (Fe xs) key with
   | none=>simp only[Option.getD_none];rw[To];simp[Q6]
   | some z=>exact hs z<|H1 hl
  rw[To];exact⟨h.1,Da,V4 hs⟩) x
theorem FB{x:Tree}(h:De x=true):La x<=4096:=by grind [De,Yj]
theorem GT(x:Tree)(hsz:La x<=1000000000)(S:Nat->Prop)(w0:World)(cs:List Value)(hR:Rep S w0 (Na x) cs)(hk:To x)(hG:Gl w0):GF 70 #[.agg cs.toArray] (Na (Zc x)) w0:=by
 have hl:aL cs=4:=hR.length.trans<|Bb x;have ho:=hR.one_;refine Ea func70 ntmps70 ?_;intro hF;refine rn 2<|Gk (v:=.agg<|List.toArray cs) (cs:=(List.toArray cs)) hF O O ?_;rintro b1 w hb1 hF -;refine rn 1 ?_;rintro b2 w hb2 hF -;refine rn 5<|Ba (v:=.agg<|List.toArray cs) (Ma (l:=cs) qZ uZ O hl<|hF.cellsAll 1 O) ?_;refine Ia (L5 x hsz S cs (hF.rep hR) hk<|hG.ext hF.same) ?_;rintro w hF -;refine rn 4 ⟨λhc0=>?_,λhc0=>?_⟩;refine rn 2<|Ba (w':=w) (v:=.agg #[J 0,I [],aQ,aQ]) Ua ?_;refine rn 1 ?_;rintro w hF -;refine rn 3 ?_;have ho_:De x=false:=aS hc0
 refine⟨_,O,?_,hF.same⟩;rw[Zc,ho_];exact Sk _ _;refine rn 4<|Ba (v:=.agg<|List.toArray cs) (Ma (l:=cs) qZ uZ O hl<|hF.cellsAll 1 O) ?_;refine Fc (G6 x S _ cs (hF.rep hR) hk (Am (aS hc0)) hsz) ?_;rintro _ w ⟨ct,rfl,hRt,hE⟩;have hlct:aL ct=4:=hRt.length.trans<|Bb _;have hoct:=hRt.one_;have hXX:=RX.made (ids:=[b2,b1]) hF.same.size (λx hx=>hF.lt_ids qK) hRt;have hF:=hF.ext hE;clear hE hRt;refine Ye 0 (l:=ct) (cs':=(List.toArray ct)) hF (by rw[hlct];exact uZ) O (v:=.agg<|List.toArray ct) O O (hoct) O wN (Ij (by rw[hlct];rfl)) ?_;intro w hF hE;have hXX:=hXX.store hE qK;refine rn 2<|Rf<|Yd λ_ hr=>Nc (HQ hr (l:=ct) O qZ uZ hlct<|hF.cellsAll 0 O) ?_;have ho_:De x=true:=aS hc0
 refine⟨_,O,?_,hF.same⟩;rw[Zc,ho_]
 ·exact hXX.done
theorem NR(x:Tree)(hsz:La x<=1000000000)(S:Nat->Prop)(w0:World)(cs:List Value)(hR:Rep S w0 (Na x) cs)(hk:To x)(hG:Gl w0):GF 93 #[.agg cs.toArray] (Na (Gs x)) w0:=by
 have hl:aL cs=4:=hR.length.trans<|Bb x;have ho:=hR.one_;refine Ea func93 ntmps93 ?_;intro hF;refine rn 2<|Gk (v:=.agg<|List.toArray cs) (cs:=(List.toArray cs)) hF O O ?_;rintro b1 w hb1 hF -;refine rn 1 ?_;rintro b2 w hb2 hF -;refine rn 5<|Ba (v:=.agg<|List.toArray cs) (Ma (l:=cs) qZ uZ O hl<|hF.cellsAll 1 O) ?_;refine Ia (L5 x hsz S cs (hF.rep hR) hk<|hG.ext hF.same) ?_;rintro w hF -;refine rn 4 ⟨λhc0=>?_,λhc0=>?_⟩;refine rn 2<|Ba (w':=w) (v:=.agg #[J 0,I [],aQ,aQ]) Ua ?_;refine rn 1 ?_;rintro w hF -;refine rn 3 ?_;have ho_:De x=false:=aS hc0
 refine⟨_,O,?_,hF.same⟩;rw[Gs,ho_];exact Sk _ _;refine rn 4<|Ba (v:=.agg<|List.toArray cs) (Ma (l:=cs) qZ uZ O hl<|hF.cellsAll 1 O) ?_;refine Fc (clone_c x S _ cs (hF.rep hR) hsz (by have:=CR x<|Am (aS hc0);omega)) ?_;rintro _ w ⟨ct,rfl,hRt,hE⟩;have hlct:aL ct=4:=hRt.length.trans<|Bb _;have hoct:=hRt.one_;have hXX:=RX.made (ids:=[b2,b1]) hF.same.size (λx hx=>hF.lt_ids qK) hRt;have hF:=hF.ext hE;clear hE hRt;refine Ye 0 (l:=ct) (cs':=(List.toArray ct)) hF (by rw[hlct];exact uZ) O (v:=.agg<|List.toArray ct) O O (hoct) O wN (Ij (by rw[hlct];rfl)) ?_;intro w hF hE;have hXX:=hXX.store hE qK;refine rn 2<|Rf<|Yd λ_ hr=>Nc (HQ hr (l:=ct) O qZ uZ hlct<|hF.cellsAll 0 O) ?_;have ho_:De x=true:=aS hc0
 refine⟨_,O,?_,hF.same⟩;rw[Gs,ho_]
 ·exact hXX.done
theorem SO(x y:Tree)(hsx:La x<=1000000000)(hsy:La y<=1000000000)(S S':Nat->Prop)(w0:World)(cs ct:List Value)(hR:Rep S w0 (Na x) cs)(hR':Rep S' w0 (Na y) ct)(hk:To x)(hk':To y)(hG:Gl w0):Calls prog 51 #[.agg cs.toArray,.agg ct.toArray] w0 (Za λv w'=>v=J (Vd x y)/\Same [] w0 w'):=by
 have hl:aL cs=4:=hR.length.trans<|Bb x;have ho:=hR.one_;have hl':aL ct=4:=hR'.length.trans<|Bb y;have ho':=hR'.one_;refine Ea func51 ntmps51 ?_;intro hF;refine rn 2<|Gk (v:=.agg<|List.toArray cs) (cs:=(List.toArray cs)) hF O O ?_;rintro b1 w hb1 hF -;refine Gk (v:=.agg<|List.toArray ct) (cs:=(List.toArray ct)) hF O O ?_;rintro b2 w hb2 hF -;refine rn 4<|Rb (zs:=.of []) (.free 0<|.free 2<|.act 1<|.act 3<|.free 4<|.free 5 .nil) hF ?_;intro w hF;refine Ga O (v:=.agg<|List.toArray cs) (λw hC=>Ma (l:=cs) qZ uZ O hl<|hC.cellsAll 1 O)<|Ga O (v:=.agg<|List.toArray ct) (λw hC=>Ma (l:=ct) qZ uZ O hl'<|hC.cellsAll 0 O) ?_;refine Rc (L5 x hsx S cs (hF.rep hR) hk<|hG.ext hF.same) ?_;rintro w hF -;refine Rc (L5 y hsy S' ct (hF.rep hR') hk'<|hG.ext hF.same) ?_;rintro w hF -;refine rn 11 ⟨λhg0=>?_,λhg0=>?_⟩;refine rn 6 ⟨λhc0=>?_,λhc0=>?_⟩;refine rn 1<|Rb (zs:=.of []) (.free 0<|.free 2<|cQ [1,3,4]<|.free 5 .nil) hF ?_;intro w hF;refine Ga O (v:=.agg<|List.toArray cs) (λw hC=>Ma (l:=cs) qZ uZ O hl<|hC.cellsAll 1 O)<|Ga O (v:=.agg<|List.toArray ct) (λw hC=>Ma (l:=ct) qZ uZ O hl'<|hC.cellsAll 0 O) ?_;refine Lk (G6 x S _ cs (hF.rep hR) hk (Am qX) hsx) ?_;rintro _ w ⟨cx,rfl,hRt,hE⟩;have hlcx:aL cx=4:=hRt.length.trans<|Bb _;have hocx:=hRt.one_;have hXX:=RX.made (ids:=[]) hF.same.size (λx hx=>hF.lt_ids qK) hRt;have hF:=hF.ext hE;clear hE hRt;refine⟨hF,?_⟩;refine Lk (G6 y S' _ ct (hF.rep hR') hk' (Am qX) hsy) ?_;rintro _ w ⟨cy,rfl,hRt,hE⟩;have hlcy:aL cy=4:=hRt.length.trans<|Bb _;have hocy:=hRt.one_;have hYX:=RX.made (ids:=[]) hF.same.size (λx hx=>hF.lt_ids qK) hRt;have hXX:=hXX.ext hE;have hF:=hF.ext hE;clear hE hRt;refine⟨hF,?_⟩;refine Rc (order_c (Oe x) (Oe y) _ _ _ cx cy hXX.rep hYX.rep (PH x hk) (PH y hk')<|hG.ext hF.same) ?_
 intro w hF hE;have hXX:=hXX.ext hE;have hYX:=hYX.ext hE;refine rn 4 ⟨yQ (Value.int .i64) ?_,hF.same⟩;unfold Vd;simp_all;refine rn 7 ⟨λhc1=>?_,λhc1=>?_⟩;refine rn 6 ⟨yQ (Value.int .i64) ?_,hF.same⟩;unfold Vd;simp_all;refine rn 7 ⟨λhc2=>?_,λhc2=>?_⟩;refine rn 6 ⟨yQ (Value.int .i64) ?_,hF.same⟩;unfold Vd;simp_all;refine rn 9 ⟨yQ (Value.int .i64) ?_,hF.same⟩;unfold Vd;simp_all;refine rn 13 ⟨λhc1=>?_,λhc1=>?_⟩;refine rn 6 ⟨yQ (Value.int .i64) ?_,hF.same⟩;unfold Vd;simp_all;refine rn 7 ⟨λhc2=>?_,λhc2=>?_⟩;refine rn 6 ⟨yQ (Value.int .i64) ?_,hF.same⟩;unfold Vd;simp_all;refine rn 9 ⟨yQ (Value.int .i64) ?_,hF.same⟩;unfold Vd;simp_all
end Go.Scarf
