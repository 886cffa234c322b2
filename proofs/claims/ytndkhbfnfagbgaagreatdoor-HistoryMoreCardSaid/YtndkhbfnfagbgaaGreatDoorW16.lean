/- A part of the proof. -/
import Derived.Test.YtndkhbfnfagbgaaGreatDoorW10
import Derived.Test.YtndkhbfnfagbgaaGreatDoorIter
set_option linter.all false
set_option maxHeartbeats 8000000
set_option maxRecDepth 10000
namespace Go.Scarf
open Go.RowKit Go.Proofs Go.Proofs.Tryz
mutual
def Lo:Tree->Nat|.node _ _ ks xs=>ks.length+Qn xs
def Qn:List Tree->Nat|[]=>0|x::xs=>Lo x+Qn xs
end
theorem Z7:∀{xs:List Tree}{x:Tree},x∈xs->Lo x<=Qn xs
  | [],_,h=>absurd h Da
  | y :: ys, x, h => by
    rw[Qn];rcases oQ.1 h with rfl|h
    ·omega
    have:=Z7 h;omega
theorem NJ{xs:List Tree}{j:Nat}(h:j<xs.length):Gd (xs.take (j+1))=Gd (xs.take j)++[Zb xs[j]]:=by
  rw[iQ h,Be,Be,jQ];rfl
theorem DG{xs:List Tree}{j:Nat}(h:j<xs.length):Gd (xs.drop j)=Zb xs[j]::Gd (xs.drop (j+1)):=by
  rw[List.drop_eq_getElem_cons h];rfl
theorem RepL.lits{S S':Nat->Prop}{w w':World}:∀{ks:List Str}{cs:List Value},RepL S w (ks.map Dq) cs->RepL S' w' (ks.map Dq) cs
  | [],cs,h=>by have:=RepL.nil_inv h;subst this;exact RepL.nil_mk
  | k :: ks, cs, h => by
    obtain⟨c1,c2,rfl,h1,h2⟩:=RepL.cons_inv h;obtain⟨rfl,h3⟩:=Rep.lit_inv h1;exact RepL.cons_mk (Rep.lit_mk h3) (RepL.lits h2)
def Lie(w:World)(A:Option Addr)(n:Nat)(es:List Value):Prop:=n≠0->∃ad,A=some ad/\∀j (hj:j<es.length),w.cell? (ad.add j)=some es[j]
theorem Lie.ext{w w':World}{A:Option Addr}{n:Nat}{es:List Value}(h:Lie w A n es)(hs:Same [] w w'):Lie w' A n es:=λhn=>by
  obtain⟨ad,hA,hc⟩:=h hn;exact⟨ad,hA,λj hj=>((FR.start w []).ext hs).cells0 hc j hj⟩
def D1(e m n:Nat)(es:List Value)(w0:World)(v:Value)(w':World):Prop :=
  ∃A c sb,v=.slice A n c/\SlB e m A n c es sb/\(∀p∈sb,w'.heap[p.1]? = some p.2/\w0.heap.size<=p.1)/\Same [] w0 w'
theorem Rep.slice_open{S:Nat->Prop}{w:World}{ds:List D}{A:Option Addr}{n c m:Nat}(h:Rep S w (.slice ds) [.slice A n c])(hm:∀d∈ds,Wd d=m) :
    ∃es,RepL S w ds es/\es.length=n*m/\Lie w A n es:=by
  have hl:=h.slice_len;obtain⟨A',c',hA,_,_,hr⟩:=Rep.slice_inv h;simp only[List.cons.injEq,Value.slice.injEq,and_true]at hA;obtain⟨rfl,_,_⟩:=hA;have hsz:∀ds:List D,(∀d∈ds,Wd d=m)->Wd.sizeL ds=ds.length*m:=by
    intro ds
    induction ds with
    | nil=>intro _;simp[Wd.sizeL]
    | cons d ds ih=>intro h;rw[Wd.sizeL,h d Da,ih (λx hx=>h x (by simp[hx])),kQ,Nat.add_mul];omega
  by_cases hne:ds=[]
  ·subst hne
   exact⟨[],RepL.nil_mk,by simp[hl.1],λh=>absurd hl.1 (by simpa using h)⟩
  obtain⟨ad, rfl, es, hc, hr⟩ := hr hne;exact⟨es,hr,by rw[hr.length,hsz ds hm,hl.1],λ_=>⟨ad,O,λj hj=>(hc j hj).1⟩⟩
theorem O4(ks:List Str):∀d∈ks.map Dq,Wd d=1:=λd hd=>by obtain⟨k,_,rfl⟩:=nQ.1 hd;rfl
theorem LM(xs:List Tree):∀d∈Gd xs,Wd d=4:=λd hd=>by rw[Be]at hd;obtain⟨k,_,rfl⟩:=nQ.1 hd;exact Tc k
theorem FR.sbown{w0 w:World}{pre sb post:List (Nat × Obj)}(h:FR w0 [] (pre++(sb++post)) w):∀p∈sb,w.heap[p.1]? = some p.2/\w0.heap.size<=p.1:=λp hp=>by
  have:=h.own p (by simp[hp]);refine⟨this.1,?_⟩;rcases this.2 with h|h
  ·exact h
  cases h
theorem SlB.soft{e m n c:Nat}{A:Option Addr}{es:List Value}{sb:List (Nat × Obj)}{w:World}(h:SlB e m A n c es sb)(hb:∀p∈sb,w.heap[p.1]? = some p.2):∀p∈sb,Soft w p.1:=λp hp=>by
  have h2:∃cur,p=(p.1,.cells cur e):=by
    rcases h.2 with ⟨-,-,rfl⟩|⟨g,cur,-,rfl,-⟩
    ·cases hp
    simp only[pQ]at hp;subst hp;exact⟨cur,rfl⟩
  obtain⟨cur,h2⟩:=h2;have:=hb p hp;rw[h2]at this;exact⟨cur,e,this⟩
theorem SlB.btw{e m n c:Nat}{A:Option Addr}{es:List Value}{sb:List (Nat × Obj)}{w w':World}{ds:List D}(h:SlB e m A n c es sb)(hb:∀p∈sb,w'.heap[p.1]? = some p.2/\w.heap.size<=p.1)(hr:RepL (Btw w w') w' ds es)(hn:ds.length=n):Rep (Btw w w') w' (.slice ds) [.slice A n c] :=
  h.repOf (λp hp=>⟨(hb p hp).1,(hb p hp).2,Ma (hb p hp).1,h.soft (λp hp=>(hb p hp).1) p hp⟩) hr hn
theorem Y5{S:Nat->Prop}{w0 w w':World}{ks:List Str}{es:List Value}{v:Value}(h:D1 9 1 ks.length es w v w')(hr:RepL S w0 (ks.map Dq) es):∃A c,v=.slice A ks.length c/\Rep (Btw w w') w' (Xd ks) [.slice A ks.length c]/\Same [] w w':=by
  obtain⟨A,c,sb,rfl,hS,hb,hE⟩:=h;exact⟨A,c,O,hS.btw hb hr.lits Da,hE⟩
theorem L4(len:Nat)(A:Option Addr)(c:Nat)(es:List Value)(w0:World)(hel:es.length=len*1)(hcell:Lie w0 A len es)(ho:∀v∈es,one v=true)(hb:len<=8796093022208):Calls prog 63 #[.slice A len c] w0 (Td λv w'=>D1 9 1 len es w0 v w'):=by
 refine Ga func63 O ntmps63 Fb (Ad _) ?_;have hF:=FR.start w0 [];refine Ja (Ca (Qg O) (Ea (Ha (Ja (Ca (Pd O) (Ka (v:=.bool ((A).isNone)) (Vz dX O O) (Ea ?_)))))));refine Uf O O (λhc0=>?_) (λhc0=>?_);have hA:A=none:=by simpa using hc0
 refine Ja (Ca (Qg O) (Ea ?_));refine Qd (v:=.slice _ _ _) O O ?_;have h0:len=0:=by rcases Nat.eq_zero_or_pos len with h|h;exact h;obtain⟨ad,hh,_⟩:=hcell sX;rw[hA]at hh;cases hh
 have hes:es=[]:=List.eq_nil_of_length_eq_zero (by rw[hel,h0,Nat.zero_mul]);subst hes;exact⟨none,0,[],by rw[h0],by rw[h0];exact SlB.nil _ _,by simp,hF.same⟩;refine Ta (Ia (Ja ?_));refine Pf 0 hF (Ws dX uZ) ?_;rintro b1 w hb1 hF -;have hS0:SlB 9 1 (some ⟨b1,0,none⟩) 0 0 [] [(b1,.cells #[] 9)]:=⟨by simp,.inr ⟨b1,#[],rfl,rfl,gQ _,Nat.zero_le _,by simp,by simp⟩⟩;refine Ca (Pd O) ?_;refine Kw [] [] (news:=es) (len':=0+len) (ys:=[]++es) Zr hF hS0 rfl rfl (by rw[hel]) (λhk=>by obtain⟨ad,hA,hc⟩:=hcell hk;exact⟨ad,hA,Ob (hF.cells0 hc)⟩) (Px ho) (by simp only[maxLen];omega) (rfl) (rfl) sX ?_;intro A0 c0 a_0 w hS0_a hF hE hnew;refine Ca (Qg O) (Ea ?_);refine Qd (v:=.slice _ _ _) O O ?_;simp only[Nat.zero_add,List.nil_append]at *;exact⟨_,_,_,O,by assumption,hF.sbown (pre:=[]) (post:=[]),hF.same⟩
theorem LU(len:Nat)(A:Option Addr)(c:Nat)(es:List Value)(w0:World)(hel:es.length=len*4)(hcell:Lie w0 A len es)(ho:∀v∈es,one v=true)(hb:len<=1000000000):Calls prog 64 #[.slice A len c] w0 (Td λv w'=>D1 27 4 len es w0 v w'):=by
 refine Ga func64 O ntmps64 Fb (Ad _) ?_;have hF:=FR.start w0 [];refine Ja (Ca (Qg O) (Ea (Ha (Ja (Ca (Pd O) (Ka (v:=.bool ((A).isNone)) (Vz fX O O) (Ea ?_)))))));refine Uf O O (λhc0=>?_) (λhc0=>?_);have hA:A=none:=by simpa using hc0
 refine Ja (Ca (Qg O) (Ea ?_));refine Qd (v:=.slice _ _ _) O O ?_;have h0:len=0:=by rcases Nat.eq_zero_or_pos len with h|h;exact h;obtain⟨ad,hh,_⟩:=hcell sX;rw[hA]at hh;cases hh
 have hes:es=[]:=List.eq_nil_of_length_eq_zero (by rw[hel,h0,Nat.zero_mul]);subst hes;exact⟨none,0,[],by rw[h0],by rw[h0];exact SlB.nil _ _,by simp,hF.same⟩;refine Ta (Ia (Ja ?_));refine Pf 0 hF (Ws fX oZ) ?_;rintro b1 w hb1 hF -;have hS0:SlB 27 4 (some ⟨b1,0,none⟩) 0 0 [] [(b1,.cells #[] 27)]:=⟨by simp,.inr ⟨b1,#[],rfl,rfl,gQ _,Nat.zero_le _,by simp,by simp⟩⟩;refine Ca (Pd O) ?_;refine Kw [] [] (news:=es) (len':=0+len) (ys:=[]++es) C2 hF hS0 rfl rfl (by rw[hel]) (λhk=>by obtain⟨ad,hA,hc⟩:=hcell hk;exact⟨ad,hA,Ob (hF.cells0 hc)⟩) (Px ho) (by simp only[maxLen];omega) (rfl) (rfl) sX ?_;intro A0 c0 a_0 w hS0_a hF hE hnew;refine Ca (Qg O) (Ea ?_);refine Qd (v:=.slice _ _ _) O O ?_;simp only[Nat.zero_add,List.nil_append]at *;exact⟨_,_,_,O,by assumption,hF.sbown (pre:=[]) (post:=[]),hF.same⟩
def NewC(F:Nat)(args:Array Value)(d:D)(w0:World):Prop:=Calls prog F args w0 (Td λv w'=>∃ct:List Value,v=.agg ct.toArray/\Rep (Btw w0 w') w' d ct/\Same [] w0 w')
def AM(x:Tree):Prop:=∀S w0 cs,Rep S w0 (Zb x) cs->Wb x<=1000000000->(Lo x<=8796093022208)->NewC 38 #[.agg cs.toArray] (Zb x) w0
theorem AN(k:Int)(t:Str)(ks:List Str)(xs:List Tree)(ih:∀x,x∈xs->AM x):AM (.node k t ks xs):=by
 intro S w0 cs hR hsz hky;rw[Wb]at hsz;rw[Lo]at hky;have hxn:=Mj xs;obtain⟨A,c,B,e,rfl,hk,ht,hK,hX⟩:=hR.tree_inv;obtain⟨eK,hrK,hKl,hKc⟩:=hK.slice_open (O4 ks);obtain⟨eX,hrX,hXl,hXc⟩:=hX.slice_open (LM xs);refine Ga func38 O ntmps38 Fb (Ad _) ?_;have hF:=FR.start w0 [];refine Ja (Ve hF O ?_);rintro b1 w hb1 hF -;refine Od (cs:=#[J 0,I [],aQ,aQ]) hF nX O ?_;rintro b2 w hb2 hF -;refine Ea (Ha ?_);refine If (zs:=.of [9,7]) (bQ [0,1,3,4] (.act 2 (.free 6 (.act 5 (.act 7 (.free 8 (.act 9 .nil))))))) hF ?_;intro w hF;refine Hb O (Xb Of O) (Hl O (Rf xQ O C0 1 O O) (Hb O (Xb Jc O) (Hl O (Rf yQ O C0 1 O O) ?_)));refine Qb O (L4 ks.length A c eK _ hKl (Lie.ext hKc hF.same) hrK.one_ sX) (Ra en_63 O O) ?_;rintro _ w hcl;obtain⟨A1,c1,rfl,hK1,hE⟩:=Y5 hcl hrK;have hKX:=RX.made (ids:=[b2,b1]) hF.same.size (λx hx=>hF.lt_ids (by grind)) hK1;have hF:=hF.ext hE;clear hE hcl hK1;refine⟨hF,?_⟩;refine Hb O (Xb Of O) (Qb O (LU xs.length B e eX _ hXl (Lie.ext hXc hF.same) hrX.one_ sX) (Ra en_64 O O) ?_);rintro _ w ⟨A2,c2,sb2,rfl,hS2,hh2,hE⟩;have hKX:=hKX.step (ids':=[b2,b1]++sb2.map (·.1)) hE Da (λx hx=>by rcases mQ.1 hx with hx|hx;exact .inl hx;obtain⟨p,hp,rfl⟩:=nQ.1 hx;exact .inr (hh2 p hp).2);have hF:=hF.extseg hE hh2 hS2.pw;refine⟨hF.mid 0 2,?_⟩;refine YU (.slice _ _ _) O hF mZ O O Yt.app CA ?_;intro w hF hE;have hKX:=hKX.store hE (by grind);refine Hb O (Xb Jc O) (YU (.slice _ _ _) O hF sizeOf25 O O Yt.app YK ?_);intro w hF hE;have hKX:=hKX.store hE (by grind);refine Ec (Ia (Ha (Ja (Ca (Xb Jc O) (Yc (Rf yQ O hF.F 1 O O) (Ca (Ye fX O) (Ca (Kb O) (Ea (Va ?_)))))))));refine Rc (λμ σ w=>∃(j:Nat),∃(dn:List Value),∃(rs:List Value),∃(sb:List (Nat × Obj)),μ=xs.length-j/\(j<=xs.length)/\(SlB 27 4 A2 xs.length c2 (dn++rs) sb)/\(dn.length=j*4)/\(RepL S w0 (Gd (xs.drop j)) rs)/\(RX w0 ([b2,b1]++sb.map (·.1)) w (Gd (xs.take j)) dn)/\(RX w0 ([b2,b1]++sb.map (·.1)) w [Xd ks] [.slice A1 ks.length c1])/\AllEq σ [(1,V b1),(2,V b2),(14,.slice A2 xs.length c2),(15,J ((xs.length:Nat))),(16,J ((j:Int)))]/\FR w0 [] ([(b2,.cells #[J 0,I [],aQ,aQ] 27),(b1,.cells #[J k,I t,.slice A1 ks.length c1,.slice A2 xs.length c2] 27)]++(sb++[])) w) _ ⟨0,[],eX,sb2,O,(Nat.zero_le _),(hS2),(O),(by simpa using hrX),(RX.nil),(hKX),Yx,hF⟩ ?_
 rintro μ σ w ⟨j,dn,rs,sb,rfl,hj,hS,hd,hrr,hDX,hKX,hs,hF⟩;refine Cg.slots hs ?_;clear hs;intro σ;refine Ja (Ca (Kl O O) (Ea (Ha ?_)));refine Pc O O (λhc0=>?_) (λhc0=>?_);refine Ta (Ia (Ha (Va (Ja (Ca (Kb O) ?_)))));have hjx:j<xs.length:=by omega
 rw[DG hjx]at hrr;obtain⟨c1_,c2_,rfl,hr1,hr2⟩:=RepL.cons_inv hrr;have hl1:c1_.length=4:=hr1.length.trans (Tc _);have ho1:=hr1.one_;obtain⟨ad0,hA0,hk0⟩:=hS.elemMid (pre:=[(b2,.cells #[J 0,I [],aQ,aQ] 27),(b1,.cells #[J k,I t,.slice A1 ks.length c1,.slice A2 xs.length c2] 27)]) (post:=[]) (pr:=dn) (mid:=c1_) (po:=c2_) hF (j:=j) hd hl1 (hjx);refine Ka (v:=.pointer (some (ad0.add (j*4)))) (Pa (i:=(j:Int)) Hj O hA0 O sX sX) (Ka (v:=.agg (List.toArray c1_)) (Ya (l:=c1_) aZ oZ O hl1 hk0) ?_);refine Od (cs:=#[J 0,I [],aQ,aQ]) hF nX O ?_;intro b3 w hb3 hF hE;have hKX:=hKX.alloc hE hb3;have hDX:=hDX.alloc hE hb3;refine Ca (Sc O) ?_;refine Zf 0 (l:=c1_) (cs':=(List.toArray c1_)) hF (by rw[hl1];exact oZ) O (v:=.agg (List.toArray c1_)) O O (ho1) O (by rw[hl1];exact Nat.le_of_ble_eq_true O) (El (by rw[hl1];rfl)) ?_;intro w hF hE;have hKX:=hKX.store hE (by grind);have hDX:=hDX.store hE (by grind);refine Ea (Id (.of [6]) (bQ [0,1,2,3] (.act 4 (.free 5 (.act 6 .nil)))) hF ?_);intro w hF hE;have hKX:=hKX.ext hE;have hDX:=hDX.ext hE;refine⟨λwq=>FR w0 [] [(b3,.cells (List.toArray c1_) 27),(b2,.cells #[J 0,I [],aQ,aQ] 27),(b1,.cells #[J k,I t,.slice A1 ks.length c1,.slice A2 xs.length c2] 27)] wq,hF.mid 0 3,?_⟩;refine Hb O (Xb Jc O) (Hl O (Rf yQ O C0 2 O O) (Hb O (Kb O) (Qa O (v:=.agg (List.toArray c1_)) (λw hC=>Ya (l:=c1_) aZ oZ O hl1 (hC.cellsAll 0 O)) ?_)));refine Qb O (ih xs[j] (eQ hjx) S _ c1_ (hF.rep hr1) (by have:=Uh (eQ hjx);omega) (by have:=Z7 (eQ hjx);omega)) (Ra ZQ O O) ?_;rintro _ w ⟨ct,rfl,hRt,hE⟩;have hlt:ct.length=4:=hRt.length.trans (Tc _);have hot:=hRt.one_;have hYX:=RX.made (ids:=b3::([b2,b1]++sb.map (·.1))) hF.same.size (λx hx=>hF.lt_ids (by grind)) hRt;have hKX:=hKX.ext hE;have hDX:=(hDX.ext hE).append hYX;have hF:=hF.ext hE
 clear hE hYX;refine⟨hF.mid 0 3,?_⟩;obtain⟨ad1,hA1,hk1⟩:=hS.elemMid (pre:=[(b3,.cells (List.toArray c1_) 27),(b2,.cells #[J 0,I [],aQ,aQ] 27),(b1,.cells #[J k,I t,.slice A1 ks.length c1,.slice A2 xs.length c2] 27)]) (post:=[]) (pr:=dn) (mid:=c1_) (po:=c2_) hF (j:=j) hd hl1 (hjx);refine Qa O (v:=.pointer (some (ad1.add (j*4)))) (λw hC=>Pa (i:=(j:Int)) Hj O hA1 O sX sX) (JV [(b3,.cells (List.toArray c1_) 27),(b2,.cells #[J 0,I [],aQ,aQ] 27),(b1,.cells #[J k,I t,.slice A1 ks.length c1,.slice A2 xs.length c2] 27)] [] O hF (pr:=dn) (mid:=c1_) (po:=c2_) (new:=ct) (j:=j) hS hd hl1 hA1 (hjx) oZ O (v:=.agg (List.toArray ct)) O O hlt hot ?_);intro i_2 w hS2_i hF hE hids;have hKX:=hKX.store hE (by grind);have hDX:=hDX.store hE (by grind);refine Ec (Ib (Ia (Fa (Ca (Um O O) (Ca (Kb O) (Db ?_))))));refine Yb ⟨_,?_,j+1,dn++ct,c2_,i_2,O,(hjx),(by simpa using hS2_i),(by rw[dQ,hd,hlt];omega),(hr2),(by rw[NJ hjx,hids];exact hDX.sub (λx hx=>List.mem_cons_of_mem _ hx)),(by rw[hids];exact hKX.sub (λx hx=>List.mem_cons_of_mem _ hx)),Yx,hF.drop 1⟩;omega;refine Nc (Kc O ?_);refine Ia (Ja (Yc (Ch aZ oZ O hF.F 1 O O) ?_));refine Qf hF oZ O O Mh.app ?_;intro w hF hE;have hKX:=hKX.store hE (by grind);have hDX:=hDX.store hE (by grind);refine Ea (Cc (Bc (Sa (Ig O (l:=[J k,I t,.slice A1 ks.length c1,.slice A2 xs.length c2]) O aZ oZ O (hF.cellsAll 0 O)) ?_)));have ej:j=xs.length:=by omega
 subst ej;rw[List.take_length]at hDX;have e0:rs=[]:=by rw[List.drop_length]at hrr;exact RepL.nil_inv hrr
 subst e0;rw[qQ]at hS;refine⟨_,O,?_,hF.same⟩
 ·exact Rep.tree_mk hk ht hKX.done (hS.rep (pre:=[_,_]) (post:=[]) hF hDX Da)
theorem SF(x:Tree):AM x:=Tree.ind AN x
mutual
def Zi:Tree->Tree
  | .node k t ks xs=>if k=6 then .node k t (Cn ks) ((Cn ks).map λkey=>(De ks (Ih xs) key).getD (.node 0 [] [] [])) else .node k t [] (Ih xs)
def Ih:List Tree->List Tree
  | []=>[]
  | x::xs=>Zi x::Ih xs
end
theorem Bn:∀xs:List Tree,Ih xs=xs.map Zi
  | []=>rfl
  | x::xs=>by rw[Ih,Bn xs,List.map_cons]
theorem X9{key:Str}{y:Tree}:∀{ks:List Str}{xs:List Tree},De ks xs key=some y->De ks (Ih xs) key=some (Zi y)
  | [],xs,h=>by cases xs <;> cases h
  | k::ks,[],h=>by cases h
  | k :: ks, x :: xs, h => by
    rw[Ih,De];rw[De]at h;by_cases he:k=key
    ·rw[if_pos he]at h ⊢;injection h with h;rw[h]
    rw[if_neg he]at h ⊢;exact X9 h
theorem BL{S:Nat->Prop}{w:World}{key:Str}{ks:List Str}{xs:List Tree}{l:MapL}(hk:l.map (·.1)=ks)(hm:MapRep S w xs l)(hin:key∈ks) :
    ∃(cs:List Value)(y:Tree),Lg l key=some (.agg cs.toArray)/\De ks xs key=some y/\y∈xs/\Rep S w (Zb y) cs:=by
  rcases Uu key hk hm with ⟨h,-⟩|h
  ·exfalso
   rw[<-hk]at hin;obtain⟨x,hx,hxe⟩:=nQ.1 hin;unfold Lg at h;rw[Option.map_eq_none_iff,List.find?_eq_none]at h;exact h x hx (by simpa using hxe)
  exact h
theorem MapRep.back{S:Nat->Prop}{w0 w:World}{xs:List Tree}{l:MapL}(h:MapRep (Old S w0) w xs l)(hs:Same [] w0 w):MapRep (Old S w0) w0 xs l:=λi hi=>by
  obtain⟨cs,h1,h2,h3⟩:=h i hi;exact⟨cs,h1,h2,h3.back hs⟩
def KeysAt(w1:World)(bk m:Nat)(l:MapL):Prop:=∃W:World,w1=W.alloc (.cells #[.map (some m)] 155)/\bk=W.heap.size/\W.heap[m]? = some (Ji l)
theorem keys_c(m:Nat)(l:MapL)(w:World)(hm:w.heap[m]? = some (Ji l)):Calls prog 266 #[.map (some m)] w (Td λv w'=>∃bk,v=.func (.func 278) #[] #[V bk]/\KeysAt w' bk m l/\Same [] w w') :=
  (callsIn_wide.1 (maps_Keys_266 (some m) w)).mono λ_ _ ⟨he,hw⟩=>⟨_,he,w.heap.size,rfl,⟨w,hw,rfl,hm⟩,by rw[hw];exact Same.alloc w _⟩
theorem ZE(bk m:Nat)(l:MapL)(ks:List Str)(w:World)(h:KeysAt w bk m l)(hk:l.map (·.1)=ks)(hn:ks.Nodup)(hb:ks.length<=1000000000)(hs:∀s∈ks,s.length<=140737488355328) :
    Calls prog 159 #[.func (.func 278) #[] #[V bk]] w (Td λv w'=>∃A c,v=.slice A ks.length c/\Rep (Btw w w') w' (Xd (Cn ks)) [.slice A ks.length c]/\Same [] w w'):=by
  obtain⟨W,rfl,rfl,hm⟩:=h;have hl:l.length=ks.length:=by rw[<-hk,rQ]
  obtain⟨D0,hown,hperm,hsz⟩:=EM (P:=prog) kX hm (by rw[hk];exact hn) (λx hx=>by have:=hs x.1 (by rw[<-hk];exact List.mem_map_of_mem hx);simp only[maxLen];omega) (by simp only[maxLen];omega);refine (callsIn_wide.1 (slices_Sorted_keys_159_266 m l.length D0 _ W hown (by rw[hsz];simp only[maxLen];omega) (by rw[hsz];omega))).mono ?_;rintro e w' ⟨v,ss,rfl,hp,hrow,-,hbel⟩;have hpk:ss.Perm ks:=by rw[<-hk];exact hp.trans hperm
  have e1:(ss.mergeSort λx y=>decide (x<=y))=Cn ks:=BA hpk;rw[e1]at hrow;have e2:ss.length=(Cn ks).length:=by rw[Wj];exact hpk.length_eq
  rw[e2]at hrow;obtain⟨A,c,rfl,hr⟩:=DY (S:=Btw (W.alloc (.cells #[.map (some m)] 155)) w') 9 hrow (λg h1 h2 h3=>⟨h1,h2,h3⟩) (λs hs'=>by have:=hs s (J3.1 hs');omega);rw[Wj]at hr;exact⟨_,O,A,c,by rw[Wj],hr,.of_below hbel⟩
def AF(x:Tree):Prop:=∀S w0 cs,Rep S w0 (Zb x) cs->Yz x->Af nodeB x=true->Wb x<=1000000000->NewC 235 #[.agg cs.toArray] (Zb (Zi x)) w0
theorem HH{xs:List Tree}{j:Nat}(h:j<xs.length):Gd (Ih (xs.take (j+1)))=Gd (Ih (xs.take j))++[Zb (Zi xs[j])]:=by
  rw[iQ h,Be,Be,Bn,Bn,jQ,jQ];rfl
def SA(ks:List Str)(xs:List Tree):List Tree:=(Cn ks).map λkey=>(De ks (Ih xs) key).getD (.node 0 [] [] [])
theorem K_(ks:List Str)(xs:List Tree):(SA ks xs).length=ks.length:=by rw[SA,rQ,Wj]
theorem AV{ks:List Str}{xs:List Tree}{j:Nat}{y:Tree}(h:j<(Cn ks).length)(hy:De ks xs (Cn ks)[j]=some y):Gd ((SA ks xs).take (j+1))=Gd ((SA ks xs).take j)++[Zb (Zi y)]:=by
  have h':j<(SA ks xs).length:=by rw[K_,<-Wj];exact h
  rw[iQ h',Be,Be,jQ];simp only[SA,List.getElem_map,X9 hy,Option.getD_some];rfl
theorem KJ(k:Int)(t:Str)(ks:List Str)(xs:List Tree)(ih:∀x,x∈xs->AF x):AF (.node k t ks xs):=by
 intro S w0 cs hR hok hnx hsz;have hR:=hR.old;rw[Yz]at hok;rw[Wb]at hsz;have hxn:=Mj xs;have hnx:=Lf hnx;obtain⟨A,c,B,e,rfl,hk,ht,hK,hX⟩:=hR.tree_inv;have hXl:=hX.slice_len;have hKn:k=6->ks.length=xs.length:=λe=>(Mp (e▸hnx.1)).2;refine Ga func235 O ntmps235 Fb (Ad _) ?_;have hF:=FR.start w0 [];refine Ja (Ve hF O ?_);rintro b1 w hb1 hF -;refine Od (cs:=#[J 0,I [],aQ,aQ]) hF nX O ?_;rintro b2 w hb2 hF -;refine Fc (Ca (Xb Wh O) (Yc (Xs bZ O hF.F 1 O O) (Ca (Xb Vh O) (Yc (Wy fZ O hF.F 1 O O) ?_))));refine Ka (w':=w) (v:=.agg #[J k,I t,aQ,aQ]) Mb (Kh hF nX oZ O ?_);rintro b3 w hb3 hF -;refine Ea (Ha (Ja (Ca (Xb Wh O) (Yc (Xs bZ O hF.F 2 O O) (Ca (Mz O O) (Ea ?_))))));refine Pc O O (λhc0=>?_) (λhc0=>?_);refine Ha (Ja (Ca (Xb Jc O) (Yc (Rf yQ O hF.F 2 O O) (Ca (Ye fX O) (Ca (Kb O) (Ea (Va ?_)))))));refine Rc (λμ σ w=>∃(j:Nat),∃(A1:Option Addr),∃(c1:Nat),∃(sb:List (Nat × Obj)),∃(cs1:List Value),μ=xs.length-j/\(j<=xs.length)/\(SlB 27 4 A1 j c1 cs1 sb)/\(RX w0 ([b3,b2,b1]++sb.map (·.1)) w (Gd (Ih (xs.take j))) cs1)/\AllEq σ [(2,V b2),(3,V b3),(18,.slice B xs.length e),(19,J ((xs.length:Nat))),(20,J ((j:Int)))]/\FR w0 [] ([(b3,.cells #[J k,I t,aQ,.slice A1 j c1] 27),(b2,.cells #[J 0,I [],aQ,aQ] 27),(b1,.cells #[J k,I t,.slice A ks.length c,.slice B xs.length e] 27)]++(sb++[])) w) _ ⟨0,none,0,[],[],O,(Nat.zero_le _),(SlB.nil _ _),(RX.nil),Yx,hF⟩ ?_;rintro μ σ w ⟨j,A1,c1,sb,cs1,rfl,hj,hS,hDX,hs,hF⟩;refine Cg.slots hs ?_;clear hs;intro σ;refine Ja (Ca (Kl O O) (Ea (Ha ?_)));refine Pc O O (λhc1=>?_) (λhc1=>?_);refine Ta (Ia (Ha (Va (Ja ?_))));obtain⟨ad0,cs0,hA0,hl0,hk0,hx0⟩:=hX.tree_elem (i:=j) sX;have ho0:=hx0.one_;refine Ka (v:=.pointer (some (ad0.add (j*4)))) (Pa (i:=(j:Int)) Hj O hA0 O sX sX) (Ka (v:=.agg (List.toArray cs0)) (Ya (l:=cs0) aZ oZ O hl0 (hF.cells0 hk0)) ?_)
 refine Nw (l:=cs0) hF nX (by rw[hl0];exact oZ) (by rw[hl0];rfl) (v:=.agg (List.toArray cs0)) O O (ho0) O ?_;intro b4 w hb4 hF hE;have hDX:=hDX.alloc hE hb4;refine Ea (Id (.of [7]) (bQ [0,1,2] (cQ [3,4,5] (.free 6 (.act 7 .nil)))) hF ?_);intro w hF hE;have hDX:=hDX.ext hE;refine⟨λwq=>FR w0 [] [(b4,.cells (List.toArray cs0) 27),(b3,.cells #[J k,I t,aQ,.slice A1 j c1] 27),(b2,.cells #[J 0,I [],aQ,aQ] 27),(b1,.cells #[J k,I t,.slice A ks.length c,.slice B xs.length e] 27)] wq,hF.mid 0 4,?_⟩;refine Hb O (Xb Jc O) (Hl O (Rf yQ O C0 1 O O) (Qa O (v:=.agg (List.toArray cs0)) (λw hC=>Ya (l:=cs0) aZ oZ O hl0 (hC.cellsAll 0 O)) ?_));refine Qb O (ih xs[j] (eQ sX) _ _ cs0 (hF.rep hx0) (Ww hok.2.2 _ (eQ sX)) (hnx.2 _ (eQ sX)) (by have:=Uh (List.getElem_mem (l:=xs) (n:=j) sX);omega)) (Ra BO O O) ?_;rintro _ w ⟨ct,rfl,hRt,hE⟩;have hlt:ct.length=4:=hRt.length.trans (Tc _);have hot:=hRt.one_;have hYX:=RX.made (ids:=[b4,b3,b2,b1]++sb.map (·.1)) hF.same.size (λx hx=>hF.lt_ids (by grind)) hRt;have hDX:=(hDX.ext hE).append hYX;have hF:=hF.ext hE;clear hE hYX;refine⟨hF.mid 0 4,?_⟩;refine Fe 1 O hF (My (l:=ct) fX oZ nX Ua Ua O hlt) ?_;intro b5 w hb5 hF hE;have hDX:=hDX.alloc hE hb5;refine⟨hF.mid 1 4,?_⟩;refine NH (news:=ct) (len':=j+1) (ys:=cs1++ct) O C2 hF hS O O (by rw[hlt]) (λ_=>⟨_,O,Ob (hF.cellsAll 0 O)⟩) (Px hot) (by simp only[maxLen];omega) (O) (O) sX ?_;intro A1 c1 i_1 w hS1_i hF hE hnew;have hDX:=hDX.app (l:=[b5,b4,b3,b2,b1]) hE hnew;refine⟨hF.mid 1 4,?_⟩;refine Hb O (Xb Jc O) (YU (.slice _ _ _) O hF sizeOf25 O O CA.app YK ?_);intro w hF hE;have hDX:=hDX.store hE (by grind);refine Ec (Ib (Ia (Fa (Ca (Um O O) (Ca (Kb O) (Db ?_))))));refine Yb ⟨_,?_,j+1,A1,c1,i_1,cs1++ct,O,sX,(by assumption),(by rw[HH sX];exact hDX.sub (by grind)),Yx,hF.drop 2⟩
 omega;refine Nc (Kc O ?_);refine Ia (Ja (Yc (Ch aZ oZ O hF.F 0 O O) ?_));refine Qf hF oZ O O Yt.app ?_;intro w hF hE;have hDX:=hDX.store hE (by grind);refine Ea (Cc (Bc (Sa (Ig O (l:=[J k,I t,aQ,.slice A1 j c1]) O aZ oZ O (hF.cellsAll 1 O)) ?_)));have ej:j=xs.length:=by omega
 subst ej;rw[List.take_length]at hDX;refine⟨_,O,?_,hF.same⟩;rw[Zi,if_neg hc0];exact Rep.tree_mk hk ht (Rep.nil_slice 0 sX none) (hS.rep (pre:=[_,_,_]) (post:=[]) hF hDX (by rw[Hi,Bn,rQ]));refine Ta (Ia (Ja (Yc (Ch aZ oZ O hF.F 2 O O) ?_)));have k6:k=6:=by simpa using hc0
 refine Cb (Ay k t ks xs (Mp (k6▸hnx.1)).1 (Mp (k6▸hnx.1)).2 _ _ _ (hF.rep hR)) (Ra ME O O) ?_;rintro _ w ⟨m1,l1,rfl,hge,hm1,hk1,hr1,hE⟩;have hF:=hF.cons_ext hE hm1 hge;have hr1:=hr1.back hF.same;clear hE hm1 hge;refine Ca (Ry) (Fc (Ca (Mr) ?_));refine Cb (keys_c m1 l1 _ (hF.heap (i:=0) O)) (Ra en_266 O O) ?_;rintro _ w ⟨bk,rfl,hKA,hE⟩;have hF:=hF.ext hE;refine Cb (ZE bk m1 l1 ks _ hKA hk1 (Mp (k6▸hnx.1)).1 sX hok.2.1) (Ra en_159 O O) ?_;rintro _ w ⟨A2,c2,rfl,hK2,hE⟩;have hKX:=RX.made (ids:=[m1,b3,b2,b1]) hF.same.size (λx hx=>hF.lt_ids (by grind)) hK2;have hF:=hF.ext hE;clear hE hK2;refine Ca (Xb Of O) (Cp (.slice _ _ _) hF mZ O O Yt CA ?_);intro w hF hE;have hKX:=hKX.store hE (by grind);refine Ea (Ha (Ja (Ca (Xb Of O) (Yc (Rf xQ O hF.F 1 O O) (Ca (Ye dX O) (Ca (Kb O) (Ea (Va ?_))))))));refine Rc (λμ σ w=>∃(j:Nat),∃(A1:Option Addr),∃(c1:Nat),∃(sb:List (Nat × Obj)),∃(cs1:List Value),μ=ks.length-j/\(j<=ks.length)/\(SlB 27 4 A1 j c1 cs1 sb)/\(RX w0 ([m1,b3,b2,b1]++sb.map (·.1)) w (Gd ((SA ks xs).take j)) cs1)/\(RX w0 ([m1,b3,b2,b1]++sb.map (·.1)) w [Xd (Cn ks)] [.slice A2 ks.length c2])/\AllEq σ [(2,V b2),(3,V b3),(6,.map (some m1)),(40,.slice A2 ks.length c2),(41,J ((ks.length:Nat))),(42,J ((j:Int)))]/\FR w0 [] ([(m1,Ji (l1)),(b3,.cells #[J k,I t,.slice A2 ks.length c2,.slice A1 j c1] 27),(b2,.cells #[J 0,I [],aQ,aQ] 27),(b1,.cells #[J k,I t,.slice A ks.length c,.slice B xs.length e] 27)]++(sb++[])) w) _ ⟨0,none,0,[],[],O,(Nat.zero_le _),(SlB.nil _ _),(RX.nil),(hKX),I6,hF⟩ ?_;rintro μ σ w ⟨j,A1,c1,sb,cs1,rfl,hj,hS,hDX,hKX,hs,hF⟩;refine Cg.slots hs ?_;clear hs;intro σ;refine Ja (Ca (Kl O O) (Ea (Ha ?_)));refine Pc O O (λhc2=>?_) (λhc2=>?_);refine Ta (Ia (Ha (Va (Ja ?_))));obtain⟨ad2,hA2,hk2,hx2⟩:=hKX.rep.str_elem (i:=j) (by rw[Wj];omega)
 refine Ka (v:=.pointer (some (ad2.add (j*1)))) (Pa (i:=(j:Int)) Cr O hA2 O sX sX) ?_;refine Ka (v:=I ((Cn ks)[j]'(by rw[Wj];omega))) (Jb fZ O hk2) ?_;refine Ca (Qm O) (Ea ?_);refine Id (.of [9]) (bQ [0,1,2,3,4] (cQ [5,6,7] (.free 8 (.act 9 .nil)))) hF ?_;intro w hF hE;have hDX:=hDX.ext hE;have hKX:=hKX.ext hE;refine⟨λwq=>FR w0 [] [(m1,Ji (l1)),(b3,.cells #[J k,I t,.slice A2 ks.length c2,.slice A1 j c1] 27),(b2,.cells #[J 0,I [],aQ,aQ] 27),(b1,.cells #[J k,I t,.slice A ks.length c,.slice B xs.length e] 27)] wq,hF.mid 0 4,?_⟩;refine Hb O (Xb Jc O) (Hl O (Rf yQ O C0 1 O O) (Hb O (Mr) (Hb O (Ug O) ?_)));obtain⟨cy,y,hlk,hlt_,hym,hry⟩:=BL hk1 hr1 (J3.1 (List.getElem_mem (l:=Cn ks) (n:=j) (by rw[Wj];omega)));have hoy:=hry.one_;have hly:cy.length=4:=hry.length.trans (Tc _);refine Qa O (v:=.agg (List.toArray cy)) (λw hC=>T4 xZ kX nX O O (hC.heap (i:=0) O) (by rw[hlk];rfl)) ?_;refine Qb O (ih y hym _ _ cy (hF.rep hry) (Ww hok.2.2 y hym) (hnx.2 y hym) (by have:=Uh hym;omega)) (Ra BO O O) ?_;rintro _ w ⟨ct,rfl,hRt,hE⟩;have hlt:ct.length=4:=hRt.length.trans (Tc _);have hot:=hRt.one_;have hYX:=RX.made (ids:=[m1,b3,b2,b1]++sb.map (·.1)) hF.same.size (λx hx=>hF.lt_ids (by grind)) hRt;have hDX:=(hDX.ext hE).append hYX;have hF:=hF.ext hE;have hKX:=hKX.ext hE;clear hE hYX;refine⟨hF.mid 0 4,?_⟩;refine Fe 1 O hF (My (l:=ct) fX oZ nX Ua Ua O hlt) ?_;intro b6 w hb6 hF hE;have hDX:=hDX.alloc hE hb6;have hKX:=hKX.alloc hE hb6;refine⟨hF.mid 1 4,?_⟩;refine NH (news:=ct) (len':=j+1) (ys:=cs1++ct) O C2 hF hS O O (by rw[hlt]) (λ_=>⟨_,O,Ob (hF.cellsAll 0 O)⟩) (Px hot) (by simp only[maxLen];omega) (O) (O) sX ?_;intro A3 c3 i_3 w hS3_i hF hE hnew;have hDX:=hDX.app (l:=[b6,m1,b3,b2,b1]) hE hnew;have hKX:=hKX.app (l:=[b6,m1,b3,b2,b1]) hE hnew;refine⟨hF.mid 1 4,?_⟩
 refine Hb O (Xb Jc O) (YU (.slice _ _ _) O hF sizeOf25 O O CA.app YK ?_);intro w hF hE;have hDX:=hDX.store hE (by grind);have hKX:=hKX.store hE (by grind);refine Ec (Ib (Ia (Fa (Ca (Um O O) (Ca (Kb O) (Db ?_))))));refine Yb ⟨_,?_,j+1,A3,c3,i_3,cs1++ct,O,sX,(by assumption),(by rw[AV (by rw[Wj];omega) hlt_];exact hDX.sub (by grind)),(hKX.sub (by grind)),I6,hF.drop 1⟩;omega;refine Nc (Kc O ?_);refine Ia (Ja (Yc (Ch aZ oZ O hF.F 1 O O) ?_));refine Qf hF oZ O O CA.app ?_;intro w hF hE;have hDX:=hDX.store hE (by grind);have hKX:=hKX.store hE (by grind);refine Ea (Cc (Bc (Sa (Ig O (l:=[J k,I t,.slice A2 ks.length c2,.slice A1 j c1]) O aZ oZ O (hF.cellsAll 2 O)) ?_)));have ej:j=ks.length:=by omega
 subst ej;rw[List.take_of_length_le (by rw[K_];exact gQ _)]at hDX;refine⟨_,O,?_,hF.same⟩;rw[Zi,if_pos k6]
 ·exact Rep.tree_mk hk ht hKX.done (hS.rep (pre:=[_,_,_,_]) (post:=[]) hF hDX (by rw[Hi];exact K_ ks xs))
theorem BZ(x:Tree):AF x:=Tree.ind KJ x
def zeroT:Tree:=.node 0 [] [] []
theorem Np(S:Nat->Prop)(w:World):Rep S w (Zb zeroT) [J 0,I [],aQ,aQ] :=
  Rep.tree_mk ⟨by omega,by omega⟩ Da (Rep.nil_slice 0 sX none) (Rep.nil_slice 0 sX none)
def Fh(x:Tree):Tree:=if Di x then Zi x else zeroT
def G5(x:Tree):Tree:=if Di x then x else zeroT
def Jt(x:Tree)(key:Str):Tree × Bool:=if Di x=true/\x.kind=6 then match De x.keys x.items key with|some y=>(y,true)|none=>(zeroT,false) else (zeroT,false)
theorem HL{k:Int}{t:Str}{ks:List Str}{xs:List Tree}(h:nodeB (.node k t ks xs)=true):ks.length<=xs.length:=by
  by_cases h6:k=6
  ·subst h6;have:=(Mp h).2;omega
  have:ks=[]:=by
    simp only[nodeB]at h;by_cases h5:k=5
    ·subst h5;simp at h;exact h.1
    rw[if_neg h5, if_neg h6]at h;cases ks with
    | nil=>rfl
    | cons a l=>simp at h
  subst this;simp
theorem UF:∀x:Tree,Af nodeB x=true->Lo x+1<=Wb x:=λx=>Tree.ind (Q:=λx=>Af nodeB x=true->Lo x+1<=Wb x) (λk t ks xs ih h=>by
  obtain⟨h1,h2⟩:=Lf h;have h3:=HL h1;have h7:∀ys:List Tree,(∀y∈ys,y∈xs)->ys.length+Qn ys<=Rb ys:=by
    intro ys
    induction ys with
    | nil=>intro _;simp[Qn,Rb]
    | cons y ys ihy =>
      intro hm;have h5:=ihy (λz hz=>hm z (by simp[hz]));have h9:=ih y (hm y Da) (h2 y (hm y Da));simp only[Qn,Rb,kQ];omega
  have:=h7 xs (λ_ h=>h);rw[Lo,Wb];omega) x
theorem Dy{key:Str}{y:Tree}:∀{ks:List Str}{xs:List Tree},De ks xs key=some y->y∈xs
  | [],xs,h=>by cases xs <;> cases h
  | k::ks,[],h=>by cases h
  | k :: ks, x :: xs, h => by
    rw[De]at h;by_cases he:k=key
    ·rw[if_pos he]at h;injection h with h;simp[h]
    rw[if_neg he]at h;simp[Dy h]
theorem FS:∀{xs:List Tree},(∀x∈xs,Yz x)->WJ xs
  | [],_=>by rw[WJ];trivial
  | x::xs,h=>by rw[WJ];exact⟨h x Da,FS (λy hy=>h y (by simp[hy]))⟩
theorem WS{x:Tree}(h:Di x=true):Wb x<=4096:=by
  unfold Di Ir at h;simp only[Bool.and_eq_true,decide_eq_true_eq]at h;exact h.1.1
theorem KU(x:Tree)(hsz:Wb x<=1000000000)(S:Nat->Prop)(w0:World)(cs:List Value)(hR:Rep S w0 (Zb x) cs)(hk:Yz x)(hG:Gl w0):NewC 211 #[.agg cs.toArray] (Zb (Fh x)) w0:=by
 have hl:cs.length=4:=hR.length.trans (Tc x);have ho:=hR.one_;refine Ga func211 O ntmps211 Fb (Ad _) ?_;have hF:=FR.start w0 [];refine Ja (Ar (v:=.agg (List.toArray cs)) (cs:=(List.toArray cs)) hF O O ?_);rintro b1 w hb1 hF -;refine Od (cs:=#[J 0,I [],aQ,aQ]) hF nX O ?_;rintro b2 w hb2 hF -;refine Ea (Ha (Ja (Ka (v:=.agg (List.toArray cs)) (Ya (l:=cs) aZ oZ O hl (hF.cellsAll 1 O)) ?_)));refine Gb hF (S4 x hsz S _ cs (hF.rep hR) hk (hG.ext hF.same)) (Ra HB O O) ?_;intro w hF;refine Ca (Zj O) (Ea ?_);refine Uf O O (λhc0=>?_) (λhc0=>?_);refine Ja (Ka (w':=w) (v:=.agg #[J 0,I [],aQ,aQ]) Mb ?_);refine Qf hF oZ O O Mh ?_;rintro w hF -;refine Ea (Cc (Bc (Sa (Ig O (l:=[J 0,I [],aQ,aQ]) O aZ oZ O (hF.cellsAll 0 O)) ?_)));have ho_:Di x=false:=by simpa using hc0
 refine⟨_,O,?_,hF.same⟩;rw[Fh,ho_];exact Np _ _;refine Ta (Ia (Ja (Ka (v:=.agg (List.toArray cs)) (Ya (l:=cs) aZ oZ O hl (hF.cellsAll 1 O)) ?_)));refine Cb (BZ x S _ cs (hF.rep hR) hk (Hm (by simpa using hc0)) hsz) (Ra BO O O) ?_;rintro _ w ⟨ct,rfl,hRt,hE⟩;have hlct:ct.length=4:=hRt.length.trans (Tc _);have hoct:=hRt.one_;have hXX:=RX.made (ids:=[b2,b1]) hF.same.size (λx hx=>hF.lt_ids (by grind)) hRt;have hF:=hF.ext hE;clear hE hRt;refine Zf 0 (l:=ct) (cs':=(List.toArray ct)) hF (by rw[hlct];exact oZ) O (v:=.agg (List.toArray ct)) O O (hoct) O (by rw[hlct];exact Nat.le_of_ble_eq_true O) (El (by rw[hlct];rfl)) ?_;intro w hF hE;have hXX:=hXX.store hE (by grind);refine Ea (Cc (Bc (Sa (Ig O (l:=ct) O aZ oZ hlct (hF.cellsAll 0 O)) ?_)));have ho_:Di x=true:=by simpa using hc0
 refine⟨_,O,?_,hF.same⟩;rw[Fh,ho_]
 ·exact hXX.done
theorem I2(x:Tree)(hsz:Wb x<=1000000000)(S:Nat->Prop)(w0:World)(cs:List Value)(hR:Rep S w0 (Zb x) cs)(hk:Yz x)(hG:Gl w0):NewC 23 #[.agg cs.toArray] (Zb (G5 x)) w0:=by
 have hl:cs.length=4:=hR.length.trans (Tc x);have ho:=hR.one_;refine Ga func23 O ntmps23 Fb (Ad _) ?_;have hF:=FR.start w0 [];refine Ja (Ar (v:=.agg (List.toArray cs)) (cs:=(List.toArray cs)) hF O O ?_);rintro b1 w hb1 hF -;refine Od (cs:=#[J 0,I [],aQ,aQ]) hF nX O ?_;rintro b2 w hb2 hF -;refine Ea (Ha (Ja (Ka (v:=.agg (List.toArray cs)) (Ya (l:=cs) aZ oZ O hl (hF.cellsAll 1 O)) ?_)));refine Gb hF (S4 x hsz S _ cs (hF.rep hR) hk (hG.ext hF.same)) (Ra HB O O) ?_;intro w hF;refine Ca (Zj O) (Ea ?_);refine Uf O O (λhc0=>?_) (λhc0=>?_);refine Ja (Ka (w':=w) (v:=.agg #[J 0,I [],aQ,aQ]) Mb ?_);refine Qf hF oZ O O Mh ?_;rintro w hF -;refine Ea (Cc (Bc (Sa (Ig O (l:=[J 0,I [],aQ,aQ]) O aZ oZ O (hF.cellsAll 0 O)) ?_)));have ho_:Di x=false:=by simpa using hc0
 refine⟨_,O,?_,hF.same⟩;rw[G5,ho_];exact Np _ _;refine Ta (Ia (Ja (Ka (v:=.agg (List.toArray cs)) (Ya (l:=cs) aZ oZ O hl (hF.cellsAll 1 O)) ?_)));refine Cb (SF x S _ cs (hF.rep hR) hsz (by have:=UF x (Hm (by simpa using hc0));omega)) (Ra ZQ O O) ?_;rintro _ w ⟨ct,rfl,hRt,hE⟩;have hlct:ct.length=4:=hRt.length.trans (Tc _);have hoct:=hRt.one_;have hXX:=RX.made (ids:=[b2,b1]) hF.same.size (λx hx=>hF.lt_ids (by grind)) hRt;have hF:=hF.ext hE;clear hE hRt;refine Zf 0 (l:=ct) (cs':=(List.toArray ct)) hF (by rw[hlct];exact oZ) O (v:=.agg (List.toArray ct)) O O (hoct) O (by rw[hlct];exact Nat.le_of_ble_eq_true O) (El (by rw[hlct];rfl)) ?_;intro w hF hE;have hXX:=hXX.store hE (by grind);refine Ea (Cc (Bc (Sa (Ig O (l:=ct) O aZ oZ hlct (hF.cellsAll 0 O)) ?_)));have ho_:Di x=true:=by simpa using hc0
 refine⟨_,O,?_,hF.same⟩;rw[G5,ho_]
 ·exact hXX.done
theorem getV_c(k:Int)(t:Str)(ks:List Str)(xs:List Tree)(key:Str)(hsz:Wb (.node k t ks xs)<=1000000000)(S:Nat->Prop)(w0:World)(cs:List Value)(hR:Rep S w0 (Zb (.node k t ks xs)) cs)(hk:Yz (.node k t ks xs))(hG:Gl w0):Calls prog 77 #[.agg cs.toArray,I key] w0 (Td λv w'=>∃ct:List Value,v=.tuple #[.agg ct.toArray,.bool (Jt (.node k t ks xs) key).2]/\Rep (Btw w0 w') w' (Zb (Jt (.node k t ks xs) key).1) ct/\Same [] w0 w'):=by
 have hR:=hR.old;obtain⟨A,c,B,e,rfl,-,-,hK,hX⟩:=hR.tree_inv;refine Ga func77 O ntmps77 Fb (Zc _ _) ?_;have hF:=FR.start w0 [];refine Ja (Ve hF O ?_);rintro b1 w hb1 hF -;refine Od (cs:=#[J 0,I [],aQ,aQ]) hF nX O ?_;rintro b2 w hb2 hF -;refine Ca (Hc O) (Ea (Ha (Ja (Yc (Ch aZ oZ O hF.F 1 O O) ?_))));refine Gb hF (S4 (.node k t ks xs) hsz _ _ _ (hF.rep hR) hk (hG.ext hF.same)) (Ra HB O O) ?_;intro w hF;refine Ca (Zj O) (Ca (Ae O) ?_);refine Oe (d:=11) O (λhg0=>?_) (λhg0=>?_);refine Oa (Oa (Oa (Ca (Nd O O) (Ea (Ge O (Ja ?_))))));refine Ka (w':=w) (v:=.agg #[J 0,I [],aQ,aQ]) Mb (Qf hF oZ O O Mh ?_);rintro w hF -;refine Ca (Hc O) (Ea ?_);refine Cc (Bc (Sa (Me O (l:=[J 0,I [],aQ,aQ]) O aZ oZ O (hF.cellsAll 0 O) (v:=.bool false) O) ?_));have hg:Jt (.node k t ks xs) key=(zeroT,false):=by rw[Jt,if_neg];rintro⟨h1,h2⟩;rw[Tree.kind]at h2;simp_all
 refine⟨_,by rw[hg],?_,hF.same⟩;rw[hg];exact Np _ _;refine Ca (Xb Wh O) (Yc (Xs bZ O hF.F 1 O O) (Ca (Mz O O) (Ca (Md O O) (Ea ?_))));refine Pc O O (λhc0=>?_) (λhc0=>?_);refine Ja (Ka (w':=w) (v:=.agg #[J 0,I [],aQ,aQ]) Mb ?_);refine Qf hF oZ O O Mh ?_;rintro w hF -;refine Ca (Hc O) (Ea ?_);refine Cc (Bc (Sa (Me O (l:=[J 0,I [],aQ,aQ]) O aZ oZ O (hF.cellsAll 0 O) (v:=.bool false) O) ?_));have hg:Jt (.node k t ks xs) key=(zeroT,false):=by rw[Jt,if_neg];rintro⟨h1,h2⟩;rw[Tree.kind]at h2;simp_all
 refine⟨_,by rw[hg],?_,hF.same⟩;rw[hg];exact Np _ _;refine Ta (Ia (Ja (Yc (Ch aZ oZ O hF.F 1 O O) ?_)));have ho_:Di (.node k t ks xs)=true:=by simp_all
 have k6:k=6:=by simp_all
 have hnx:=Lf (Hm ho_);refine Cb (Ay k t ks xs (Mp (k6▸hnx.1)).1 (Mp (k6▸hnx.1)).2 _ _ _ (hF.rep hR)) (Ra ME O O) ?_;rintro _ w ⟨m1,l1,rfl,hge,hm1,hk1,hr1,hE⟩;have hF:=hF.cons_ext hE hm1 hge;have hr1:=hr1.back hF.same;clear hE hm1 hge;refine Ca (Ug O) ?_;rcases Uu key hk1 hr1 with ⟨hlk,hlt⟩|⟨cy,y,hlk,hlt,hym,hry⟩
 have hry:=Np S w;have hkz:Lo zeroT<=8796093022208:=by decide
 have hsz_:Wb zeroT<=1000000000:=by decide
 refine Ka (v:=.tuple #[.agg #[J 0,I [],aQ,aQ],.bool false]) (Gv xZ kX nX O O (hF.heap (i:=0) O) (by rw[hlk];rfl) (by rw[hlk];rfl)) ?_;refine Ca (Ro O) (Ca (N4 O O) (Ca (Fq O O) ?_));refine Kh hF nX oZ O ?_;rintro b3 w hb3 hF -;refine Ca (Hc O) (Fc (Yc (Ch aZ oZ O hF.F 0 O O) ?_));refine Cb (SF zeroT S _ _ (Np S _) hsz_ hkz) (Ra ZQ O O) ?_;rintro _ w ⟨ct,rfl,hRt,hE⟩;have hlct:ct.length=4:=hRt.length.trans (Tc _);have hoct:=hRt.one_;have hXX:=RX.made (ids:=[b1,b2]) hF.same.size (λx hx=>hF.lt_ids (by grind)) hRt;have hF:=hF.ext hE;clear hE hRt;refine Ca (Ae O) ?_;refine Zf 2 (l:=ct) (cs':=(List.toArray ct)) hF (by rw[hlct];exact oZ) O (v:=.agg (List.toArray ct)) O O (hoct) O (by rw[hlct];exact Nat.le_of_ble_eq_true O) (El (by rw[hlct];rfl)) ?_;intro w hF hE;have hXX:=hXX.store hE (by grind);refine Ca (Hc O) (Ea ?_);refine Cc (Bc (Sa (Me O (l:=ct) O aZ oZ hlct (hF.cellsAll 2 O) (v:=.bool false) O) ?_));have hg:Jt (.node k t ks xs) key=(zeroT,false):=by rw[Jt,if_pos ⟨ho_,by rw[Tree.kind];exact k6⟩];show (match De ks xs key with|some y=>(y,true)|none=>(zeroT,false))=_;rw[hlt]
 refine⟨_,by rw[hg],?_,hF.same⟩;rw[hg]
 ·exact hXX.done
 have hoy:=hry.one_;have hly:cy.length=4:=hry.length.trans (Tc _);have hsz_:Wb y<=1000000000:=by have:=Uh hym;rw[Wb]at hsz;omega
 have hkz:Lo y<=8796093022208:=by have:=UF y (hnx.2 y hym);omega
 refine Ka (v:=.tuple #[.agg (List.toArray cy),.bool true]) (Gv xZ kX nX O O (hF.heap (i:=0) O) (by rw[hlk];rfl) (by rw[hlk];rfl)) ?_;refine Ca (Ro O) (Ca (N4 O O) (Ca (Fq O O) ?_));refine Nw (l:=cy) hF nX (by rw[hly];exact oZ) (by rw[hly];rfl) (v:=.agg (List.toArray cy)) O O (hoy) O ?_;rintro b4 w hb4 hF -;refine Ca (Hc O) (Fc (Ka (v:=.agg (List.toArray cy)) (Ya (l:=cy) aZ oZ O hly (hF.cellsAll 0 O)) ?_));refine Cb (SF y _ _ cy (hF.rep hry) hsz_ hkz) (Ra ZQ O O) ?_;rintro _ w ⟨ct,rfl,hRt,hE⟩;have hlct:ct.length=4:=hRt.length.trans (Tc _);have hoct:=hRt.one_;have hXX:=RX.made (ids:=[b1,b2]) hF.same.size (λx hx=>hF.lt_ids (by grind)) hRt;have hF:=hF.ext hE;clear hE hRt;refine Ca (Ae O) ?_;refine Zf 2 (l:=ct) (cs':=(List.toArray ct)) hF (by rw[hlct];exact oZ) O (v:=.agg (List.toArray ct)) O O (hoct) O (by rw[hlct];exact Nat.le_of_ble_eq_true O) (El (by rw[hlct];rfl)) ?_;intro w hF hE;have hXX:=hXX.store hE (by grind);refine Ca (Hc O) (Ea ?_);refine Cc (Bc (Sa (Me O (l:=ct) O aZ oZ hlct (hF.cellsAll 2 O) (v:=.bool true) O) ?_));have hg:Jt (.node k t ks xs) key=(y,true):=by rw[Jt,if_pos ⟨ho_,by rw[Tree.kind];exact k6⟩];show (match De ks xs key with|some y=>(y,true)|none=>(zeroT,false))=_;rw[hlt]
 refine⟨_,by rw[hg],?_,hF.same⟩;rw[hg]
 ·exact hXX.done
end Go.Scarf
