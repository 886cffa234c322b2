/- A part of the proof. -/
import Derived.Test.YthnkjgpjdbdchaaGreatDoorW10
import Derived.Test.YthnkjgpjdbdchaaGreatDoorIter
set_option linter.all false
set_option maxHeartbeats 8000000
set_option maxRecDepth 10000
namespace Go.Scarf
open Go.RowKit Go.Proofs Go.Proofs.Tryz
mutual
def Vo:Tree->Nat|.node _ _ ks xs=>ks.length+Qo xs
def Qo:List Tree->Nat|[]=>0|x::xs=>Vo x+Qo xs
end
theorem R7:∀{xs:List Tree}{x:Tree},x∈xs->Vo x<=Qo xs
  | [],_,h=>absurd h Da
  | y :: ys, x, h => by
    rw[Qo];rcases oQ.1 h with rfl|h
    ·omega
    have:=R7 h;omega
theorem TH{xs:List Tree}{j:Nat}(h:j<xs.length):Cd (xs.take (j+1))=Cd (xs.take j)++[Wb xs[j]]:=by
  rw[iQ h,Ud,Ud,jQ];rfl
theorem QK{xs:List Tree}{j:Nat}(h:j<xs.length):Cd (xs.drop j)=Wb xs[j]::Cd (xs.drop (j+1)):=by
  rw[List.drop_eq_getElem_cons h];rfl
theorem RepL.lits{S S':Nat->Prop}{w w':World}:∀{ks:List Str}{cs:List Value},RepL S w (ks.map Qm) cs->RepL S' w' (ks.map Qm) cs
  | [],cs,h=>by have:=RepL.nil_inv h;subst this;exact RepL.nil_mk
  | k :: ks, cs, h => by
    obtain⟨c1,c2,rfl,h1,h2⟩:=RepL.cons_inv h;obtain⟨rfl,h3⟩:=Rep.lit_inv h1;exact RepL.cons_mk (Rep.lit_mk h3) (RepL.lits h2)
def Lie(w:World)(A:Option Addr)(n:Nat)(es:List Value):Prop:=n≠0->∃ad,A=some ad/\∀j (hj:j<es.length),w.cell? (ad.add j)=some es[j]
theorem Lie.ext{w w':World}{A:Option Addr}{n:Nat}{es:List Value}(h:Lie w A n es)(hs:Same [] w w'):Lie w' A n es:=λhn=>by
  obtain⟨ad,hA,hc⟩:=h hn;exact⟨ad,hA,λj hj=>((FR.start w []).ext hs).cells0 hc j hj⟩
def FG(e m n:Nat)(es:List Value)(w0:World)(v:Value)(w':World):Prop :=
  ∃A c sb,v=.slice A n c/\SlB e m A n c es sb/\(∀p∈sb,w'.heap[p.1]? = some p.2/\w0.heap.size<=p.1)/\Same [] w0 w'
theorem Rep.slice_open{S:Nat->Prop}{w:World}{ds:List D}{A:Option Addr}{n c m:Nat}(h:Rep S w (.slice ds) [.slice A n c])(hm:∀d∈ds,Pe d=m) :
    ∃es,RepL S w ds es/\es.length=n*m/\Lie w A n es:=by
  have hl:=h.slice_len;obtain⟨A',c',hA,_,_,hr⟩:=Rep.slice_inv h;simp only[List.cons.injEq,Value.slice.injEq,and_true]at hA;obtain⟨rfl,_,_⟩:=hA;have hsz:∀ds:List D,(∀d∈ds,Pe d=m)->Pe.sizeL ds=ds.length*m:=by
    intro ds
    induction ds with
    | nil=>intro _;simp[Pe.sizeL]
    | cons d ds ih=>intro h;rw[Pe.sizeL,h d Da,ih (λx hx=>h x (by simp[hx])),kQ,Nat.add_mul];omega
  by_cases hne:ds=[]
  ·subst hne
   exact⟨[],RepL.nil_mk,by simp[hl.1],λh=>absurd hl.1 (by simpa using h)⟩
  obtain⟨ad, rfl, es, hc, hr⟩ := hr hne;exact⟨es,hr,by rw[hr.length,hsz ds hm,hl.1],λ_=>⟨ad,O,λj hj=>(hc j hj).1⟩⟩
theorem X4(ks:List Str):∀d∈ks.map Qm,Pe d=1:=λd hd=>by obtain⟨k,_,rfl⟩:=nQ.1 hd;rfl
theorem IM(xs:List Tree):∀d∈Cd xs,Pe d=4:=λd hd=>by rw[Ud]at hd;obtain⟨k,_,rfl⟩:=nQ.1 hd;exact Tc k
theorem FR.sbown{w0 w:World}{pre sb post:List (Nat × Obj)}(h:FR w0 [] (pre++(sb++post)) w):∀p∈sb,w.heap[p.1]? = some p.2/\w0.heap.size<=p.1:=λp hp=>by
  have:=h.own p (by simp[hp]);refine⟨this.1,?_⟩;rcases this.2 with h|h
  ·exact h
  cases h
theorem SlB.soft{e m n c:Nat}{A:Option Addr}{es:List Value}{sb:List (Nat × Obj)}{w:World}(h:SlB e m A n c es sb)(hb:∀p∈sb,w.heap[p.1]? = some p.2):∀p∈sb,GF w p.1:=λp hp=>by
  have h2:∃cur,p=(p.1,.cells cur e):=by
    rcases h.2 with ⟨-,-,rfl⟩|⟨g,cur,-,rfl,-⟩
    ·cases hp
    simp only[pQ]at hp;subst hp;exact⟨cur,rfl⟩
  obtain⟨cur,h2⟩:=h2;have:=hb p hp;rw[h2]at this;exact⟨cur,e,this⟩
theorem SlB.btw{e m n c:Nat}{A:Option Addr}{es:List Value}{sb:List (Nat × Obj)}{w w':World}{ds:List D}(h:SlB e m A n c es sb)(hb:∀p∈sb,w'.heap[p.1]? = some p.2/\w.heap.size<=p.1)(hr:RepL (Btw w w') w' ds es)(hn:ds.length=n):Rep (Btw w w') w' (.slice ds) [.slice A n c] :=
  h.repOf (λp hp=>⟨(hb p hp).1,(hb p hp).2,Ma (hb p hp).1,h.soft (λp hp=>(hb p hp).1) p hp⟩) hr hn
theorem W5{S:Nat->Prop}{w0 w w':World}{ks:List Str}{es:List Value}{v:Value}(h:FG 9 1 ks.length es w v w')(hr:RepL S w0 (ks.map Qm) es):∃A c,v=.slice A ks.length c/\Rep (Btw w w') w' (Ld ks) [.slice A ks.length c]/\Same [] w w':=by
  obtain⟨A,c,sb,rfl,hS,hb,hE⟩:=h;exact⟨A,c,O,hS.btw hb hr.lits Da,hE⟩
theorem K3(len:Nat)(A:Option Addr)(c:Nat)(es:List Value)(w0:World)(hel:es.length=len*1)(hcell:Lie w0 A len es)(ho:∀v∈es,one v=true)(hb:len<=8796093022208):Calls prog 69 #[.slice A len c] w0 (Wd λv w'=>FG 9 1 len es w0 v w'):=by
 refine Fa func69 O ntmps69 Ib (Zc _) ?_;have hF:=FR.start w0 [];refine Ha (Ca (Sj O) (Ea (Ja (Ha (Ca (He O) (Ka (v:=.bool ((A).isNone)) (P7 bX O O) (Ea ?_)))))));refine Ng O O (λhc0=>?_) (λhc0=>?_);have hA:A=none:=by simpa using hc0
 refine Ha (Ca (Sj O) (Ea ?_));refine Pd (v:=.slice _ _ _) O O ?_;have h0:len=0:=by rcases Nat.eq_zero_or_pos len with h|h;exact h;obtain⟨ad,hh,_⟩:=hcell sX;rw[hA]at hh;cases hh
 have hes:es=[]:=List.eq_nil_of_length_eq_zero (by rw[hel,h0,Nat.zero_mul]);subst hes;exact⟨none,0,[],by rw[h0],by rw[h0];exact SlB.nil _ _,by simp,hF.same⟩;refine Wa (Ia (Ha ?_));refine Vh 0 hF (Ez bX uZ) ?_;rintro b1 w hb1 hF -;have hS0:SlB 9 1 (some ⟨b1,0,none⟩) 0 0 [] [(b1,.cells #[] 9)]:=⟨by simp,.inr ⟨b1,#[],rfl,rfl,gQ _,Nat.zero_le _,by simp,by simp⟩⟩;refine Ca (He O) ?_;refine L2 [] [] (news:=es) (len':=0+len) (ys:=[]++es) Zp hF hS0 rfl rfl (by rw[hel]) (λhk=>by obtain⟨ad,hA,hc⟩:=hcell hk;exact⟨ad,hA,Vb (hF.cells0 hc)⟩) (Fy ho) (by simp only[maxLen];omega) (rfl) (rfl) sX ?_;intro A0 c0 a_0 w hS0_a hF hE hnew;refine Ca (Sj O) (Ea ?_);refine Pd (v:=.slice _ _ _) O O ?_;simp only[Nat.zero_add,List.nil_append]at *;exact⟨_,_,_,O,by assumption,hF.sbown (pre:=[]) (post:=[]),hF.same⟩
theorem GV(len:Nat)(A:Option Addr)(c:Nat)(es:List Value)(w0:World)(hel:es.length=len*4)(hcell:Lie w0 A len es)(ho:∀v∈es,one v=true)(hb:len<=1000000000):Calls prog 70 #[.slice A len c] w0 (Wd λv w'=>FG 25 4 len es w0 v w'):=by
 refine Fa func70 O ntmps70 Ib (Zc _) ?_;have hF:=FR.start w0 [];refine Ha (Ca (Sj O) (Ea (Ja (Ha (Ca (He O) (Ka (v:=.bool ((A).isNone)) (P7 cX O O) (Ea ?_)))))));refine Ng O O (λhc0=>?_) (λhc0=>?_);have hA:A=none:=by simpa using hc0
 refine Ha (Ca (Sj O) (Ea ?_));refine Pd (v:=.slice _ _ _) O O ?_;have h0:len=0:=by rcases Nat.eq_zero_or_pos len with h|h;exact h;obtain⟨ad,hh,_⟩:=hcell sX;rw[hA]at hh;cases hh
 have hes:es=[]:=List.eq_nil_of_length_eq_zero (by rw[hel,h0,Nat.zero_mul]);subst hes;exact⟨none,0,[],by rw[h0],by rw[h0];exact SlB.nil _ _,by simp,hF.same⟩;refine Wa (Ia (Ha ?_));refine Vh 0 hF (Ez cX oZ) ?_;rintro b1 w hb1 hF -;have hS0:SlB 25 4 (some ⟨b1,0,none⟩) 0 0 [] [(b1,.cells #[] 25)]:=⟨by simp,.inr ⟨b1,#[],rfl,rfl,gQ _,Nat.zero_le _,by simp,by simp⟩⟩;refine Ca (He O) ?_;refine L2 [] [] (news:=es) (len':=0+len) (ys:=[]++es) Mq hF hS0 rfl rfl (by rw[hel]) (λhk=>by obtain⟨ad,hA,hc⟩:=hcell hk;exact⟨ad,hA,Vb (hF.cells0 hc)⟩) (Fy ho) (by simp only[maxLen];omega) (rfl) (rfl) sX ?_;intro A0 c0 a_0 w hS0_a hF hE hnew;refine Ca (Sj O) (Ea ?_);refine Pd (v:=.slice _ _ _) O O ?_;simp only[Nat.zero_add,List.nil_append]at *;exact⟨_,_,_,O,by assumption,hF.sbown (pre:=[]) (post:=[]),hF.same⟩
def NewC(F:Nat)(args:Array Value)(d:D)(w0:World):Prop:=Calls prog F args w0 (Wd λv w'=>∃ct:List Value,v=.agg ct.toArray/\Rep (Btw w0 w') w' d ct/\Same [] w0 w')
def CM(x:Tree):Prop:=∀S w0 cs,Rep S w0 (Wb x) cs->Rb x<=1000000000->(Vo x<=8796093022208)->NewC 39 #[.agg cs.toArray] (Wb x) w0
theorem KM(k:Int)(t:Str)(ks:List Str)(xs:List Tree)(ih:∀x,x∈xs->CM x):CM (.node k t ks xs):=by
 intro S w0 cs hR hsz hky;rw[Rb]at hsz;rw[Vo]at hky;have hxn:=Ii xs;obtain⟨A,c,B,e,rfl,hk,ht,hK,hX⟩:=hR.tree_inv;obtain⟨eK,hrK,hKl,hKc⟩:=hK.slice_open (X4 ks);obtain⟨eX,hrX,hXl,hXc⟩:=hX.slice_open (IM xs);refine Fa func39 O ntmps39 Ib (Zc _) ?_;have hF:=FR.start w0 [];refine Ha (Df hF O ?_);rintro b1 w hb1 hF -;refine Md (cs:=#[J 0,I [],aQ,aQ]) hF mX O ?_;rintro b2 w hb2 hF -;refine Ea (Ja ?_);refine Ig (zs:=.of [9,7]) (bQ [0,1,3,4] (.act 2 (.free 6 (.act 5 (.act 7 (.free 8 (.act 9 .nil))))))) hF ?_;intro w hF;refine Cb O (Zb Af O) (Vi O (Tf wQ O C0 1 O O) (Cb O (Zb Gc O) (Vi O (Tf xQ O C0 1 O O) ?_)));refine Jb O (K3 ks.length A c eK _ hKl (Lie.ext hKc hF.same) hrK.one_ sX) (Ra JX O O) ?_;rintro _ w hcl;obtain⟨A1,c1,rfl,hK1,hE⟩:=W5 hcl hrK;have hKX:=RX.made (ids:=[b2,b1]) hF.same.size (λx hx=>hF.lt_ids (by grind)) hK1;have hF:=hF.ext hE;clear hE hcl hK1;refine⟨hF,?_⟩;refine Cb O (Zb Af O) (Jb O (GV xs.length B e eX _ hXl (Lie.ext hXc hF.same) hrX.one_ sX) (Ra en_70 O O) ?_);rintro _ w ⟨A2,c2,sb2,rfl,hS2,hh2,hE⟩;have hKX:=hKX.step (ids':=[b2,b1]++sb2.map (·.1)) hE Da (λx hx=>by rcases mQ.1 hx with hx|hx;exact .inl hx;obtain⟨p,hp,rfl⟩:=nQ.1 hx;exact .inr (hh2 p hp).2);have hF:=hF.extseg hE hh2 hS2.pw;refine⟨hF.mid 0 2,?_⟩;refine KS (.slice _ _ _) O hF lZ O O Ct.app D3 ?_;intro w hF hE;have hKX:=hKX.store hE (by grind);refine Cb O (Zb Gc O) (KS (.slice _ _ _) O hF mZ O O Ct.app X6 ?_);intro w hF hE;have hKX:=hKX.store hE (by grind);refine Fc (Ia (Ja (Ha (Ca (Zb Gc O) (Rc (Tf xQ O hF.F 1 O O) (Ca (Mf cX O) (Ca (Qb O) (Ea (Za ?_)))))))));refine Ad (λμ σ w=>∃(j:Nat),∃(dn:List Value),∃(rs:List Value),∃(sb:List (Nat × Obj)),μ=xs.length-j/\(j<=xs.length)/\(SlB 25 4 A2 xs.length c2 (dn++rs) sb)/\(dn.length=j*4)/\(RepL S w0 (Cd (xs.drop j)) rs)/\(RX w0 ([b2,b1]++sb.map (·.1)) w (Cd (xs.take j)) dn)/\(RX w0 ([b2,b1]++sb.map (·.1)) w [Ld ks] [.slice A1 ks.length c1])/\AllEq σ [(1,V b1),(2,V b2),(14,.slice A2 xs.length c2),(15,J ((xs.length:Nat))),(16,J ((j:Int)))]/\FR w0 [] ([(b2,.cells #[J 0,I [],aQ,aQ] 25),(b1,.cells #[J k,I t,.slice A1 ks.length c1,.slice A2 xs.length c2] 25)]++(sb++[])) w) _ ⟨0,[],eX,sb2,O,(Nat.zero_le _),(hS2),(O),(by simpa using hrX),(RX.nil),(hKX),Xv,hF⟩ ?_
 rintro μ σ w ⟨j,dn,rs,sb,rfl,hj,hS,hd,hrr,hDX,hKX,hs,hF⟩;refine Cg.slots hs ?_;clear hs;intro σ;refine Ha (Ca (An O O) (Ea (Ja ?_)));refine Nc O O (λhc0=>?_) (λhc0=>?_);refine Wa (Ia (Ja (Za (Ha (Ca (Qb O) ?_)))));have hjx:j<xs.length:=by omega
 rw[QK hjx]at hrr;obtain⟨c1_,c2_,rfl,hr1,hr2⟩:=RepL.cons_inv hrr;have hl1:c1_.length=4:=hr1.length.trans (Tc _);have ho1:=hr1.one_;obtain⟨ad0,hA0,hk0⟩:=hS.elemMid (pre:=[(b2,.cells #[J 0,I [],aQ,aQ] 25),(b1,.cells #[J k,I t,.slice A1 ks.length c1,.slice A2 xs.length c2] 25)]) (post:=[]) (pr:=dn) (mid:=c1_) (po:=c2_) hF (j:=j) hd hl1 (hjx);refine Ka (v:=.pointer (some (ad0.add (j*4)))) (Ta (i:=(j:Int)) Xd O hA0 O sX sX) (Ka (v:=.agg (List.toArray c1_)) (Va (l:=c1_) zQ oZ O hl1 hk0) ?_);refine Md (cs:=#[J 0,I [],aQ,aQ]) hF mX O ?_;intro b3 w hb3 hF hE;have hKX:=hKX.alloc hE hb3;have hDX:=hDX.alloc hE hb3;refine Ca (Uc O) ?_;refine Of 0 (l:=c1_) (cs':=(List.toArray c1_)) hF (by rw[hl1];exact oZ) O (v:=.agg (List.toArray c1_)) O O (ho1) O (by rw[hl1];exact Nat.le_of_ble_eq_true O) (Pl (by rw[hl1];rfl)) ?_;intro w hF hE;have hKX:=hKX.store hE (by grind);have hDX:=hDX.store hE (by grind);refine Ea (Kd (.of [6]) (bQ [0,1,2,3] (.act 4 (.free 5 (.act 6 .nil)))) hF ?_);intro w hF hE;have hKX:=hKX.ext hE;have hDX:=hDX.ext hE;refine⟨λwq=>FR w0 [] [(b3,.cells (List.toArray c1_) 25),(b2,.cells #[J 0,I [],aQ,aQ] 25),(b1,.cells #[J k,I t,.slice A1 ks.length c1,.slice A2 xs.length c2] 25)] wq,hF.mid 0 3,?_⟩;refine Cb O (Zb Gc O) (Vi O (Tf xQ O C0 2 O O) (Cb O (Qb O) (Pa O (v:=.agg (List.toArray c1_)) (λw hC=>Va (l:=c1_) zQ oZ O hl1 (hC.cellsAll 0 O)) ?_)));refine Jb O (ih xs[j] (eQ hjx) S _ c1_ (hF.rep hr1) (by have:=Sh (eQ hjx);omega) (by have:=R7 (eQ hjx);omega)) (Ra HQ O O) ?_;rintro _ w ⟨ct,rfl,hRt,hE⟩;have hlt:ct.length=4:=hRt.length.trans (Tc _);have hot:=hRt.one_;have hYX:=RX.made (ids:=b3::([b2,b1]++sb.map (·.1))) hF.same.size (λx hx=>hF.lt_ids (by grind)) hRt;have hKX:=hKX.ext hE;have hDX:=(hDX.ext hE).append hYX;have hF:=hF.ext hE
 clear hE hYX;refine⟨hF.mid 0 3,?_⟩;obtain⟨ad1,hA1,hk1⟩:=hS.elemMid (pre:=[(b3,.cells (List.toArray c1_) 25),(b2,.cells #[J 0,I [],aQ,aQ] 25),(b1,.cells #[J k,I t,.slice A1 ks.length c1,.slice A2 xs.length c2] 25)]) (post:=[]) (pr:=dn) (mid:=c1_) (po:=c2_) hF (j:=j) hd hl1 (hjx);refine Pa O (v:=.pointer (some (ad1.add (j*4)))) (λw hC=>Ta (i:=(j:Int)) Xd O hA1 O sX sX) (DT [(b3,.cells (List.toArray c1_) 25),(b2,.cells #[J 0,I [],aQ,aQ] 25),(b1,.cells #[J k,I t,.slice A1 ks.length c1,.slice A2 xs.length c2] 25)] [] O hF (pr:=dn) (mid:=c1_) (po:=c2_) (new:=ct) (j:=j) hS hd hl1 hA1 (hjx) oZ O (v:=.agg (List.toArray ct)) O O hlt hot ?_);intro i_2 w hS2_i hF hE hids;have hKX:=hKX.store hE (by grind);have hDX:=hDX.store hE (by grind);refine Fc (Eb (Ia (Ga (Ca (Bm O O) (Ca (Qb O) (Gb ?_))))));refine Dc ⟨_,?_,j+1,dn++ct,c2_,i_2,O,(hjx),(by simpa using hS2_i),(by rw[dQ,hd,hlt];omega),(hr2),(by rw[TH hjx,hids];exact hDX.sub (λx hx=>List.mem_cons_of_mem _ hx)),(by rw[hids];exact hKX.sub (λx hx=>List.mem_cons_of_mem _ hx)),Xv,hF.drop 1⟩;omega;refine Pc (Oc O ?_);refine Ia (Ha (Rc (Rf zQ oZ O hF.F 1 O O) ?_));refine If hF oZ O O Ih.app ?_;intro w hF hE;have hKX:=hKX.store hE (by grind);have hDX:=hDX.store hE (by grind);refine Ea (Cc (Bc (Ua (Uf O (l:=[J k,I t,.slice A1 ks.length c1,.slice A2 xs.length c2]) O zQ oZ O (hF.cellsAll 0 O)) ?_)));have ej:j=xs.length:=by omega
 subst ej;rw[List.take_length]at hDX;have e0:rs=[]:=by rw[List.drop_length]at hrr;exact RepL.nil_inv hrr
 subst e0;rw[qQ]at hS;refine⟨_,O,?_,hF.same⟩
 ·exact Rep.tree_mk hk ht hKX.done (hS.rep (pre:=[_,_]) (post:=[]) hF hDX Da)
theorem EF(x:Tree):CM x:=Tree.ind KM x
mutual
def sortT:Tree->Tree
  | .node k t ks xs=>if k=6 then .node k t (Li ks) ((Li ks).map λkey=>(Td ks (Sf xs) key).getD (.node 0 [] [] [])) else .node k t [] (Sf xs)
def Sf:List Tree->List Tree
  | []=>[]
  | x::xs=>sortT x::Sf xs
end
theorem Ci:∀xs:List Tree,Sf xs=xs.map sortT
  | []=>rfl
  | x::xs=>by rw[Sf,Ci xs,List.map_cons]
theorem Kz{key:Str}{y:Tree}:∀{ks:List Str}{xs:List Tree},Td ks xs key=some y->Td ks (Sf xs) key=some (sortT y)
  | [],xs,h=>by cases xs <;> cases h
  | k::ks,[],h=>by cases h
  | k :: ks, x :: xs, h => by
    rw[Sf,Td];rw[Td]at h;by_cases he:k=key
    ·rw[if_pos he]at h ⊢;injection h with h;rw[h]
    rw[if_neg he]at h ⊢;exact Kz h
theorem KO{S:Nat->Prop}{w:World}{key:Str}{ks:List Str}{xs:List Tree}{l:MapL}(hk:l.map (·.1)=ks)(hm:MapRep S w xs l)(hin:key∈ks) :
    ∃(cs:List Value)(y:Tree),Rg l key=some (.agg cs.toArray)/\Td ks xs key=some y/\y∈xs/\Rep S w (Wb y) cs:=by
  rcases Uu key hk hm with ⟨h,-⟩|h
  ·exfalso
   rw[<-hk]at hin;obtain⟨x,hx,hxe⟩:=nQ.1 hin;unfold Rg at h;rw[Option.map_eq_none_iff,List.find?_eq_none]at h;exact h x hx (by simpa using hxe)
  exact h
theorem MapRep.back{S:Nat->Prop}{w0 w:World}{xs:List Tree}{l:MapL}(h:MapRep (Old S w0) w xs l)(hs:Same [] w0 w):MapRep (Old S w0) w0 xs l:=λi hi=>by
  obtain⟨cs,h1,h2,h3⟩:=h i hi;exact⟨cs,h1,h2,h3.back hs⟩
def KZ(w1:World)(bk m:Nat)(l:MapL):Prop:=∃W:World,w1=W.alloc (.cells #[.map (some m)] 69)/\bk=W.heap.size/\W.heap[m]? = some (Zf l)
theorem keys_c(m:Nat)(l:MapL)(w:World)(hm:w.heap[m]? = some (Zf l)):Calls prog 57 #[.map (some m)] w (Wd λv w'=>∃bk,v=.func (.func 94) #[] #[V bk]/\KZ w' bk m l/\Same [] w w') :=
  (callsIn_wide.1 (maps_Keys_57 (some m) w)).mono λ_ _ ⟨he,hw⟩=>⟨_,he,w.heap.size,rfl,⟨w,hw,rfl,hm⟩,by rw[hw];exact Same.alloc w _⟩
theorem IE(bk m:Nat)(l:MapL)(ks:List Str)(w:World)(h:KZ w bk m l)(hk:l.map (·.1)=ks)(hn:ks.Nodup)(hb:ks.length<=1000000000)(hs:∀s∈ks,s.length<=140737488355328) :
    Calls prog 56 #[.func (.func 94) #[] #[V bk]] w (Wd λv w'=>∃A c,v=.slice A ks.length c/\Rep (Btw w w') w' (Ld (Li ks)) [.slice A ks.length c]/\Same [] w w'):=by
  obtain⟨W,rfl,rfl,hm⟩:=h;have hl:l.length=ks.length:=by rw[<-hk,rQ]
  obtain⟨D0,hown,hperm,hsz⟩:=TO (P:=prog) kX hm (by rw[hk];exact hn) (λx hx=>by have:=hs x.1 (by rw[<-hk];exact List.mem_map_of_mem hx);simp only[maxLen];omega) (by simp only[maxLen];omega);refine (callsIn_wide.1 (slices_Sorted_keys_56_57 m l.length D0 _ W hown (by rw[hsz];simp only[maxLen];omega) (by rw[hsz];omega))).mono ?_;rintro e w' ⟨v,ss,rfl,hp,hrow,-,hbel⟩;have hpk:ss.Perm ks:=by rw[<-hk];exact hp.trans hperm
  have e1:(ss.mergeSort λx y=>decide (x<=y))=Li ks:=Oy hpk;rw[e1]at hrow;have e2:ss.length=(Li ks).length:=by rw[Ri];exact hpk.length_eq
  rw[e2]at hrow;obtain⟨A,c,rfl,hr⟩:=SV (S:=Btw (W.alloc (.cells #[.map (some m)] 69)) w') 9 hrow (λg h1 h2 h3=>⟨h1,h2,h3⟩) (λs hs'=>by have:=hs s (Cp.1 hs');omega);rw[Ri]at hr;exact⟨_,O,A,c,by rw[Ri],hr,.of_below hbel⟩
def QG(x:Tree):Prop:=∀S w0 cs,Rep S w0 (Wb x) cs->U2 x->Zd nodeB x=true->Rb x<=1000000000->NewC 30 #[.agg cs.toArray] (Wb (sortT x)) w0
theorem DL{xs:List Tree}{j:Nat}(h:j<xs.length):Cd (Sf (xs.take (j+1)))=Cd (Sf (xs.take j))++[Wb (sortT xs[j])]:=by
  rw[iQ h,Ud,Ud,Ci,Ci,jQ,jQ];rfl
def X8(ks:List Str)(xs:List Tree):List Tree:=(Li ks).map λkey=>(Td ks (Sf xs) key).getD (.node 0 [] [] [])
theorem H9(ks:List Str)(xs:List Tree):(X8 ks xs).length=ks.length:=by rw[X8,rQ,Ri]
theorem QS{ks:List Str}{xs:List Tree}{j:Nat}{y:Tree}(h:j<(Li ks).length)(hy:Td ks xs (Li ks)[j]=some y):Cd ((X8 ks xs).take (j+1))=Cd ((X8 ks xs).take j)++[Wb (sortT y)]:=by
  have h':j<(X8 ks xs).length:=by rw[H9,<-Ri];exact h
  rw[iQ h',Ud,Ud,jQ];simp only[X8,List.getElem_map,Kz hy,Option.getD_some];rfl
theorem LJ(k:Int)(t:Str)(ks:List Str)(xs:List Tree)(ih:∀x,x∈xs->QG x):QG (.node k t ks xs):=by
 intro S w0 cs hR hok hnx hsz;have hR:=hR.old;rw[U2]at hok;rw[Rb]at hsz;have hxn:=Ii xs;have hnx:=Se hnx;obtain⟨A,c,B,e,rfl,hk,ht,hK,hX⟩:=hR.tree_inv;have hXl:=hX.slice_len;have hKn:k=6->ks.length=xs.length:=λe=>(Tm (e▸hnx.1)).2;refine Fa func30 O ntmps30 Ib (Zc _) ?_;have hF:=FR.start w0 [];refine Ha (Df hF O ?_);rintro b1 w hb1 hF -;refine Md (cs:=#[J 0,I [],aQ,aQ]) hF mX O ?_;rintro b2 w hb2 hF -;refine Jc (Ca (Zb Mg O) (Rc (Wr aZ O hF.F 1 O O) (Ca (Zb Xh O) (Rc (Iy fZ O hF.F 1 O O) ?_))));refine Ka (w':=w) (v:=.agg #[J k,I t,aQ,aQ]) Mb (Kh hF mX oZ O ?_);rintro b3 w hb3 hF -;refine Ea (Ja (Ha (Ca (Zb Mg O) (Rc (Wr aZ O hF.F 2 O O) (Ca (Dz O O) (Ea ?_))))));refine Nc O O (λhc0=>?_) (λhc0=>?_);refine Ja (Ha (Ca (Zb Gc O) (Rc (Tf xQ O hF.F 2 O O) (Ca (Mf cX O) (Ca (Qb O) (Ea (Za ?_)))))));refine Ad (λμ σ w=>∃(j:Nat),∃(A1:Option Addr),∃(c1:Nat),∃(sb:List (Nat × Obj)),∃(cs1:List Value),μ=xs.length-j/\(j<=xs.length)/\(SlB 25 4 A1 j c1 cs1 sb)/\(RX w0 ([b3,b2,b1]++sb.map (·.1)) w (Cd (Sf (xs.take j))) cs1)/\AllEq σ [(2,V b2),(3,V b3),(18,.slice B xs.length e),(19,J ((xs.length:Nat))),(20,J ((j:Int)))]/\FR w0 [] ([(b3,.cells #[J k,I t,aQ,.slice A1 j c1] 25),(b2,.cells #[J 0,I [],aQ,aQ] 25),(b1,.cells #[J k,I t,.slice A ks.length c,.slice B xs.length e] 25)]++(sb++[])) w) _ ⟨0,none,0,[],[],O,(Nat.zero_le _),(SlB.nil _ _),(RX.nil),Xv,hF⟩ ?_;rintro μ σ w ⟨j,A1,c1,sb,cs1,rfl,hj,hS,hDX,hs,hF⟩;refine Cg.slots hs ?_;clear hs;intro σ;refine Ha (Ca (An O O) (Ea (Ja ?_)));refine Nc O O (λhc1=>?_) (λhc1=>?_);refine Wa (Ia (Ja (Za (Ha ?_))));obtain⟨ad0,cs0,hA0,hl0,hk0,hx0⟩:=hX.tree_elem (i:=j) sX;have ho0:=hx0.one_;refine Ka (v:=.pointer (some (ad0.add (j*4)))) (Ta (i:=(j:Int)) Xd O hA0 O sX sX) (Ka (v:=.agg (List.toArray cs0)) (Va (l:=cs0) zQ oZ O hl0 (hF.cells0 hk0)) ?_)
 refine Rv (l:=cs0) hF mX (by rw[hl0];exact oZ) (by rw[hl0];rfl) (v:=.agg (List.toArray cs0)) O O (ho0) O ?_;intro b4 w hb4 hF hE;have hDX:=hDX.alloc hE hb4;refine Ea (Kd (.of [7]) (bQ [0,1,2] (cQ [3,4,5] (.free 6 (.act 7 .nil)))) hF ?_);intro w hF hE;have hDX:=hDX.ext hE;refine⟨λwq=>FR w0 [] [(b4,.cells (List.toArray cs0) 25),(b3,.cells #[J k,I t,aQ,.slice A1 j c1] 25),(b2,.cells #[J 0,I [],aQ,aQ] 25),(b1,.cells #[J k,I t,.slice A ks.length c,.slice B xs.length e] 25)] wq,hF.mid 0 4,?_⟩;refine Cb O (Zb Gc O) (Vi O (Tf xQ O C0 1 O O) (Pa O (v:=.agg (List.toArray cs0)) (λw hC=>Va (l:=cs0) zQ oZ O hl0 (hC.cellsAll 0 O)) ?_));refine Jb O (ih xs[j] (eQ sX) _ _ cs0 (hF.rep hx0) (Bx hok.2.2 _ (eQ sX)) (hnx.2 _ (eQ sX)) (by have:=Sh (List.getElem_mem (l:=xs) (n:=j) sX);omega)) (Ra AZ O O) ?_;rintro _ w ⟨ct,rfl,hRt,hE⟩;have hlt:ct.length=4:=hRt.length.trans (Tc _);have hot:=hRt.one_;have hYX:=RX.made (ids:=[b4,b3,b2,b1]++sb.map (·.1)) hF.same.size (λx hx=>hF.lt_ids (by grind)) hRt;have hDX:=(hDX.ext hE).append hYX;have hF:=hF.ext hE;clear hE hYX;refine⟨hF.mid 0 4,?_⟩;refine Ie 1 O hF (Ty (l:=ct) cX oZ mX Oa Oa O hlt) ?_;intro b5 w hb5 hF hE;have hDX:=hDX.alloc hE hb5;refine⟨hF.mid 1 4,?_⟩;refine BH (news:=ct) (len':=j+1) (ys:=cs1++ct) O Mq hF hS O O (by rw[hlt]) (λ_=>⟨_,O,Vb (hF.cellsAll 0 O)⟩) (Fy hot) (by simp only[maxLen];omega) (O) (O) sX ?_;intro A1 c1 i_1 w hS1_i hF hE hnew;have hDX:=hDX.app (l:=[b5,b4,b3,b2,b1]) hE hnew;refine⟨hF.mid 1 4,?_⟩;refine Cb O (Zb Gc O) (KS (.slice _ _ _) O hF mZ O O D3.app X6 ?_);intro w hF hE;have hDX:=hDX.store hE (by grind);refine Fc (Eb (Ia (Ga (Ca (Bm O O) (Ca (Qb O) (Gb ?_))))));refine Dc ⟨_,?_,j+1,A1,c1,i_1,cs1++ct,O,sX,(by assumption),(by rw[DL sX];exact hDX.sub (by grind)),Xv,hF.drop 2⟩;omega
 refine Pc (Oc O ?_);refine Ia (Ha (Rc (Rf zQ oZ O hF.F 0 O O) ?_));refine If hF oZ O O Ct.app ?_;intro w hF hE;have hDX:=hDX.store hE (by grind);refine Ea (Cc (Bc (Ua (Uf O (l:=[J k,I t,aQ,.slice A1 j c1]) O zQ oZ O (hF.cellsAll 1 O)) ?_)));have ej:j=xs.length:=by omega
 subst ej;rw[List.take_length]at hDX;refine⟨_,O,?_,hF.same⟩;rw[sortT,if_neg hc0];exact Rep.tree_mk hk ht (Rep.nil_slice 0 sX none) (hS.rep (pre:=[_,_,_]) (post:=[]) hF hDX (by rw[Mk,Ci,rQ]));refine Wa (Ia (Ha (Rc (Rf zQ oZ O hF.F 2 O O) ?_)));have k6:k=6:=by simpa using hc0
 refine Fb (Dy k t ks xs (Tm (k6▸hnx.1)).1 (Tm (k6▸hnx.1)).2 _ _ _ (hF.rep hR)) (Ra PR O O) ?_;rintro _ w ⟨m1,l1,rfl,hge,hm1,hk1,hr1,hE⟩;have hF:=hF.cons_ext hE hm1 hge;have hr1:=hr1.back hF.same;clear hE hm1 hge;refine Ca (C3) (Jc (Ca (Pt) ?_));refine Fb (keys_c m1 l1 _ (hF.heap (i:=0) O)) (Ra en_57 O O) ?_;rintro _ w ⟨bk,rfl,hKA,hE⟩;have hF:=hF.ext hE;refine Fb (IE bk m1 l1 ks _ hKA hk1 (Tm (k6▸hnx.1)).1 sX hok.2.1) (Ra en_56 O O) ?_;rintro _ w ⟨A2,c2,rfl,hK2,hE⟩;have hKX:=RX.made (ids:=[m1,b3,b2,b1]) hF.same.size (λx hx=>hF.lt_ids (by grind)) hK2;have hF:=hF.ext hE;clear hE hK2;refine Ca (Zb Af O) (Uo (.slice _ _ _) hF lZ O O Ct D3 ?_);intro w hF hE;have hKX:=hKX.store hE (by grind);refine Ea (Ja (Ha (Ca (Zb Af O) (Rc (Tf wQ O hF.F 1 O O) (Ca (Mf bX O) (Ca (Qb O) (Ea (Za ?_))))))));refine Ad (λμ σ w=>∃(j:Nat),∃(A1:Option Addr),∃(c1:Nat),∃(sb:List (Nat × Obj)),∃(cs1:List Value),μ=ks.length-j/\(j<=ks.length)/\(SlB 25 4 A1 j c1 cs1 sb)/\(RX w0 ([m1,b3,b2,b1]++sb.map (·.1)) w (Cd ((X8 ks xs).take j)) cs1)/\(RX w0 ([m1,b3,b2,b1]++sb.map (·.1)) w [Ld (Li ks)] [.slice A2 ks.length c2])/\AllEq σ [(2,V b2),(3,V b3),(6,.map (some m1)),(40,.slice A2 ks.length c2),(41,J ((ks.length:Nat))),(42,J ((j:Int)))]/\FR w0 [] ([(m1,Zf (l1)),(b3,.cells #[J k,I t,.slice A2 ks.length c2,.slice A1 j c1] 25),(b2,.cells #[J 0,I [],aQ,aQ] 25),(b1,.cells #[J k,I t,.slice A ks.length c,.slice B xs.length e] 25)]++(sb++[])) w) _ ⟨0,none,0,[],[],O,(Nat.zero_le _),(SlB.nil _ _),(RX.nil),(hKX),TN,hF⟩ ?_;rintro μ σ w ⟨j,A1,c1,sb,cs1,rfl,hj,hS,hDX,hKX,hs,hF⟩;refine Cg.slots hs ?_;clear hs;intro σ;refine Ha (Ca (An O O) (Ea (Ja ?_)));refine Nc O O (λhc2=>?_) (λhc2=>?_);refine Wa (Ia (Ja (Za (Ha ?_))));obtain⟨ad2,hA2,hk2,hx2⟩:=hKX.rep.str_elem (i:=j) (by rw[Ri];omega);refine Ka (v:=.pointer (some (ad2.add (j*1)))) (Ta (i:=(j:Int)) Vm O hA2 O sX sX) ?_
 refine Ka (v:=I ((Li ks)[j]'(by rw[Ri];omega))) (Ob fZ O hk2) ?_;refine Ca (Dn O) (Ea ?_);refine Kd (.of [9]) (bQ [0,1,2,3,4] (cQ [5,6,7] (.free 8 (.act 9 .nil)))) hF ?_;intro w hF hE;have hDX:=hDX.ext hE;have hKX:=hKX.ext hE;refine⟨λwq=>FR w0 [] [(m1,Zf (l1)),(b3,.cells #[J k,I t,.slice A2 ks.length c2,.slice A1 j c1] 25),(b2,.cells #[J 0,I [],aQ,aQ] 25),(b1,.cells #[J k,I t,.slice A ks.length c,.slice B xs.length e] 25)] wq,hF.mid 0 4,?_⟩;refine Cb O (Zb Gc O) (Vi O (Tf xQ O C0 1 O O) (Cb O (Pt) (Cb O (Hh O) ?_)));obtain⟨cy,y,hlk,hlt_,hym,hry⟩:=KO hk1 hr1 (Cp.1 (List.getElem_mem (l:=Li ks) (n:=j) (by rw[Ri];omega)));have hoy:=hry.one_;have hly:cy.length=4:=hry.length.trans (Tc _);refine Pa O (v:=.agg (List.toArray cy)) (λw hC=>Cu jX kX mX O O (hC.heap (i:=0) O) (by rw[hlk];rfl)) ?_;refine Jb O (ih y hym _ _ cy (hF.rep hry) (Bx hok.2.2 y hym) (hnx.2 y hym) (by have:=Sh hym;omega)) (Ra AZ O O) ?_;rintro _ w ⟨ct,rfl,hRt,hE⟩;have hlt:ct.length=4:=hRt.length.trans (Tc _);have hot:=hRt.one_;have hYX:=RX.made (ids:=[m1,b3,b2,b1]++sb.map (·.1)) hF.same.size (λx hx=>hF.lt_ids (by grind)) hRt;have hDX:=(hDX.ext hE).append hYX;have hF:=hF.ext hE;have hKX:=hKX.ext hE;clear hE hYX;refine⟨hF.mid 0 4,?_⟩;refine Ie 1 O hF (Ty (l:=ct) cX oZ mX Oa Oa O hlt) ?_;intro b6 w hb6 hF hE;have hDX:=hDX.alloc hE hb6;have hKX:=hKX.alloc hE hb6;refine⟨hF.mid 1 4,?_⟩;refine BH (news:=ct) (len':=j+1) (ys:=cs1++ct) O Mq hF hS O O (by rw[hlt]) (λ_=>⟨_,O,Vb (hF.cellsAll 0 O)⟩) (Fy hot) (by simp only[maxLen];omega) (O) (O) sX ?_;intro A3 c3 i_3 w hS3_i hF hE hnew;have hDX:=hDX.app (l:=[b6,m1,b3,b2,b1]) hE hnew;have hKX:=hKX.app (l:=[b6,m1,b3,b2,b1]) hE hnew;refine⟨hF.mid 1 4,?_⟩;refine Cb O (Zb Gc O) (KS (.slice _ _ _) O hF mZ O O D3.app X6 ?_);intro w hF hE
 have hDX:=hDX.store hE (by grind);have hKX:=hKX.store hE (by grind);refine Fc (Eb (Ia (Ga (Ca (Bm O O) (Ca (Qb O) (Gb ?_))))));refine Dc ⟨_,?_,j+1,A3,c3,i_3,cs1++ct,O,sX,(by assumption),(by rw[QS (by rw[Ri];omega) hlt_];exact hDX.sub (by grind)),(hKX.sub (by grind)),TN,hF.drop 1⟩;omega;refine Pc (Oc O ?_);refine Ia (Ha (Rc (Rf zQ oZ O hF.F 1 O O) ?_));refine If hF oZ O O D3.app ?_;intro w hF hE;have hDX:=hDX.store hE (by grind);have hKX:=hKX.store hE (by grind);refine Ea (Cc (Bc (Ua (Uf O (l:=[J k,I t,.slice A2 ks.length c2,.slice A1 j c1]) O zQ oZ O (hF.cellsAll 2 O)) ?_)));have ej:j=ks.length:=by omega
 subst ej;rw[List.take_of_length_le (by rw[H9];exact gQ _)]at hDX;refine⟨_,O,?_,hF.same⟩;rw[sortT,if_pos k6]
 ·exact Rep.tree_mk hk ht hKX.done (hS.rep (pre:=[_,_,_,_]) (post:=[]) hF hDX (by rw[Mk];exact H9 ks xs))
theorem HZ(x:Tree):QG x:=Tree.ind LJ x
def zeroT:Tree:=.node 0 [] [] []
theorem Hk(S:Nat->Prop)(w:World):Rep S w (Wb zeroT) [J 0,I [],aQ,aQ] :=
  Rep.tree_mk ⟨by omega,by omega⟩ Da (Rep.nil_slice 0 sX none) (Rep.nil_slice 0 sX none)
def Vd(x:Tree):Tree:=if Ug x then sortT x else zeroT
def H5(x:Tree):Tree:=if Ug x then x else zeroT
def Xt(x:Tree)(key:Str):Tree × Bool:=if Ug x=true/\x.kind=6 then match Td x.keys x.items key with|some y=>(y,true)|none=>(zeroT,false) else (zeroT,false)
theorem IN{k:Int}{t:Str}{ks:List Str}{xs:List Tree}(h:nodeB (.node k t ks xs)=true):ks.length<=xs.length:=by
  by_cases h6:k=6
  ·subst h6;have:=(Tm h).2;omega
  have:ks=[]:=by
    simp only[nodeB]at h;by_cases h5:k=5
    ·subst h5;simp at h;exact h.1
    rw[if_neg h5, if_neg h6]at h;cases ks with
    | nil=>rfl
    | cons a l=>simp at h
  subst this;simp
theorem GE:∀x:Tree,Zd nodeB x=true->Vo x+1<=Rb x:=λx=>Tree.ind (Q:=λx=>Zd nodeB x=true->Vo x+1<=Rb x) (λk t ks xs ih h=>by
  obtain⟨h1,h2⟩:=Se h;have h3:=IN h1;have h7:∀ys:List Tree,(∀y∈ys,y∈xs)->ys.length+Qo ys<=Pb ys:=by
    intro ys
    induction ys with
    | nil=>intro _;simp[Qo,Pb]
    | cons y ys ihy =>
      intro hm;have h5:=ihy (λz hz=>hm z (by simp[hz]));have h9:=ih y (hm y Da) (h2 y (hm y Da));simp only[Qo,Pb,kQ];omega
  have:=h7 xs (λ_ h=>h);rw[Vo,Rb];omega) x
theorem Xn{key:Str}{y:Tree}:∀{ks:List Str}{xs:List Tree},Td ks xs key=some y->y∈xs
  | [],xs,h=>by cases xs <;> cases h
  | k::ks,[],h=>by cases h
  | k :: ks, x :: xs, h => by
    rw[Td]at h;by_cases he:k=key
    ·rw[if_pos he]at h;injection h with h;simp[h]
    rw[if_neg he]at h;simp[Xn h]
theorem OQ:∀{xs:List Tree},(∀x∈xs,U2 x)->GH xs
  | [],_=>by rw[GH];trivial
  | x::xs,h=>by rw[GH];exact⟨h x Da,OQ (λy hy=>h y (by simp[hy]))⟩
theorem LU{x:Tree}(h:Ug x=true):Rb x<=4096:=by
  unfold Ug Sr at h;simp only[Bool.and_eq_true,decide_eq_true_eq]at h;exact h.1.1
theorem Jt(x:Tree)(hsz:Rb x<=1000000000)(S:Nat->Prop)(w0:World)(cs:List Value)(hR:Rep S w0 (Wb x) cs)(hk:U2 x)(hG:Gl w0):NewC 11 #[.agg cs.toArray] (Wb (Vd x)) w0:=by
 have hl:cs.length=4:=hR.length.trans (Tc x);have ho:=hR.one_;refine Fa func11 O ntmps11 Ib (Zc _) ?_;have hF:=FR.start w0 [];refine Ha (Qp (v:=.agg (List.toArray cs)) (cs:=(List.toArray cs)) hF O O ?_);rintro b1 w hb1 hF -;refine Md (cs:=#[J 0,I [],aQ,aQ]) hF mX O ?_;rintro b2 w hb2 hF -;refine Ea (Ja (Ha (Ka (v:=.agg (List.toArray cs)) (Va (l:=cs) zQ oZ O hl (hF.cellsAll 1 O)) ?_)));refine Hb hF (Iz x hsz S _ cs (hF.rep hR) hk (hG.ext hF.same)) (Ra Y7 O O) ?_;intro w hF;refine Ca (Jm O) (Ea ?_);refine Ng O O (λhc0=>?_) (λhc0=>?_);refine Ha (Ka (w':=w) (v:=.agg #[J 0,I [],aQ,aQ]) Mb ?_);refine If hF oZ O O Ih ?_;rintro w hF -;refine Ea (Cc (Bc (Ua (Uf O (l:=[J 0,I [],aQ,aQ]) O zQ oZ O (hF.cellsAll 0 O)) ?_)));have ho_:Ug x=false:=by simpa using hc0
 refine⟨_,O,?_,hF.same⟩;rw[Vd,ho_];exact Hk _ _;refine Wa (Ia (Ha (Ka (v:=.agg (List.toArray cs)) (Va (l:=cs) zQ oZ O hl (hF.cellsAll 1 O)) ?_)));refine Fb (HZ x S _ cs (hF.rep hR) hk (Ik (by simpa using hc0)) hsz) (Ra AZ O O) ?_;rintro _ w ⟨ct,rfl,hRt,hE⟩;have hlct:ct.length=4:=hRt.length.trans (Tc _);have hoct:=hRt.one_;have hXX:=RX.made (ids:=[b2,b1]) hF.same.size (λx hx=>hF.lt_ids (by grind)) hRt;have hF:=hF.ext hE;clear hE hRt;refine Of 0 (l:=ct) (cs':=(List.toArray ct)) hF (by rw[hlct];exact oZ) O (v:=.agg (List.toArray ct)) O O (hoct) O (by rw[hlct];exact Nat.le_of_ble_eq_true O) (Pl (by rw[hlct];rfl)) ?_;intro w hF hE;have hXX:=hXX.store hE (by grind);refine Ea (Cc (Bc (Ua (Uf O (l:=ct) O zQ oZ hlct (hF.cellsAll 0 O)) ?_)));have ho_:Ug x=true:=by simpa using hc0
 refine⟨_,O,?_,hF.same⟩;rw[Vd,ho_]
 ·exact hXX.done
theorem IQ(x:Tree)(hsz:Rb x<=1000000000)(S:Nat->Prop)(w0:World)(cs:List Value)(hR:Rep S w0 (Wb x) cs)(hk:U2 x)(hG:Gl w0):NewC 82 #[.agg cs.toArray] (Wb (H5 x)) w0:=by
 have hl:cs.length=4:=hR.length.trans (Tc x);have ho:=hR.one_;refine Fa func82 O ntmps82 Ib (Zc _) ?_;have hF:=FR.start w0 [];refine Ha (Qp (v:=.agg (List.toArray cs)) (cs:=(List.toArray cs)) hF O O ?_);rintro b1 w hb1 hF -;refine Md (cs:=#[J 0,I [],aQ,aQ]) hF mX O ?_;rintro b2 w hb2 hF -;refine Ea (Ja (Ha (Ka (v:=.agg (List.toArray cs)) (Va (l:=cs) zQ oZ O hl (hF.cellsAll 1 O)) ?_)));refine Hb hF (Iz x hsz S _ cs (hF.rep hR) hk (hG.ext hF.same)) (Ra Y7 O O) ?_;intro w hF;refine Ca (Jm O) (Ea ?_);refine Ng O O (λhc0=>?_) (λhc0=>?_);refine Ha (Ka (w':=w) (v:=.agg #[J 0,I [],aQ,aQ]) Mb ?_);refine If hF oZ O O Ih ?_;rintro w hF -;refine Ea (Cc (Bc (Ua (Uf O (l:=[J 0,I [],aQ,aQ]) O zQ oZ O (hF.cellsAll 0 O)) ?_)));have ho_:Ug x=false:=by simpa using hc0
 refine⟨_,O,?_,hF.same⟩;rw[H5,ho_];exact Hk _ _;refine Wa (Ia (Ha (Ka (v:=.agg (List.toArray cs)) (Va (l:=cs) zQ oZ O hl (hF.cellsAll 1 O)) ?_)));refine Fb (EF x S _ cs (hF.rep hR) hsz (by have:=GE x (Ik (by simpa using hc0));omega)) (Ra HQ O O) ?_;rintro _ w ⟨ct,rfl,hRt,hE⟩;have hlct:ct.length=4:=hRt.length.trans (Tc _);have hoct:=hRt.one_;have hXX:=RX.made (ids:=[b2,b1]) hF.same.size (λx hx=>hF.lt_ids (by grind)) hRt;have hF:=hF.ext hE;clear hE hRt;refine Of 0 (l:=ct) (cs':=(List.toArray ct)) hF (by rw[hlct];exact oZ) O (v:=.agg (List.toArray ct)) O O (hoct) O (by rw[hlct];exact Nat.le_of_ble_eq_true O) (Pl (by rw[hlct];rfl)) ?_;intro w hF hE;have hXX:=hXX.store hE (by grind);refine Ea (Cc (Bc (Ua (Uf O (l:=ct) O zQ oZ hlct (hF.cellsAll 0 O)) ?_)));have ho_:Ug x=true:=by simpa using hc0
 refine⟨_,O,?_,hF.same⟩;rw[H5,ho_]
 ·exact hXX.done
theorem getV_c(k:Int)(t:Str)(ks:List Str)(xs:List Tree)(key:Str)(hsz:Rb (.node k t ks xs)<=1000000000)(S:Nat->Prop)(w0:World)(cs:List Value)(hR:Rep S w0 (Wb (.node k t ks xs)) cs)(hk:U2 (.node k t ks xs))(hG:Gl w0):Calls prog 17 #[.agg cs.toArray,I key] w0 (Wd λv w'=>∃ct:List Value,v=.tuple #[.agg ct.toArray,.bool (Xt (.node k t ks xs) key).2]/\Rep (Btw w0 w') w' (Wb (Xt (.node k t ks xs) key).1) ct/\Same [] w0 w'):=by
 have hR:=hR.old;obtain⟨A,c,B,e,rfl,-,-,hK,hX⟩:=hR.tree_inv;refine Fa func17 O ntmps17 Ib (Hd _ _) ?_;have hF:=FR.start w0 [];refine Ha (Df hF O ?_);rintro b1 w hb1 hF -;refine Md (cs:=#[J 0,I [],aQ,aQ]) hF mX O ?_;rintro b2 w hb2 hF -;refine Ca (Ic O) (Ea (Ja (Ha (Rc (Rf zQ oZ O hF.F 1 O O) ?_))));refine Hb hF (Iz (.node k t ks xs) hsz _ _ _ (hF.rep hR) hk (hG.ext hF.same)) (Ra Y7 O O) ?_;intro w hF;refine Ca (Jm O) (Ca (Fe O) ?_);refine Bf (d:=11) O (λhg0=>?_) (λhg0=>?_);refine Qa (Qa (Qa (Ca (Dd O O) (Ea (Le O (Ha ?_))))));refine Ka (w':=w) (v:=.agg #[J 0,I [],aQ,aQ]) Mb (If hF oZ O O Ih ?_);rintro w hF -;refine Ca (Ic O) (Ea ?_);refine Cc (Bc (Ua (Ee O (l:=[J 0,I [],aQ,aQ]) O zQ oZ O (hF.cellsAll 0 O) (v:=.bool false) O) ?_));have hg:Xt (.node k t ks xs) key=(zeroT,false):=by rw[Xt,if_neg];rintro⟨h1,h2⟩;rw[Tree.kind]at h2;simp_all
 refine⟨_,by rw[hg],?_,hF.same⟩;rw[hg];exact Hk _ _;refine Ca (Zb Mg O) (Rc (Wr aZ O hF.F 1 O O) (Ca (Dz O O) (Ca (Ae O O) (Ea ?_))));refine Nc O O (λhc0=>?_) (λhc0=>?_);refine Ha (Ka (w':=w) (v:=.agg #[J 0,I [],aQ,aQ]) Mb ?_);refine If hF oZ O O Ih ?_;rintro w hF -;refine Ca (Ic O) (Ea ?_);refine Cc (Bc (Ua (Ee O (l:=[J 0,I [],aQ,aQ]) O zQ oZ O (hF.cellsAll 0 O) (v:=.bool false) O) ?_));have hg:Xt (.node k t ks xs) key=(zeroT,false):=by rw[Xt,if_neg];rintro⟨h1,h2⟩;rw[Tree.kind]at h2;simp_all
 refine⟨_,by rw[hg],?_,hF.same⟩;rw[hg];exact Hk _ _;refine Wa (Ia (Ha (Rc (Rf zQ oZ O hF.F 1 O O) ?_)));have ho_:Ug (.node k t ks xs)=true:=by simp_all
 have k6:k=6:=by simp_all
 have hnx:=Se (Ik ho_);refine Fb (Dy k t ks xs (Tm (k6▸hnx.1)).1 (Tm (k6▸hnx.1)).2 _ _ _ (hF.rep hR)) (Ra PR O O) ?_;rintro _ w ⟨m1,l1,rfl,hge,hm1,hk1,hr1,hE⟩;have hF:=hF.cons_ext hE hm1 hge;have hr1:=hr1.back hF.same;clear hE hm1 hge;refine Ca (Hh O) ?_;rcases Uu key hk1 hr1 with ⟨hlk,hlt⟩|⟨cy,y,hlk,hlt,hym,hry⟩
 have hry:=Hk S w;have hkz:Vo zeroT<=8796093022208:=by decide
 have hsz_:Rb zeroT<=1000000000:=by decide
 refine Ka (v:=.tuple #[.agg #[J 0,I [],aQ,aQ],.bool false]) (Dv jX kX mX O O (hF.heap (i:=0) O) (by rw[hlk];rfl) (by rw[hlk];rfl)) ?_;refine Ca (Bo O) (Ca (Py O O) (Ca (Ar O O) ?_));refine Kh hF mX oZ O ?_;rintro b3 w hb3 hF -;refine Ca (Ic O) (Jc (Rc (Rf zQ oZ O hF.F 0 O O) ?_));refine Fb (EF zeroT S _ _ (Hk S _) hsz_ hkz) (Ra HQ O O) ?_;rintro _ w ⟨ct,rfl,hRt,hE⟩;have hlct:ct.length=4:=hRt.length.trans (Tc _);have hoct:=hRt.one_;have hXX:=RX.made (ids:=[b1,b2]) hF.same.size (λx hx=>hF.lt_ids (by grind)) hRt;have hF:=hF.ext hE;clear hE hRt;refine Ca (Fe O) ?_;refine Of 2 (l:=ct) (cs':=(List.toArray ct)) hF (by rw[hlct];exact oZ) O (v:=.agg (List.toArray ct)) O O (hoct) O (by rw[hlct];exact Nat.le_of_ble_eq_true O) (Pl (by rw[hlct];rfl)) ?_;intro w hF hE;have hXX:=hXX.store hE (by grind);refine Ca (Ic O) (Ea ?_);refine Cc (Bc (Ua (Ee O (l:=ct) O zQ oZ hlct (hF.cellsAll 2 O) (v:=.bool false) O) ?_));have hg:Xt (.node k t ks xs) key=(zeroT,false):=by rw[Xt,if_pos ⟨ho_,by rw[Tree.kind];exact k6⟩];show (match Td ks xs key with|some y=>(y,true)|none=>(zeroT,false))=_;rw[hlt]
 refine⟨_,by rw[hg],?_,hF.same⟩;rw[hg]
 ·exact hXX.done
 have hoy:=hry.one_;have hly:cy.length=4:=hry.length.trans (Tc _);have hsz_:Rb y<=1000000000:=by have:=Sh hym;rw[Rb]at hsz;omega
 have hkz:Vo y<=8796093022208:=by have:=GE y (hnx.2 y hym);omega
 refine Ka (v:=.tuple #[.agg (List.toArray cy),.bool true]) (Dv jX kX mX O O (hF.heap (i:=0) O) (by rw[hlk];rfl) (by rw[hlk];rfl)) ?_;refine Ca (Bo O) (Ca (Py O O) (Ca (Ar O O) ?_));refine Rv (l:=cy) hF mX (by rw[hly];exact oZ) (by rw[hly];rfl) (v:=.agg (List.toArray cy)) O O (hoy) O ?_;rintro b4 w hb4 hF -;refine Ca (Ic O) (Jc (Ka (v:=.agg (List.toArray cy)) (Va (l:=cy) zQ oZ O hly (hF.cellsAll 0 O)) ?_));refine Fb (EF y _ _ cy (hF.rep hry) hsz_ hkz) (Ra HQ O O) ?_;rintro _ w ⟨ct,rfl,hRt,hE⟩;have hlct:ct.length=4:=hRt.length.trans (Tc _);have hoct:=hRt.one_;have hXX:=RX.made (ids:=[b1,b2]) hF.same.size (λx hx=>hF.lt_ids (by grind)) hRt;have hF:=hF.ext hE;clear hE hRt;refine Ca (Fe O) ?_;refine Of 2 (l:=ct) (cs':=(List.toArray ct)) hF (by rw[hlct];exact oZ) O (v:=.agg (List.toArray ct)) O O (hoct) O (by rw[hlct];exact Nat.le_of_ble_eq_true O) (Pl (by rw[hlct];rfl)) ?_;intro w hF hE;have hXX:=hXX.store hE (by grind);refine Ca (Ic O) (Ea ?_);refine Cc (Bc (Ua (Ee O (l:=ct) O zQ oZ hlct (hF.cellsAll 2 O) (v:=.bool true) O) ?_));have hg:Xt (.node k t ks xs) key=(y,true):=by rw[Xt,if_pos ⟨ho_,by rw[Tree.kind];exact k6⟩];show (match Td ks xs key with|some y=>(y,true)|none=>(zeroT,false))=_;rw[hlt]
 refine⟨_,by rw[hg],?_,hF.same⟩;rw[hg]
 ·exact hXX.done
end Go.Scarf
