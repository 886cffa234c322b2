/- A part of the proof. -/
import Derived.Test.YtidlkjpohhbbcaaGreatDoorW10
import Derived.Test.YtidlkjpohhbbcaaGreatDoorIter
set_option linter.all false
set_option maxHeartbeats 8000000
set_option maxRecDepth 10000
namespace Go.Scarf
open Go.RowKit Go.Proofs Go.Proofs.Tryz
mutual
def Pn:Tree->Nat|.node _ _ ks xs=>ks.length+Rr xs
def Rr:List Tree->Nat|[]=>0|x::xs=>Pn x+Rr xs
end
theorem Zx:∀{xs:List Tree}{x:Tree},x∈xs->Pn x<=Rr xs
  | [],_,h=>absurd h Oa
  | y :: ys, x, h => by
    rw[Rr];rcases oQ.1 h with rfl|h
    ·omega
    have:=Zx h;omega
theorem U4{xs:List Tree}{j:Nat}(h:j<xs.length):Fe (xs.take (j+1))=Fe (xs.take j)++[Ob xs[j]]:=by
  rw[iQ h,Je,Je,jQ];rfl
theorem XJ{xs:List Tree}{j:Nat}(h:j<xs.length):Fe (xs.drop j)=Ob xs[j]::Fe (xs.drop (j+1)):=by
  rw[List.drop_eq_getElem_cons h];rfl
theorem RepL.lits{S S':Nat->Prop}{w w':World}:∀{ks:List Str}{cs:List Value},RepL S w (ks.map Vl) cs->RepL S' w' (ks.map Vl) cs
  | [],cs,h=>by have:=RepL.nil_inv h;subst this;exact RepL.nil_mk
  | k :: ks, cs, h => by
    obtain⟨c1,c2,rfl,h1,h2⟩:=RepL.cons_inv h;obtain⟨rfl,h3⟩:=Rep.lit_inv h1;exact RepL.cons_mk (Rep.lit_mk h3) (RepL.lits h2)
def Lie(w:World)(A:Option Addr)(n:Nat)(es:List Value):Prop:=n≠0->∃ad,A=some ad/\∀j (hj:j<es.length),w.cell? (ad.add j)=some es[j]
theorem Lie.ext{w w':World}{A:Option Addr}{n:Nat}{es:List Value}(h:Lie w A n es)(hs:Same [] w w'):Lie w' A n es:=λhn=>by
  obtain⟨ad,hA,hc⟩:=h hn;exact⟨ad,hA,λj hj=>((FR.start w []).ext hs).cells0 hc j hj⟩
def AF(e m n:Nat)(es:List Value)(w0:World)(v:Value)(w':World):Prop :=
  ∃A c sb,v=.slice A n c/\SlB e m A n c es sb/\(∀p∈sb,w'.heap[p.1]? = some p.2/\w0.heap.size<=p.1)/\Same [] w0 w'
theorem Rep.slice_open{S:Nat->Prop}{w:World}{ds:List D}{A:Option Addr}{n c m:Nat}(h:Rep S w (.slice ds) [.slice A n c])(hm:∀d∈ds,Wd d=m) :
    ∃es,RepL S w ds es/\es.length=n*m/\Lie w A n es:=by
  have hl:=h.slice_len;obtain⟨A',c',hA,_,_,hr⟩:=Rep.slice_inv h;simp only[List.cons.injEq,Value.slice.injEq,and_true]at hA;obtain⟨rfl,_,_⟩:=hA;have hsz:∀ds:List D,(∀d∈ds,Wd d=m)->Wd.sizeL ds=ds.length*m:=by
    intro ds
    induction ds with
    | nil=>intro _;simp[Wd.sizeL]
    | cons d ds ih=>intro h;rw[Wd.sizeL,h d Oa,ih (λx hx=>h x (by simp[hx])),kQ,Nat.add_mul];omega
  by_cases hne:ds=[]
  ·subst hne
   exact⟨[],RepL.nil_mk,by simp[hl.1],λh=>absurd hl.1 (by simpa using h)⟩
  obtain⟨ad, rfl, es, hc, hr⟩ := hr hne;exact⟨es,hr,by rw[hr.length,hsz ds hm,hl.1],λ_=>⟨ad,O,λj hj=>(hc j hj).1⟩⟩
theorem K3(ks:List Str):∀d∈ks.map Vl,Wd d=1:=λd hd=>by obtain⟨k,_,rfl⟩:=nQ.1 hd;rfl
theorem UQ(xs:List Tree):∀d∈Fe xs,Wd d=4:=λd hd=>by rw[Je]at hd;obtain⟨k,_,rfl⟩:=nQ.1 hd;exact Hc k
theorem FR.sbown{w0 w:World}{pre sb post:List (Nat × Obj)}(h:FR w0 [] (pre++(sb++post)) w):∀p∈sb,w.heap[p.1]? = some p.2/\w0.heap.size<=p.1:=λp hp=>by
  have:=h.own p (by simp[hp]);refine⟨this.1,?_⟩;rcases this.2 with h|h
  ·exact h
  cases h
theorem SlB.soft{e m n c:Nat}{A:Option Addr}{es:List Value}{sb:List (Nat × Obj)}{w:World}(h:SlB e m A n c es sb)(hb:∀p∈sb,w.heap[p.1]? = some p.2):∀p∈sb,Pr w p.1:=λp hp=>by
  have h2:∃cur,p=(p.1,.cells cur e):=by
    rcases h.2 with ⟨-,-,rfl⟩|⟨g,cur,-,rfl,-⟩
    ·cases hp
    simp only[pQ]at hp;subst hp;exact⟨cur,rfl⟩
  obtain⟨cur,h2⟩:=h2;have:=hb p hp;rw[h2]at this;exact⟨cur,e,this⟩
theorem SlB.btw{e m n c:Nat}{A:Option Addr}{es:List Value}{sb:List (Nat × Obj)}{w w':World}{ds:List D}(h:SlB e m A n c es sb)(hb:∀p∈sb,w'.heap[p.1]? = some p.2/\w.heap.size<=p.1)(hr:RepL (Btw w w') w' ds es)(hn:ds.length=n):Rep (Btw w w') w' (.slice ds) [.slice A n c] :=
  h.repOf (λp hp=>⟨(hb p hp).1,(hb p hp).2,Ac (hb p hp).1,h.soft (λp hp=>(hb p hp).1) p hp⟩) hr hn
theorem KH{S:Nat->Prop}{w0 w w':World}{ks:List Str}{es:List Value}{v:Value}(h:AF 9 1 ks.length es w v w')(hr:RepL S w0 (ks.map Vl) es):∃A c,v=.slice A ks.length c/\Rep (Btw w w') w' (Oh ks) [.slice A ks.length c]/\Same [] w w':=by
  obtain⟨A,c,sb,rfl,hS,hb,hE⟩:=h;exact⟨A,c,O,hS.btw hb hr.lits Oa,hE⟩
theorem BY(len:Nat)(A:Option Addr)(c:Nat)(es:List Value)(w0:World)(hel:es.length=len*1)(hcell:Lie w0 A len es)(ho:∀v∈es,one v=true)(hb:len<=8796093022208):Calls prog 207 #[.slice A len c] w0 (Yc λv w'=>AF 9 1 len es w0 v w'):=by
 refine Fa func207 O ntmps207 Ab (Wb _) ?_;have hF:=FR.start w0 [];refine Ea (Ba (Yi O) (Da (Ga (Ea (Ba (Hd O) (Ia (v:=.bool ((A).isNone)) (Y6 cX O O) (Da ?_)))))));refine Jd O O (λhc0=>?_) (λhc0=>?_);have hA:A=none:=by simpa using hc0
 refine Ea (Ba (Yi O) (Da ?_));refine Gc (v:=.slice _ _ _) O O ?_;have h0:len=0:=by rcases Nat.eq_zero_or_pos len with h|h;exact h;obtain⟨ad,hh,_⟩:=hcell Aa;rw[hA]at hh;cases hh
 have hes:es=[]:=List.eq_nil_of_length_eq_zero (by rw[hel,h0,Nat.zero_mul]);subst hes;exact⟨none,0,[],by rw[h0],by rw[h0];exact SlB.nil _ _,by simp,hF.same⟩;refine Ka (Ha (Ea ?_));refine Mh 0 hF (Dm cX sZ) ?_;rintro b1 w hb1 hF -;have hS0:SlB 9 1 (some ⟨b1,0,none⟩) 0 0 [] [(b1,.cells #[] 9)]:=⟨by simp,.inr ⟨b1,#[],rfl,rfl,gQ _,Nat.zero_le _,by simp,by simp⟩⟩;refine Ba (Hd O) ?_;refine Up [] [] (news:=es) (len':=0+len) (ys:=[]++es) Av hF hS0 rfl rfl (by rw[hel]) (λhk=>by obtain⟨ad,hA,hc⟩:=hcell hk;exact⟨ad,hA,Jc (hF.cells0 hc)⟩) (Mi ho) (by simp only[maxLen];omega) (rfl) (rfl) Aa ?_;intro A0 c0 a_0 w hS0_a hF hE hnew;refine Ba (Yi O) (Da ?_);refine Gc (v:=.slice _ _ _) O O ?_;simp only[Nat.zero_add,List.nil_append]at *;exact⟨_,_,_,O,by assumption,hF.sbown (pre:=[]) (post:=[]),hF.same⟩
theorem UW(len:Nat)(A:Option Addr)(c:Nat)(es:List Value)(w0:World)(hel:es.length=len*4)(hcell:Lie w0 A len es)(ho:∀v∈es,one v=true)(hb:len<=1000000000):Calls prog 208 #[.slice A len c] w0 (Yc λv w'=>AF 36 4 len es w0 v w'):=by
 refine Fa func208 O ntmps208 Ab (Wb _) ?_;have hF:=FR.start w0 [];refine Ea (Ba (Yi O) (Da (Ga (Ea (Ba (Hd O) (Ia (v:=.bool ((A).isNone)) (Y6 dX O O) (Da ?_)))))));refine Jd O O (λhc0=>?_) (λhc0=>?_);have hA:A=none:=by simpa using hc0
 refine Ea (Ba (Yi O) (Da ?_));refine Gc (v:=.slice _ _ _) O O ?_;have h0:len=0:=by rcases Nat.eq_zero_or_pos len with h|h;exact h;obtain⟨ad,hh,_⟩:=hcell Aa;rw[hA]at hh;cases hh
 have hes:es=[]:=List.eq_nil_of_length_eq_zero (by rw[hel,h0,Nat.zero_mul]);subst hes;exact⟨none,0,[],by rw[h0],by rw[h0];exact SlB.nil _ _,by simp,hF.same⟩;refine Ka (Ha (Ea ?_));refine Mh 0 hF (Dm dX nZ) ?_;rintro b1 w hb1 hF -;have hS0:SlB 36 4 (some ⟨b1,0,none⟩) 0 0 [] [(b1,.cells #[] 36)]:=⟨by simp,.inr ⟨b1,#[],rfl,rfl,gQ _,Nat.zero_le _,by simp,by simp⟩⟩;refine Ba (Hd O) ?_;refine Up [] [] (news:=es) (len':=0+len) (ys:=[]++es) Np hF hS0 rfl rfl (by rw[hel]) (λhk=>by obtain⟨ad,hA,hc⟩:=hcell hk;exact⟨ad,hA,Jc (hF.cells0 hc)⟩) (Mi ho) (by simp only[maxLen];omega) (rfl) (rfl) Aa ?_;intro A0 c0 a_0 w hS0_a hF hE hnew;refine Ba (Yi O) (Da ?_);refine Gc (v:=.slice _ _ _) O O ?_;simp only[Nat.zero_add,List.nil_append]at *;exact⟨_,_,_,O,by assumption,hF.sbown (pre:=[]) (post:=[]),hF.same⟩
def QJ(F:Nat)(args:Array Value)(d:D)(w0:World):Prop:=Calls prog F args w0 (Yc λv w'=>∃ct:List Value,v=.agg ct.toArray/\Rep (Btw w0 w') w' d ct/\Same [] w0 w')
def FN(x:Tree):Prop:=∀S w0 cs,Rep S w0 (Ob x) cs->Nb x<=1000000000->(Pn x<=8796093022208)->QJ 149 #[.agg cs.toArray] (Ob x) w0
theorem SM(k:Int)(t:Str)(ks:List Str)(xs:List Tree)(ih:∀x,x∈xs->FN x):FN (.node k t ks xs):=by
 intro S w0 cs hR hsz hky;rw[Nb]at hsz;rw[Pn]at hky;have hxn:=Yj xs;obtain⟨A,c,B,e,rfl,hk,ht,hK,hX⟩:=hR.tree_inv;obtain⟨eK,hrK,hKl,hKc⟩:=hK.slice_open (K3 ks);obtain⟨eX,hrX,hXl,hXc⟩:=hX.slice_open (UQ xs);refine Fa func149 O ntmps149 Ab (Wb _) ?_;have hF:=FR.start w0 [];refine Ea (Ce hF O ?_);rintro b1 w hb1 hF -;refine Pc (cs:=#[J 0,I [],aQ,aQ]) hF oX O ?_;rintro b2 w hb2 hF -;refine Da (Ga ?_);refine De (zs:=.of [9,7]) (bQ [0,1,3,4] (.act 2 (.free 6 (.act 5 (.act 7 (.free 8 (.act 9 .nil))))))) hF ?_;intro w hF;refine Ib O (Mb Tc O) (Ng O (Ie yQ O C0 1 O O) (Ib O (Mb Tb O) (Ng O (Ie zQ O C0 1 O O) ?_)));refine Dd O (BY ks.length A c eK _ hKl (Lie.ext hKc hF.same) hrK.one_ Aa) (Ma en_207 O O) ?_;rintro _ w hcl;obtain⟨A1,c1,rfl,hK1,hE⟩:=KH hcl hrK;have hKX:=RX.made (ids:=[b2,b1]) hF.same.size (λx hx=>hF.lt_ids (by grind)) hK1;have hF:=hF.ext hE;clear hE hcl hK1;refine⟨hF,?_⟩;refine Ib O (Mb Tc O) (Dd O (UW xs.length B e eX _ hXl (Lie.ext hXc hF.same) hrX.one_ Aa) (Ma en_208 O O) ?_);rintro _ w ⟨A2,c2,sb2,rfl,hS2,hh2,hE⟩;have hKX:=hKX.step (ids':=[b2,b1]++sb2.map (·.1)) hE Oa (λx hx=>by rcases mQ.1 hx with hx|hx;exact .inl hx;obtain⟨p,hp,rfl⟩:=nQ.1 hx;exact .inr (hh2 p hp).2);have hF:=hF.extseg hE hh2 hS2.pw;refine⟨hF.mid 0 2,?_⟩;refine FQ (.slice _ _ _) O hF sizeOf33 O O Tr.app V3 ?_;intro w hF hE;have hKX:=hKX.store hE (by grind);refine Ib O (Mb Tb O) (FQ (.slice _ _ _) O hF mZ O O Tr.app N_ ?_);intro w hF hE;have hKX:=hKX.store hE (by grind);refine Ic (Ha (Ga (Ea (Ba (Mb Tb O) (Xb (Ie zQ O hF.F 1 O O) (Ba (Nf dX O) (Ba (Za O) (Da (Qa ?_)))))))));refine Fc (λμ σ w=>∃(j:Nat),∃(dn:List Value),∃(rs:List Value),∃(sb:List (Nat × Obj)),μ=xs.length-j/\(j<=xs.length)/\(SlB 36 4 A2 xs.length c2 (dn++rs) sb)/\(dn.length=j*4)/\(RepL S w0 (Fe (xs.drop j)) rs)/\(RX w0 ([b2,b1]++sb.map (·.1)) w (Fe (xs.take j)) dn)/\(RX w0 ([b2,b1]++sb.map (·.1)) w [Oh ks] [.slice A1 ks.length c1])/\AllEq σ [(1,V b1),(2,V b2),(14,.slice A2 xs.length c2),(15,J ((xs.length:Nat))),(16,J ((j:Int)))]/\FR w0 [] ([(b2,.cells #[J 0,I [],aQ,aQ] 36),(b1,.cells #[J k,I t,.slice A1 ks.length c1,.slice A2 xs.length c2] 36)]++(sb++[])) w) _ ⟨0,[],eX,sb2,O,(Nat.zero_le _),(hS2),(O),(by simpa using hrX),(RX.nil),(hKX),Uq,hF⟩ ?_
 rintro μ σ w ⟨j,dn,rs,sb,rfl,hj,hS,hd,hrr,hDX,hKX,hs,hF⟩;refine Cg.slots hs ?_;clear hs;intro σ;refine Ea (Ba (Pg O O) (Da (Ga ?_)));refine Jb O O (λhc0=>?_) (λhc0=>?_);refine Ka (Ha (Ga (Qa (Ea (Ba (Za O) ?_)))));have hjx:j<xs.length:=by omega
 rw[XJ hjx]at hrr;obtain⟨c1_,c2_,rfl,hr1,hr2⟩:=RepL.cons_inv hrr;have hl1:c1_.length=4:=hr1.length.trans (Hc _);have ho1:=hr1.one_;obtain⟨ad0,hA0,hk0⟩:=hS.elemMid (pre:=[(b2,.cells #[J 0,I [],aQ,aQ] 36),(b1,.cells #[J k,I t,.slice A1 ks.length c1,.slice A2 xs.length c2] 36)]) (post:=[]) (pr:=dn) (mid:=c1_) (po:=c2_) hF (j:=j) hd hl1 (hjx);refine Ia (v:=.pointer (some (ad0.add (j*4)))) (Na (i:=(j:Int)) Wf O hA0 O Aa Aa) (Ia (v:=.agg (List.toArray c1_)) (Wa (l:=c1_) aZ nZ O hl1 hk0) ?_);refine Pc (cs:=#[J 0,I [],aQ,aQ]) hF oX O ?_;intro b3 w hb3 hF hE;have hKX:=hKX.alloc hE hb3;have hDX:=hDX.alloc hE hb3;refine Ba (Fb O) ?_;refine Fg 0 (l:=c1_) (cs':=(List.toArray c1_)) hF (by rw[hl1];exact nZ) O (v:=.agg (List.toArray c1_)) O O (ho1) O (by rw[hl1];exact Nat.le_of_ble_eq_true O) (Gn (by rw[hl1];rfl)) ?_;intro w hF hE;have hKX:=hKX.store hE (by grind);have hDX:=hDX.store hE (by grind);refine Da (Md (.of [6]) (bQ [0,1,2,3] (.act 4 (.free 5 (.act 6 .nil)))) hF ?_);intro w hF hE;have hKX:=hKX.ext hE;have hDX:=hDX.ext hE;refine⟨λwq=>FR w0 [] [(b3,.cells (List.toArray c1_) 36),(b2,.cells #[J 0,I [],aQ,aQ] 36),(b1,.cells #[J k,I t,.slice A1 ks.length c1,.slice A2 xs.length c2] 36)] wq,hF.mid 0 3,?_⟩;refine Ib O (Mb Tb O) (Ng O (Ie zQ O C0 2 O O) (Ib O (Za O) (Sa O (v:=.agg (List.toArray c1_)) (λw hC=>Wa (l:=c1_) aZ nZ O hl1 (hC.cellsAll 0 O)) ?_)));refine Dd O (ih xs[j] (eQ hjx) S _ c1_ (hF.rep hr1) (by have:=Lg (eQ hjx);omega) (by have:=Zx (eQ hjx);omega)) (Ma en_149 O O) ?_;rintro _ w ⟨ct,rfl,hRt,hE⟩;have hlt:ct.length=4:=hRt.length.trans (Hc _);have hot:=hRt.one_;have hYX:=RX.made (ids:=b3::([b2,b1]++sb.map (·.1))) hF.same.size (λx hx=>hF.lt_ids (by grind)) hRt;have hKX:=hKX.ext hE;have hDX:=(hDX.ext hE).append hYX;have hF:=hF.ext hE
 clear hE hYX;refine⟨hF.mid 0 3,?_⟩;obtain⟨ad1,hA1,hk1⟩:=hS.elemMid (pre:=[(b3,.cells (List.toArray c1_) 36),(b2,.cells #[J 0,I [],aQ,aQ] 36),(b1,.cells #[J k,I t,.slice A1 ks.length c1,.slice A2 xs.length c2] 36)]) (post:=[]) (pr:=dn) (mid:=c1_) (po:=c2_) hF (j:=j) hd hl1 (hjx);refine Sa O (v:=.pointer (some (ad1.add (j*4)))) (λw hC=>Na (i:=(j:Int)) Wf O hA1 O Aa Aa) (ZW [(b3,.cells (List.toArray c1_) 36),(b2,.cells #[J 0,I [],aQ,aQ] 36),(b1,.cells #[J k,I t,.slice A1 ks.length c1,.slice A2 xs.length c2] 36)] [] O hF (pr:=dn) (mid:=c1_) (po:=c2_) (new:=ct) (j:=j) hS hd hl1 hA1 (hjx) nZ O (v:=.agg (List.toArray ct)) O O hlt hot ?_);intro i_2 w hS2_i hF hE hids;have hKX:=hKX.store hE (by grind);have hDX:=hDX.store hE (by grind);refine Ic (Ya (Ha (Ja (Ba (Cl O O) (Ba (Za O) (Va ?_))))));refine Ta ⟨_,?_,j+1,dn++ct,c2_,i_2,O,(hjx),(by simpa using hS2_i),(by rw[dQ,hd,hlt];omega),(hr2),(by rw[U4 hjx,hids];exact hDX.sub (λx hx=>List.mem_cons_of_mem _ hx)),(by rw[hids];exact hKX.sub (λx hx=>List.mem_cons_of_mem _ hx)),Uq,hF.drop 1⟩;omega;refine Bc (Yb O ?_);refine Ha (Ea (Xb (Bf aZ nZ O hF.F 1 O O) ?_));refine Ge hF nZ O O Pi.app ?_;intro w hF hE;have hKX:=hKX.store hE (by grind);have hDX:=hDX.store hE (by grind);refine Da (Db (Cb (La (Mg O (l:=[J k,I t,.slice A1 ks.length c1,.slice A2 xs.length c2]) O aZ nZ O (hF.cellsAll 0 O)) ?_)));have ej:j=xs.length:=by omega
 subst ej;rw[List.take_length]at hDX;have e0:rs=[]:=by rw[List.drop_length]at hrr;exact RepL.nil_inv hrr
 subst e0;rw[qQ]at hS;refine⟨_,O,?_,hF.same⟩
 ·exact Rep.tree_mk hk ht hKX.done (hS.rep (pre:=[_,_]) (post:=[]) hF hDX Oa)
theorem clone_c(x:Tree):FN x:=Tree.ind SM x
mutual
def sortT:Tree->Tree
  | .node k t ks xs=>if k=6 then .node k t (Bg ks) ((Bg ks).map λkey=>(Ig ks (Ff xs) key).getD (.node 0 [] [] [])) else .node k t [] (Ff xs)
def Ff:List Tree->List Tree
  | []=>[]
  | x::xs=>sortT x::Ff xs
end
theorem Qh:∀xs:List Tree,Ff xs=xs.map sortT
  | []=>rfl
  | x::xs=>by rw[Ff,Qh xs,List.map_cons]
theorem Ty{key:Str}{y:Tree}:∀{ks:List Str}{xs:List Tree},Ig ks xs key=some y->Ig ks (Ff xs) key=some (sortT y)
  | [],xs,h=>by cases xs <;> cases h
  | k::ks,[],h=>by cases h
  | k :: ks, x :: xs, h => by
    rw[Ff,Ig];rw[Ig]at h;by_cases he:k=key
    ·rw[if_pos he]at h ⊢;injection h with h;rw[h]
    rw[if_neg he]at h ⊢;exact Ty h
theorem LO{S:Nat->Prop}{w:World}{key:Str}{ks:List Str}{xs:List Tree}{l:MapL}(hk:l.map (·.1)=ks)(hm:MapRep S w xs l)(hin:key∈ks) :
    ∃(cs:List Value)(y:Tree),Wh l key=some (.agg cs.toArray)/\Ig ks xs key=some y/\y∈xs/\Rep S w (Ob y) cs:=by
  rcases D7 key hk hm with ⟨h,-⟩|h
  ·exfalso
   rw[<-hk]at hin;obtain⟨x,hx,hxe⟩:=nQ.1 hin;unfold Wh at h;rw[Option.map_eq_none_iff,List.find?_eq_none]at h;exact h x hx (by simpa using hxe)
  exact h
theorem MapRep.back{S:Nat->Prop}{w0 w:World}{xs:List Tree}{l:MapL}(h:MapRep (Old S w0) w xs l)(hs:Same [] w0 w):MapRep (Old S w0) w0 xs l:=λi hi=>by
  obtain⟨cs,h1,h2,h3⟩:=h i hi;exact⟨cs,h1,h2,h3.back hs⟩
def KeysAt(w1:World)(bk m:Nat)(l:MapL):Prop:=∃W:World,w1=W.alloc (.cells #[.map (some m)] 166)/\bk=W.heap.size/\W.heap[m]? = some (Si l)
theorem keys_c(m:Nat)(l:MapL)(w:World)(hm:w.heap[m]? = some (Si l)):Calls prog 139 #[.map (some m)] w (Yc λv w'=>∃bk,v=.func (.func 203) #[] #[V bk]/\KeysAt w' bk m l/\Same [] w w') :=
  (callsIn_wide.1 (maps_Keys_139 (some m) w)).mono λ_ _ ⟨he,hw⟩=>⟨_,he,w.heap.size,rfl,⟨w,hw,rfl,hm⟩,by rw[hw];exact Same.alloc w _⟩
theorem WD(bk m:Nat)(l:MapL)(ks:List Str)(w:World)(h:KeysAt w bk m l)(hk:l.map (·.1)=ks)(hn:ks.Nodup)(hb:ks.length<=1000000000)(hs:∀s∈ks,s.length<=140737488355328) :
    Calls prog 138 #[.func (.func 203) #[] #[V bk]] w (Yc λv w'=>∃A c,v=.slice A ks.length c/\Rep (Btw w w') w' (Oh (Bg ks)) [.slice A ks.length c]/\Same [] w w'):=by
  obtain⟨W,rfl,rfl,hm⟩:=h;have hl:l.length=ks.length:=by rw[<-hk,rQ]
  obtain⟨D0,hown,hperm,hsz⟩:=TM (P:=prog) kX hm (by rw[hk];exact hn) (λx hx=>by have:=hs x.1 (by rw[<-hk];exact List.mem_map_of_mem hx);simp only[maxLen];omega) (by simp only[maxLen];omega);refine (callsIn_wide.1 (slices_Sorted_keys_138_139 m l.length D0 _ W hown (by rw[hsz];simp only[maxLen];omega) (by rw[hsz];omega))).mono ?_;rintro e w' ⟨v,ss,rfl,hp,hrow,-,hbel⟩;have hpk:ss.Perm ks:=by rw[<-hk];exact hp.trans hperm
  have e1:(ss.mergeSort λx y=>decide (x<=y))=Bg ks:=S_ hpk;rw[e1]at hrow;have e2:ss.length=(Bg ks).length:=by rw[Tf];exact hpk.length_eq
  rw[e2]at hrow;obtain⟨A,c,rfl,hr⟩:=row_strs (S:=Btw (W.alloc (.cells #[.map (some m)] 166)) w') 9 hrow (λg h1 h2 h3=>⟨h1,h2,h3⟩) (λs hs'=>by have:=hs s (Cp.1 hs');omega);rw[Tf]at hr;exact⟨_,O,A,c,by rw[Tf],hr,.of_below hbel⟩
def NE(x:Tree):Prop:=∀S w0 cs,Rep S w0 (Ob x) cs->Tq x->Me nodeB x=true->Nb x<=1000000000->QJ 83 #[.agg cs.toArray] (Ob (sortT x)) w0
theorem W4{xs:List Tree}{j:Nat}(h:j<xs.length):Fe (Ff (xs.take (j+1)))=Fe (Ff (xs.take j))++[Ob (sortT xs[j])]:=by
  rw[iQ h,Je,Je,Qh,Qh,jQ,jQ];rfl
def By(ks:List Str)(xs:List Tree):List Tree:=(Bg ks).map λkey=>(Ig ks (Ff xs) key).getD (.node 0 [] [] [])
theorem Fo(ks:List Str)(xs:List Tree):(By ks xs).length=ks.length:=by rw[By,rQ,Tf]
theorem QA{ks:List Str}{xs:List Tree}{j:Nat}{y:Tree}(h:j<(Bg ks).length)(hy:Ig ks xs (Bg ks)[j]=some y):Fe ((By ks xs).take (j+1))=Fe ((By ks xs).take j)++[Ob (sortT y)]:=by
  have h':j<(By ks xs).length:=by rw[Fo,<-Tf];exact h
  rw[iQ h',Je,Je,jQ];simp only[By,List.getElem_map,Ty hy,Option.getD_some];rfl
theorem QG(k:Int)(t:Str)(ks:List Str)(xs:List Tree)(ih:∀x,x∈xs->NE x):NE (.node k t ks xs):=by
 intro S w0 cs hR hok hnx hsz;have hR:=hR.old;rw[Tq]at hok;rw[Nb]at hsz;have hxn:=Yj xs;have hnx:=Bh hnx;obtain⟨A,c,B,e,rfl,hk,ht,hK,hX⟩:=hR.tree_inv;have hXl:=hX.slice_len;have hKn:k=6->ks.length=xs.length:=λe=>(Wv (e▸hnx.1)).2;refine Fa func83 O ntmps83 Ab (Wb _) ?_;have hF:=FR.start w0 [];refine Ea (Ce hF O ?_);rintro b1 w hb1 hF -;refine Pc (cs:=#[J 0,I [],aQ,aQ]) hF oX O ?_;rintro b2 w hb2 hF -;refine Lb (Ba (Mb Xc O) (Xb (Zg xQ O hF.F 1 O O) (Ba (Mb Id O) (Xb (Ej iZ O hF.F 1 O O) ?_))));refine Ia (w':=w) (v:=.agg #[J k,I t,aQ,aQ]) Qb (If hF oX nZ O ?_);rintro b3 w hb3 hF -;refine Da (Ga (Ea (Ba (Mb Xc O) (Xb (Zg xQ O hF.F 2 O O) (Ba (Wm O O) (Da ?_))))));refine Jb O O (λhc0=>?_) (λhc0=>?_);refine Ga (Ea (Ba (Mb Tb O) (Xb (Ie zQ O hF.F 2 O O) (Ba (Nf dX O) (Ba (Za O) (Da (Qa ?_)))))));refine Fc (λμ σ w=>∃(j:Nat),∃(A1:Option Addr),∃(c1:Nat),∃(sb:List (Nat × Obj)),∃(cs1:List Value),μ=xs.length-j/\(j<=xs.length)/\(SlB 36 4 A1 j c1 cs1 sb)/\(RX w0 ([b3,b2,b1]++sb.map (·.1)) w (Fe (Ff (xs.take j))) cs1)/\AllEq σ [(2,V b2),(3,V b3),(18,.slice B xs.length e),(19,J ((xs.length:Nat))),(20,J ((j:Int)))]/\FR w0 [] ([(b3,.cells #[J k,I t,aQ,.slice A1 j c1] 36),(b2,.cells #[J 0,I [],aQ,aQ] 36),(b1,.cells #[J k,I t,.slice A ks.length c,.slice B xs.length e] 36)]++(sb++[])) w) _ ⟨0,none,0,[],[],O,(Nat.zero_le _),(SlB.nil _ _),(RX.nil),Uq,hF⟩ ?_;rintro μ σ w ⟨j,A1,c1,sb,cs1,rfl,hj,hS,hDX,hs,hF⟩;refine Cg.slots hs ?_;clear hs;intro σ;refine Ea (Ba (Pg O O) (Da (Ga ?_)));refine Jb O O (λhc1=>?_) (λhc1=>?_);refine Ka (Ha (Ga (Qa (Ea ?_))));obtain⟨ad0,cs0,hA0,hl0,hk0,hx0⟩:=hX.tree_elem (i:=j) Aa;have ho0:=hx0.one_;refine Ia (v:=.pointer (some (ad0.add (j*4)))) (Na (i:=(j:Int)) Wf O hA0 O Aa Aa) (Ia (v:=.agg (List.toArray cs0)) (Wa (l:=cs0) aZ nZ O hl0 (hF.cells0 hk0)) ?_)
 refine J4 (l:=cs0) hF oX (by rw[hl0];exact nZ) (by rw[hl0];rfl) (v:=.agg (List.toArray cs0)) O O (ho0) O ?_;intro b4 w hb4 hF hE;have hDX:=hDX.alloc hE hb4;refine Da (Md (.of [7]) (bQ [0,1,2] (cQ [3,4,5] (.free 6 (.act 7 .nil)))) hF ?_);intro w hF hE;have hDX:=hDX.ext hE;refine⟨λwq=>FR w0 [] [(b4,.cells (List.toArray cs0) 36),(b3,.cells #[J k,I t,aQ,.slice A1 j c1] 36),(b2,.cells #[J 0,I [],aQ,aQ] 36),(b1,.cells #[J k,I t,.slice A ks.length c,.slice B xs.length e] 36)] wq,hF.mid 0 4,?_⟩;refine Ib O (Mb Tb O) (Ng O (Ie zQ O C0 1 O O) (Sa O (v:=.agg (List.toArray cs0)) (λw hC=>Wa (l:=cs0) aZ nZ O hl0 (hC.cellsAll 0 O)) ?_));refine Dd O (ih xs[j] (eQ Aa) _ _ cs0 (hF.rep hx0) (Xl hok.2.2 _ (eQ Aa)) (hnx.2 _ (eQ Aa)) (by have:=Lg (List.getElem_mem (l:=xs) (n:=j) Aa);omega)) (Ma CK O O) ?_;rintro _ w ⟨ct,rfl,hRt,hE⟩;have hlt:ct.length=4:=hRt.length.trans (Hc _);have hot:=hRt.one_;have hYX:=RX.made (ids:=[b4,b3,b2,b1]++sb.map (·.1)) hF.same.size (λx hx=>hF.lt_ids (by grind)) hRt;have hDX:=(hDX.ext hE).append hYX;have hF:=hF.ext hE;clear hE hYX;refine⟨hF.mid 0 4,?_⟩;refine Jf 1 O hF (Wl (l:=ct) dX nZ oX Ua Ua O hlt) ?_;intro b5 w hb5 hF hE;have hDX:=hDX.alloc hE hb5;refine⟨hF.mid 1 4,?_⟩;refine IL (news:=ct) (len':=j+1) (ys:=cs1++ct) O Np hF hS O O (by rw[hlt]) (λ_=>⟨_,O,Jc (hF.cellsAll 0 O)⟩) (Mi hot) (by simp only[maxLen];omega) (O) (O) Aa ?_;intro A1 c1 i_1 w hS1_i hF hE hnew;have hDX:=hDX.app (l:=[b5,b4,b3,b2,b1]) hE hnew;refine⟨hF.mid 1 4,?_⟩;refine Ib O (Mb Tb O) (FQ (.slice _ _ _) O hF mZ O O V3.app N_ ?_);intro w hF hE;have hDX:=hDX.store hE (by grind);refine Ic (Ya (Ha (Ja (Ba (Cl O O) (Ba (Za O) (Va ?_))))));refine Ta ⟨_,?_,j+1,A1,c1,i_1,cs1++ct,O,Aa,(by assumption),(by rw[W4 Aa];exact hDX.sub (by grind)),Uq,hF.drop 2⟩;omega
 refine Bc (Yb O ?_);refine Ha (Ea (Xb (Bf aZ nZ O hF.F 0 O O) ?_));refine Ge hF nZ O O Tr.app ?_;intro w hF hE;have hDX:=hDX.store hE (by grind);refine Da (Db (Cb (La (Mg O (l:=[J k,I t,aQ,.slice A1 j c1]) O aZ nZ O (hF.cellsAll 1 O)) ?_)));have ej:j=xs.length:=by omega
 subst ej;rw[List.take_length]at hDX;refine⟨_,O,?_,hF.same⟩;rw[sortT,if_neg hc0];exact Rep.tree_mk hk ht (Rep.nil_slice 0 Aa none) (hS.rep (pre:=[_,_,_]) (post:=[]) hF hDX (by rw[Eh,Qh,rQ]));refine Ka (Ha (Ea (Xb (Bf aZ nZ O hF.F 2 O O) ?_)));have k6:k=6:=by simpa using hc0
 refine Eb (WV k t ks xs (Wv (k6▸hnx.1)).1 (Wv (k6▸hnx.1)).2 _ _ _ (hF.rep hR)) (Ma en_137 O O) ?_;rintro _ w ⟨m1,l1,rfl,hge,hm1,hk1,hr1,hE⟩;have hF:=hF.cons_ext hE hm1 hge;have hr1:=hr1.back hF.same;clear hE hm1 hge;refine Ba (O2) (Lb (Ba (Pu) ?_));refine Eb (keys_c m1 l1 _ (hF.heap (i:=0) O)) (Ma en_139 O O) ?_;rintro _ w ⟨bk,rfl,hKA,hE⟩;have hF:=hF.ext hE;refine Eb (WD bk m1 l1 ks _ hKA hk1 (Wv (k6▸hnx.1)).1 Aa hok.2.1) (Ma en_138 O O) ?_;rintro _ w ⟨A2,c2,rfl,hK2,hE⟩;have hKX:=RX.made (ids:=[m1,b3,b2,b1]) hF.same.size (λx hx=>hF.lt_ids (by grind)) hK2;have hF:=hF.ext hE;clear hE hK2;refine Ba (Mb Tc O) (Ro (.slice _ _ _) hF sizeOf33 O O Tr V3 ?_);intro w hF hE;have hKX:=hKX.store hE (by grind);refine Da (Ga (Ea (Ba (Mb Tc O) (Xb (Ie yQ O hF.F 1 O O) (Ba (Nf cX O) (Ba (Za O) (Da (Qa ?_))))))));refine Fc (λμ σ w=>∃(j:Nat),∃(A1:Option Addr),∃(c1:Nat),∃(sb:List (Nat × Obj)),∃(cs1:List Value),μ=ks.length-j/\(j<=ks.length)/\(SlB 36 4 A1 j c1 cs1 sb)/\(RX w0 ([m1,b3,b2,b1]++sb.map (·.1)) w (Fe ((By ks xs).take j)) cs1)/\(RX w0 ([m1,b3,b2,b1]++sb.map (·.1)) w [Oh (Bg ks)] [.slice A2 ks.length c2])/\AllEq σ [(2,V b2),(3,V b3),(6,.map (some m1)),(40,.slice A2 ks.length c2),(41,J ((ks.length:Nat))),(42,J ((j:Int)))]/\FR w0 [] ([(m1,Si (l1)),(b3,.cells #[J k,I t,.slice A2 ks.length c2,.slice A1 j c1] 36),(b2,.cells #[J 0,I [],aQ,aQ] 36),(b1,.cells #[J k,I t,.slice A ks.length c,.slice B xs.length e] 36)]++(sb++[])) w) _ ⟨0,none,0,[],[],O,(Nat.zero_le _),(SlB.nil _ _),(RX.nil),(hKX),Du,hF⟩ ?_;rintro μ σ w ⟨j,A1,c1,sb,cs1,rfl,hj,hS,hDX,hKX,hs,hF⟩;refine Cg.slots hs ?_;clear hs;intro σ;refine Ea (Ba (Pg O O) (Da (Ga ?_)));refine Jb O O (λhc2=>?_) (λhc2=>?_);refine Ka (Ha (Ga (Qa (Ea ?_))));obtain⟨ad2,hA2,hk2,hx2⟩:=hKX.rep.str_elem (i:=j) (by rw[Tf];omega)
 refine Ia (v:=.pointer (some (ad2.add (j*1)))) (Na (i:=(j:Int)) Pk O hA2 O Aa Aa) ?_;refine Ia (v:=I ((Bg ks)[j]'(by rw[Tf];omega))) (Nc iZ O hk2) ?_;refine Ba (He O) (Da ?_);refine Md (.of [9]) (bQ [0,1,2,3,4] (cQ [5,6,7] (.free 8 (.act 9 .nil)))) hF ?_;intro w hF hE;have hDX:=hDX.ext hE;have hKX:=hKX.ext hE;refine⟨λwq=>FR w0 [] [(m1,Si (l1)),(b3,.cells #[J k,I t,.slice A2 ks.length c2,.slice A1 j c1] 36),(b2,.cells #[J 0,I [],aQ,aQ] 36),(b1,.cells #[J k,I t,.slice A ks.length c,.slice B xs.length e] 36)] wq,hF.mid 0 4,?_⟩;refine Ib O (Mb Tb O) (Ng O (Ie zQ O C0 1 O O) (Ib O (Pu) (Ib O (Ad O) ?_)));obtain⟨cy,y,hlk,hlt_,hym,hry⟩:=LO hk1 hr1 (Cp.1 (List.getElem_mem (l:=Bg ks) (n:=j) (by rw[Tf];omega)));have hoy:=hry.one_;have hly:cy.length=4:=hry.length.trans (Hc _);refine Sa O (v:=.agg (List.toArray cy)) (λw hC=>Ax underlying166 kX oX O O (hC.heap (i:=0) O) (by rw[hlk];rfl)) ?_;refine Dd O (ih y hym _ _ cy (hF.rep hry) (Xl hok.2.2 y hym) (hnx.2 y hym) (by have:=Lg hym;omega)) (Ma CK O O) ?_;rintro _ w ⟨ct,rfl,hRt,hE⟩;have hlt:ct.length=4:=hRt.length.trans (Hc _);have hot:=hRt.one_;have hYX:=RX.made (ids:=[m1,b3,b2,b1]++sb.map (·.1)) hF.same.size (λx hx=>hF.lt_ids (by grind)) hRt;have hDX:=(hDX.ext hE).append hYX;have hF:=hF.ext hE;have hKX:=hKX.ext hE;clear hE hYX;refine⟨hF.mid 0 4,?_⟩;refine Jf 1 O hF (Wl (l:=ct) dX nZ oX Ua Ua O hlt) ?_;intro b6 w hb6 hF hE;have hDX:=hDX.alloc hE hb6;have hKX:=hKX.alloc hE hb6;refine⟨hF.mid 1 4,?_⟩;refine IL (news:=ct) (len':=j+1) (ys:=cs1++ct) O Np hF hS O O (by rw[hlt]) (λ_=>⟨_,O,Jc (hF.cellsAll 0 O)⟩) (Mi hot) (by simp only[maxLen];omega) (O) (O) Aa ?_;intro A3 c3 i_3 w hS3_i hF hE hnew;have hDX:=hDX.app (l:=[b6,m1,b3,b2,b1]) hE hnew;have hKX:=hKX.app (l:=[b6,m1,b3,b2,b1]) hE hnew
 refine⟨hF.mid 1 4,?_⟩;refine Ib O (Mb Tb O) (FQ (.slice _ _ _) O hF mZ O O V3.app N_ ?_);intro w hF hE;have hDX:=hDX.store hE (by grind);have hKX:=hKX.store hE (by grind);refine Ic (Ya (Ha (Ja (Ba (Cl O O) (Ba (Za O) (Va ?_))))));refine Ta ⟨_,?_,j+1,A3,c3,i_3,cs1++ct,O,Aa,(by assumption),(by rw[QA (by rw[Tf];omega) hlt_];exact hDX.sub (by grind)),(hKX.sub (by grind)),Du,hF.drop 1⟩;omega;refine Bc (Yb O ?_);refine Ha (Ea (Xb (Bf aZ nZ O hF.F 1 O O) ?_));refine Ge hF nZ O O V3.app ?_;intro w hF hE;have hDX:=hDX.store hE (by grind);have hKX:=hKX.store hE (by grind);refine Da (Db (Cb (La (Mg O (l:=[J k,I t,.slice A2 ks.length c2,.slice A1 j c1]) O aZ nZ O (hF.cellsAll 2 O)) ?_)));have ej:j=ks.length:=by omega
 subst ej;rw[List.take_of_length_le (by rw[Fo];exact gQ _)]at hDX;refine⟨_,O,?_,hF.same⟩;rw[sortT,if_pos k6]
 ·exact Rep.tree_mk hk ht hKX.done (hS.rep (pre:=[_,_,_,_]) (post:=[]) hF hDX (by rw[Eh];exact Fo ks xs))
theorem P9(x:Tree):NE x:=Tree.ind QG x
def zeroT:Tree:=.node 0 [] [] []
theorem An(S:Nat->Prop)(w:World):Rep S w (Ob zeroT) [J 0,I [],aQ,aQ] :=
  Rep.tree_mk ⟨by omega,by omega⟩ Oa (Rep.nil_slice 0 Aa none) (Rep.nil_slice 0 Aa none)
def Ae(x:Tree):Tree:=if Qg x then sortT x else zeroT
def Vv(x:Tree):Tree:=if Qg x then x else zeroT
def Ke(x y:Tree):Int:=if Qg x then if Qg y then Kg (sortT x) (sortT y) else 1 else if Qg y then -1 else 0
theorem RQ{k:Int}{t:Str}{ks:List Str}{xs:List Tree}(h:nodeB (.node k t ks xs)=true):ks.length<=xs.length:=by
  by_cases h6:k=6
  ·subst h6;have:=(Wv h).2;omega
  have:ks=[]:=by
    simp only[nodeB]at h;by_cases h5:k=5
    ·subst h5;simp at h;exact h.1
    rw[if_neg h5, if_neg h6]at h;cases ks with
    | nil=>rfl
    | cons a l=>simp at h
  subst this;simp
theorem UT:∀x:Tree,Me nodeB x=true->Pn x+1<=Nb x:=λx=>Tree.ind (Q:=λx=>Me nodeB x=true->Pn x+1<=Nb x) (λk t ks xs ih h=>by
  obtain⟨h1,h2⟩:=Bh h;have h3:=RQ h1;have h7:∀ys:List Tree,(∀y∈ys,y∈xs)->ys.length+Rr ys<=Ec ys:=by
    intro ys
    induction ys with
    | nil=>intro _;simp[Rr,Ec]
    | cons y ys ihy =>
      intro hm;have h5:=ihy (λz hz=>hm z (by simp[hz]));have h9:=ih y (hm y Oa) (h2 y (hm y Oa));simp only[Rr,Ec,kQ];omega
  have:=h7 xs (λ_ h=>h);rw[Pn,Nb];omega) x
theorem Fp{key:Str}{y:Tree}:∀{ks:List Str}{xs:List Tree},Ig ks xs key=some y->y∈xs
  | [],xs,h=>by cases xs <;> cases h
  | k::ks,[],h=>by cases h
  | k :: ks, x :: xs, h => by
    rw[Ig]at h;by_cases he:k=key
    ·rw[if_pos he]at h;injection h with h;simp[h]
    rw[if_neg he]at h;simp[Fp h]
theorem E6:∀{xs:List Tree},(∀x∈xs,Tq x)->V6 xs
  | [],_=>by rw[V6];trivial
  | x::xs,h=>by rw[V6];exact⟨h x Oa,E6 (λy hy=>h y (by simp[hy]))⟩
theorem WI(x:Tree):Tq x->Tq (sortT x):=Tree.ind (Q:=λx=>Tq x->Tq (sortT x)) (λk t ks xs ih h=>by
  rw[Tq]at h;have hs:∀y∈Ff xs,Tq y:=by
    intro y hy;rw[Qh]at hy;obtain⟨z,hz,rfl⟩:=nQ.1 hy;exact ih z hz (Xl h.2.2 z hz)
  rw[sortT];split
  ·rw[Tq]
   refine⟨h.1,λk hk=>h.2.1 k (Cp.1 hk),E6 λy hy=>?_⟩;obtain⟨key,_,rfl⟩:=nQ.1 hy;cases hl:Ig ks (Ff xs) key with
   | none=>simp only[Option.getD_none];rw[Tq];simp[V6]
   | some z=>exact hs z (Fp hl)
  rw[Tq];exact⟨h.1,by simp,E6 hs⟩) x
theorem JB{x:Tree}(h:Qg x=true):Nb x<=4096:=by
  unfold Qg Km at h;simp only[Bool.and_eq_true,decide_eq_true_eq]at h;exact h.1.1
theorem GX(x:Tree)(hsz:Nb x<=1000000000)(S:Nat->Prop)(w0:World)(cs:List Value)(hR:Rep S w0 (Ob x) cs)(hk:Tq x)(hG:Gl w0):QJ 70 #[.agg cs.toArray] (Ob (Ae x)) w0:=by
 have hl:cs.length=4:=hR.length.trans (Hc x);have ho:=hR.one_;refine Fa func70 O ntmps70 Ab (Wb _) ?_;have hF:=FR.start w0 [];refine Ea (Pl (v:=.agg (List.toArray cs)) (cs:=(List.toArray cs)) hF O O ?_);rintro b1 w hb1 hF -;refine Pc (cs:=#[J 0,I [],aQ,aQ]) hF oX O ?_;rintro b2 w hb2 hF -;refine Da (Ga (Ea (Ia (v:=.agg (List.toArray cs)) (Wa (l:=cs) aZ nZ O hl (hF.cellsAll 1 O)) ?_)));refine Pa hF (B8 x hsz S _ cs (hF.rep hR) hk (hG.ext hF.same)) (Ma EM O O) ?_;intro w hF;refine Ba (Di O) (Da ?_);refine Jd O O (λhc0=>?_) (λhc0=>?_);refine Ea (Ia (w':=w) (v:=.agg #[J 0,I [],aQ,aQ]) Qb ?_);refine Ge hF nZ O O Pi ?_;rintro w hF -;refine Da (Db (Cb (La (Mg O (l:=[J 0,I [],aQ,aQ]) O aZ nZ O (hF.cellsAll 0 O)) ?_)));have ho_:Qg x=false:=by simpa using hc0
 refine⟨_,O,?_,hF.same⟩;rw[Ae,ho_];exact An _ _;refine Ka (Ha (Ea (Ia (v:=.agg (List.toArray cs)) (Wa (l:=cs) aZ nZ O hl (hF.cellsAll 1 O)) ?_)));refine Eb (P9 x S _ cs (hF.rep hR) hk (Hk (by simpa using hc0)) hsz) (Ma CK O O) ?_;rintro _ w ⟨ct,rfl,hRt,hE⟩;have hlct:ct.length=4:=hRt.length.trans (Hc _);have hoct:=hRt.one_;have hXX:=RX.made (ids:=[b2,b1]) hF.same.size (λx hx=>hF.lt_ids (by grind)) hRt;have hF:=hF.ext hE;clear hE hRt;refine Fg 0 (l:=ct) (cs':=(List.toArray ct)) hF (by rw[hlct];exact nZ) O (v:=.agg (List.toArray ct)) O O (hoct) O (by rw[hlct];exact Nat.le_of_ble_eq_true O) (Gn (by rw[hlct];rfl)) ?_;intro w hF hE;have hXX:=hXX.store hE (by grind);refine Da (Db (Cb (La (Mg O (l:=ct) O aZ nZ hlct (hF.cellsAll 0 O)) ?_)));have ho_:Qg x=true:=by simpa using hc0
 refine⟨_,O,?_,hF.same⟩;rw[Ae,ho_]
 ·exact hXX.done
theorem WS(x:Tree)(hsz:Nb x<=1000000000)(S:Nat->Prop)(w0:World)(cs:List Value)(hR:Rep S w0 (Ob x) cs)(hk:Tq x)(hG:Gl w0):QJ 93 #[.agg cs.toArray] (Ob (Vv x)) w0:=by
 have hl:cs.length=4:=hR.length.trans (Hc x);have ho:=hR.one_;refine Fa func93 O ntmps93 Ab (Wb _) ?_;have hF:=FR.start w0 [];refine Ea (Pl (v:=.agg (List.toArray cs)) (cs:=(List.toArray cs)) hF O O ?_);rintro b1 w hb1 hF -;refine Pc (cs:=#[J 0,I [],aQ,aQ]) hF oX O ?_;rintro b2 w hb2 hF -;refine Da (Ga (Ea (Ia (v:=.agg (List.toArray cs)) (Wa (l:=cs) aZ nZ O hl (hF.cellsAll 1 O)) ?_)));refine Pa hF (B8 x hsz S _ cs (hF.rep hR) hk (hG.ext hF.same)) (Ma EM O O) ?_;intro w hF;refine Ba (Di O) (Da ?_);refine Jd O O (λhc0=>?_) (λhc0=>?_);refine Ea (Ia (w':=w) (v:=.agg #[J 0,I [],aQ,aQ]) Qb ?_);refine Ge hF nZ O O Pi ?_;rintro w hF -;refine Da (Db (Cb (La (Mg O (l:=[J 0,I [],aQ,aQ]) O aZ nZ O (hF.cellsAll 0 O)) ?_)));have ho_:Qg x=false:=by simpa using hc0
 refine⟨_,O,?_,hF.same⟩;rw[Vv,ho_];exact An _ _;refine Ka (Ha (Ea (Ia (v:=.agg (List.toArray cs)) (Wa (l:=cs) aZ nZ O hl (hF.cellsAll 1 O)) ?_)));refine Eb (clone_c x S _ cs (hF.rep hR) hsz (by have:=UT x (Hk (by simpa using hc0));omega)) (Ma en_149 O O) ?_;rintro _ w ⟨ct,rfl,hRt,hE⟩;have hlct:ct.length=4:=hRt.length.trans (Hc _);have hoct:=hRt.one_;have hXX:=RX.made (ids:=[b2,b1]) hF.same.size (λx hx=>hF.lt_ids (by grind)) hRt;have hF:=hF.ext hE;clear hE hRt;refine Fg 0 (l:=ct) (cs':=(List.toArray ct)) hF (by rw[hlct];exact nZ) O (v:=.agg (List.toArray ct)) O O (hoct) O (by rw[hlct];exact Nat.le_of_ble_eq_true O) (Gn (by rw[hlct];rfl)) ?_;intro w hF hE;have hXX:=hXX.store hE (by grind);refine Da (Db (Cb (La (Mg O (l:=ct) O aZ nZ hlct (hF.cellsAll 0 O)) ?_)));have ho_:Qg x=true:=by simpa using hc0
 refine⟨_,O,?_,hF.same⟩;rw[Vv,ho_]
 ·exact hXX.done
theorem YP(x y:Tree)(hsx:Nb x<=1000000000)(hsy:Nb y<=1000000000)(S S':Nat->Prop)(w0:World)(cs ct:List Value)(hR:Rep S w0 (Ob x) cs)(hR':Rep S' w0 (Ob y) ct)(hk:Tq x)(hk':Tq y)(hG:Gl w0):Calls prog 51 #[.agg cs.toArray,.agg ct.toArray] w0 (Yc λv w'=>v=J (Ke x y)/\Same [] w0 w'):=by
 have hl:cs.length=4:=hR.length.trans (Hc x);have ho:=hR.one_;have hl':ct.length=4:=hR'.length.trans (Hc y);have ho':=hR'.one_;refine Fa func51 O ntmps51 Ab (Uc _ _) ?_;have hF:=FR.start w0 [];refine Ea (Pl (v:=.agg (List.toArray cs)) (cs:=(List.toArray cs)) hF O O ?_);rintro b1 w hb1 hF -;refine Pl (v:=.agg (List.toArray ct)) (cs:=(List.toArray ct)) hF O O ?_;rintro b2 w hb2 hF -;refine Ba (Fb O) (Da (Ga ?_));refine De (zs:=.of []) (.free 0 (.free 2 (.act 1 (.act 3 (.free 4 (.free 5 .nil)))))) hF ?_;intro w hF;refine Sa O (v:=.agg (List.toArray cs)) (λw hC=>Wa (l:=cs) aZ nZ O hl (hC.cellsAll 1 O)) (Sa O (v:=.agg (List.toArray ct)) (λw hC=>Wa (l:=ct) aZ nZ O hl' (hC.cellsAll 0 O)) ?_);refine Vd hF (B8 x hsx S _ cs (hF.rep hR) hk (hG.ext hF.same)) O (Ma EM O O) ?_;intro w hF;refine⟨hF,?_⟩;refine Vd hF (B8 y hsy S' _ ct (hF.rep hR') hk' (hG.ext hF.same)) O (Ma EM O O) ?_;intro w hF;refine⟨hF,?_⟩;refine Ib O (Kb O) (Ib O (Kb O) (Ic (Ha (Ga (Qa (Ea (Ba (Dc O) (Ba (Dc O) ?_))))))));refine Sc (d:=13) O (λhg0=>?_) (λhg0=>?_);refine Ba (Dc O) (Ba (Rb O O) (Ba (Kb O) (Da ?_)));refine Jd O O (λhc0=>?_) (λhc0=>?_);refine Ga (De (zs:=.of []) (.free 0 (.free 2 (cQ [1,3,4] (.free 5 .nil)))) hF ?_);intro w hF;refine Sa O (v:=.agg (List.toArray cs)) (λw hC=>Wa (l:=cs) aZ nZ O hl (hC.cellsAll 1 O)) (Sa O (v:=.agg (List.toArray ct)) (λw hC=>Wa (l:=ct) aZ nZ O hl' (hC.cellsAll 0 O)) ?_);refine Dd O (P9 x S _ cs (hF.rep hR) hk (Hk (by simp_all)) hsx) (Ma CK O O) ?_;rintro _ w ⟨cx,rfl,hRt,hE⟩;have hlcx:cx.length=4:=hRt.length.trans (Hc _);have hocx:=hRt.one_;have hXX:=RX.made (ids:=[]) hF.same.size (λx hx=>hF.lt_ids (by grind)) hRt;have hF:=hF.ext hE;clear hE hRt;refine⟨hF,?_⟩;refine Dd O (P9 y S' _ ct (hF.rep hR') hk' (Hk (by simp_all)) hsy) (Ma CK O O) ?_;rintro _ w ⟨cy,rfl,hRt,hE⟩
 have hlcy:cy.length=4:=hRt.length.trans (Hc _);have hocy:=hRt.one_;have hYX:=RX.made (ids:=[]) hF.same.size (λx hx=>hF.lt_ids (by grind)) hRt;have hXX:=hXX.ext hE;have hF:=hF.ext hE;clear hE hRt;refine⟨hF,?_⟩;refine Dd O (order_c (sortT x) (sortT y) _ _ _ cx cy hXX.rep hYX.rep (WI x hk) (WI y hk') (hG.ext hF.same)) (Xa en_82 O O O) ?_;rintro _ w ⟨rfl,hE⟩;have hF:=hF.ext hE;have hXX:=hXX.ext hE;have hYX:=hYX.ext hE;refine⟨hF,?_⟩;refine Ib O (Fb O) (Ic (Ha ?_));refine Gc (v:=J (Kg (sortT x) (sortT y))) O O ⟨congrArg (Value.int .i64) ?_,hF.same⟩;unfold Ke;simp_all;refine Ea (Ba (Dc O) (Ba (Kb O) (Da ?_)));refine Jd O O (λhc1=>?_) (λhc1=>?_);refine Ea (Ba (Fb O) (Da ?_));refine Gc (v:=J 1) O O ⟨congrArg (Value.int .i64) ?_,hF.same⟩;unfold Ke;simp_all;refine Ea (Ba (Dc O) (Ba (Kb O) (Da ?_)));refine Jd O O (λhc2=>?_) (λhc2=>?_);refine Ea (Ba (Fb O) (Da ?_));refine Gc (v:=J ((-1))) O O ⟨congrArg (Value.int .i64) ?_,hF.same⟩;unfold Ke;simp_all;refine Ka (Ya (Ha (Ea (Ba (Fb O) (Da ?_)))));refine Gc (v:=J 0) O O ⟨congrArg (Value.int .i64) ?_,hF.same⟩;unfold Ke;simp_all;refine Ca (Ba (Pb O O) (Ba (Kb O) (Da (Zd O (Ea (Ba (Dc O) (Ba (Kb O) (Da ?_))))))));refine Jd O O (λhc1=>?_) (λhc1=>?_);refine Ea (Ba (Fb O) (Da ?_));refine Gc (v:=J 1) O O ⟨congrArg (Value.int .i64) ?_,hF.same⟩;unfold Ke;simp_all;refine Ea (Ba (Dc O) (Ba (Kb O) (Da ?_)));refine Jd O O (λhc2=>?_) (λhc2=>?_);refine Ea (Ba (Fb O) (Da ?_));refine Gc (v:=J ((-1))) O O ⟨congrArg (Value.int .i64) ?_,hF.same⟩;unfold Ke;simp_all;refine Ka (Ya (Ha (Ea (Ba (Fb O) (Da ?_)))));refine Gc (v:=J 0) O O ⟨congrArg (Value.int .i64) ?_,hF.same⟩;unfold Ke;simp_all
end Go.Scarf
