/- A part of the proof. -/
import Derived.Test.YtgkmigdopohcnaaGreatDoorW10
import Derived.Test.YtgkmigdopohcnaaGreatDoorIter
set_option linter.all false
set_option maxHeartbeats 8000000
set_option maxRecDepth 10000
namespace Go.Scarf
open Go.RowKit Go.Proofs Go.Proofs.Tryz
mutual
def Er:Tree->Nat|.node _ _ ks xs=>ks.length+So xs
def So:List Tree->Nat|[]=>0|x::xs=>Er x+So xs
end
theorem S0:∀{xs:List Tree}{x:Tree},x∈xs->Er x<=So xs
  | [],_,h=>absurd h La
  | y :: ys, x, h => by
    rw[So];rcases oQ.1 h with rfl|h
    ·omega
    have:=S0 h;omega
theorem EE{xs:List Tree}{j:Nat}(h:j<xs.length):Qd (xs.take (j+1))=Qd (xs.take j)++[Hb xs[j]]:=by
  rw[iQ h,Pd,Pd,jQ];rfl
theorem Z_{xs:List Tree}{j:Nat}(h:j<xs.length):Qd (xs.drop j)=Hb xs[j]::Qd (xs.drop (j+1)):=by
  rw[List.drop_eq_getElem_cons h];rfl
theorem RepL.lits{S S':Nat->Prop}{w w':World}:∀{ks:List Str}{cs:List Value},RepL S w (ks.map Hl) cs->RepL S' w' (ks.map Hl) cs
  | [],cs,h=>by have:=RepL.nil_inv h;subst this;exact RepL.nil_mk
  | k :: ks, cs, h => by
    obtain⟨c1,c2,rfl,h1,h2⟩:=RepL.cons_inv h;obtain⟨rfl,h3⟩:=Rep.lit_inv h1;exact RepL.cons_mk (Rep.lit_mk h3) (RepL.lits h2)
def Lie(w:World)(A:Option Addr)(n:Nat)(es:List Value):Prop:=n≠0->∃ad,A=some ad/\∀j (hj:j<es.length),w.cell? (ad.add j)=some es[j]
theorem Lie.ext{w w':World}{A:Option Addr}{n:Nat}{es:List Value}(h:Lie w A n es)(hs:Same [] w w'):Lie w' A n es:=λhn=>by
  obtain⟨ad,hA,hc⟩:=h hn;exact⟨ad,hA,λj hj=>((FR.start w []).ext hs).cells0 hc j hj⟩
def Y9(e m n:Nat)(es:List Value)(w0:World)(v:Value)(w':World):Prop :=
  ∃A c sb,v=.slice A n c/\SlB e m A n c es sb/\(∀p∈sb,w'.heap[p.1]? = some p.2/\w0.heap.size<=p.1)/\Same [] w0 w'
theorem Rep.slice_open{S:Nat->Prop}{w:World}{ds:List D}{A:Option Addr}{n c m:Nat}(h:Rep S w (.slice ds) [.slice A n c])(hm:∀d∈ds,Xc d=m) :
    ∃es,RepL S w ds es/\es.length=n*m/\Lie w A n es:=by
  have hl:=h.slice_len;obtain⟨A',c',hA,_,_,hr⟩:=Rep.slice_inv h;simp only[List.cons.injEq,Value.slice.injEq,and_true]at hA;obtain⟨rfl,_,_⟩:=hA;have hsz:∀ds:List D,(∀d∈ds,Xc d=m)->Xc.sizeL ds=ds.length*m:=by
    intro ds
    induction ds with
    | nil=>intro _;simp[Xc.sizeL]
    | cons d ds ih=>intro h;rw[Xc.sizeL,h d La,ih (λx hx=>h x (by simp[hx])),kQ,Nat.add_mul];omega
  by_cases hne:ds=[]
  ·subst hne
   exact⟨[],RepL.nil_mk,by simp[hl.1],λh=>absurd hl.1 (by simpa using h)⟩
  obtain⟨ad, rfl, es, hc, hr⟩ := hr hne;exact⟨es,hr,by rw[hr.length,hsz ds hm,hl.1],λ_=>⟨ad,O,λj hj=>(hc j hj).1⟩⟩
theorem AN(ks:List Str):∀d∈ks.map Hl,Xc d=1:=λd hd=>by obtain⟨k,_,rfl⟩:=nQ.1 hd;rfl
theorem TH(xs:List Tree):∀d∈Qd xs,Xc d=4:=λd hd=>by rw[Pd]at hd;obtain⟨k,_,rfl⟩:=nQ.1 hd;exact Nc k
theorem FR.sbown{w0 w:World}{pre sb post:List (Nat × Obj)}(h:FR w0 [] (pre++(sb++post)) w):∀p∈sb,w.heap[p.1]? = some p.2/\w0.heap.size<=p.1:=λp hp=>by
  have:=h.own p (by simp[hp]);refine⟨this.1,?_⟩;rcases this.2 with h|h
  ·exact h
  cases h
theorem SlB.soft{e m n c:Nat}{A:Option Addr}{es:List Value}{sb:List (Nat × Obj)}{w:World}(h:SlB e m A n c es sb)(hb:∀p∈sb,w.heap[p.1]? = some p.2):∀p∈sb,DB w p.1:=λp hp=>by
  have h2:∃cur,p=(p.1,.cells cur e):=by
    rcases h.2 with ⟨-,-,rfl⟩|⟨g,cur,-,rfl,-⟩
    ·cases hp
    simp only[pQ]at hp;subst hp;exact⟨cur,rfl⟩
  obtain⟨cur,h2⟩:=h2;have:=hb p hp;rw[h2]at this;exact⟨cur,e,this⟩
theorem SlB.btw{e m n c:Nat}{A:Option Addr}{es:List Value}{sb:List (Nat × Obj)}{w w':World}{ds:List D}(h:SlB e m A n c es sb)(hb:∀p∈sb,w'.heap[p.1]? = some p.2/\w.heap.size<=p.1)(hr:RepL (Btw w w') w' ds es)(hn:ds.length=n):Rep (Btw w w') w' (.slice ds) [.slice A n c] :=
  h.repOf (λp hp=>⟨(hb p hp).1,(hb p hp).2,Kb (hb p hp).1,h.soft (λp hp=>(hb p hp).1) p hp⟩) hr hn
theorem SB{S:Nat->Prop}{w0 w w':World}{ks:List Str}{es:List Value}{v:Value}(h:Y9 9 1 ks.length es w v w')(hr:RepL S w0 (ks.map Hl) es):∃A c,v=.slice A ks.length c/\Rep (Btw w w') w' (Lh ks) [.slice A ks.length c]/\Same [] w w':=by
  obtain⟨A,c,sb,rfl,hS,hb,hE⟩:=h;exact⟨A,c,O,hS.btw hb hr.lits La,hE⟩
theorem RN(len:Nat)(A:Option Addr)(c:Nat)(es:List Value)(w0:World)(hel:es.length=len*1)(hcell:Lie w0 A len es)(ho:∀v∈es,one v=true)(hb:len<=8796093022208):Calls prog 154 #[.slice A len c] w0 (Pc λv w'=>Y9 9 1 len es w0 v w'):=by
 refine Ea func154 O ntmps154 Db (Rb _) ?_;have hF:=FR.start w0 [];refine Da (Aa (Em O) (Ca (Fa (Da (Aa (Wd O) (Ja (v:=.bool ((A).isNone)) (V2 xZ O O) (Ca ?_)))))));refine Fe O O (λhc0=>?_) (λhc0=>?_);have hA:A=none:=by simpa using hc0
 refine Da (Aa (Em O) (Ca ?_));refine Hc (v:=.slice _ _ _) O O ?_;have h0:len=0:=by rcases Nat.eq_zero_or_pos len with h|h;exact h;obtain⟨ad,hh,_⟩:=hcell Ba;rw[hA]at hh;cases hh
 have hes:es=[]:=List.eq_nil_of_length_eq_zero (by rw[hel,h0,Nat.zero_mul]);subst hes;exact⟨none,0,[],by rw[h0],by rw[h0];exact SlB.nil _ _,by simp,hF.same⟩;refine Na (Ga (Da ?_));refine Ek 0 hF (Ut xZ rZ) ?_;rintro b1 w hb1 hF -;have hS0:SlB 9 1 (some ⟨b1,0,none⟩) 0 0 [] [(b1,.cells #[] 9)]:=⟨by simp,.inr ⟨b1,#[],rfl,rfl,gQ _,Nat.zero_le _,by simp,by simp⟩⟩;refine Aa (Wd O) ?_;refine Hp [] [] (news:=es) (len':=0+len) (ys:=[]++es) WE hF hS0 rfl rfl (by rw[hel]) (λhk=>by obtain⟨ad,hA,hc⟩:=hcell hk;exact⟨ad,hA,Yc (hF.cells0 hc)⟩) (Um ho) (by simp only[maxLen];omega) (rfl) (rfl) Ba ?_;intro A0 c0 a_0 w hS0_a hF hE hnew;refine Aa (Em O) (Ca ?_);refine Hc (v:=.slice _ _ _) O O ?_;simp only[Nat.zero_add,List.nil_append]at *;exact⟨_,_,_,O,by assumption,hF.sbown (pre:=[]) (post:=[]),hF.same⟩
theorem KM(len:Nat)(A:Option Addr)(c:Nat)(es:List Value)(w0:World)(hel:es.length=len*4)(hcell:Lie w0 A len es)(ho:∀v∈es,one v=true)(hb:len<=1000000000):Calls prog 155 #[.slice A len c] w0 (Pc λv w'=>Y9 25 4 len es w0 v w'):=by
 refine Ea func155 O ntmps155 Db (Rb _) ?_;have hF:=FR.start w0 [];refine Da (Aa (Em O) (Ca (Fa (Da (Aa (Wd O) (Ja (v:=.bool ((A).isNone)) (V2 yZ O O) (Ca ?_)))))));refine Fe O O (λhc0=>?_) (λhc0=>?_);have hA:A=none:=by simpa using hc0
 refine Da (Aa (Em O) (Ca ?_));refine Hc (v:=.slice _ _ _) O O ?_;have h0:len=0:=by rcases Nat.eq_zero_or_pos len with h|h;exact h;obtain⟨ad,hh,_⟩:=hcell Ba;rw[hA]at hh;cases hh
 have hes:es=[]:=List.eq_nil_of_length_eq_zero (by rw[hel,h0,Nat.zero_mul]);subst hes;exact⟨none,0,[],by rw[h0],by rw[h0];exact SlB.nil _ _,by simp,hF.same⟩;refine Na (Ga (Da ?_));refine Ek 0 hF (Ut yZ mZ) ?_;rintro b1 w hb1 hF -;have hS0:SlB 25 4 (some ⟨b1,0,none⟩) 0 0 [] [(b1,.cells #[] 25)]:=⟨by simp,.inr ⟨b1,#[],rfl,rfl,gQ _,Nat.zero_le _,by simp,by simp⟩⟩;refine Aa (Wd O) ?_;refine Hp [] [] (news:=es) (len':=0+len) (ys:=[]++es) Kr hF hS0 rfl rfl (by rw[hel]) (λhk=>by obtain⟨ad,hA,hc⟩:=hcell hk;exact⟨ad,hA,Yc (hF.cells0 hc)⟩) (Um ho) (by simp only[maxLen];omega) (rfl) (rfl) Ba ?_;intro A0 c0 a_0 w hS0_a hF hE hnew;refine Aa (Em O) (Ca ?_);refine Hc (v:=.slice _ _ _) O O ?_;simp only[Nat.zero_add,List.nil_append]at *;exact⟨_,_,_,O,by assumption,hF.sbown (pre:=[]) (post:=[]),hF.same⟩
def QX(F:Nat)(args:Array Value)(d:D)(w0:World):Prop:=Calls prog F args w0 (Pc λv w'=>∃ct:List Value,v=.agg ct.toArray/\Rep (Btw w0 w') w' d ct/\Same [] w0 w')
def BI(x:Tree):Prop:=∀S w0 cs,Rep S w0 (Hb x) cs->Mb x<=1000000000->(Er x<=8796093022208)->QX 106 #[.agg cs.toArray] (Hb x) w0
theorem KG(k:Int)(t:Str)(ks:List Str)(xs:List Tree)(ih:∀x,x∈xs->BI x):BI (.node k t ks xs):=by
 intro S w0 cs hR hsz hky;rw[Mb]at hsz;rw[Er]at hky;have hxn:=Ll xs;obtain⟨A,c,B,e,rfl,hk,ht,hK,hX⟩:=hR.tree_inv;obtain⟨eK,hrK,hKl,hKc⟩:=hK.slice_open (AN ks);obtain⟨eX,hrX,hXl,hXc⟩:=hX.slice_open (TH xs);refine Ea func106 O ntmps106 Db (Rb _) ?_;have hF:=FR.start w0 [];refine Da (Le hF O ?_);rintro b1 w hb1 hF -;refine Jc (cs:=#[J 0,I [],aQ,aQ]) hF kX O ?_;rintro b2 w hb2 hF -;refine Ca (Fa ?_);refine Zc (zs:=.of [9,7]) (bQ [0,1,3,4] (.act 2 (.free 6 (.act 5 (.act 7 (.free 8 (.act 9 .nil))))))) hF ?_;intro w hF;refine Fb O (Ob Zd O) (Sf O (Ff yQ O C0 1 O O) (Fb O (Ob Ub O) (Sf O (Ff zQ O C0 1 O O) ?_)));refine Uc O (RN ks.length A c eK _ hKl (Lie.ext hKc hF.same) hrK.one_ Ba) (Ma en_154 O O) ?_;rintro _ w hcl;obtain⟨A1,c1,rfl,hK1,hE⟩:=SB hcl hrK;have hKX:=RX.made (ids:=[b2,b1]) hF.same.size (λx hx=>hF.lt_ids (by grind)) hK1;have hF:=hF.ext hE;clear hE hcl hK1;refine⟨hF,?_⟩;refine Fb O (Ob Zd O) (Uc O (KM xs.length B e eX _ hXl (Lie.ext hXc hF.same) hrX.one_ Ba) (Ma en_155 O O) ?_);rintro _ w ⟨A2,c2,sb2,rfl,hS2,hh2,hE⟩;have hKX:=hKX.step (ids':=[b2,b1]++sb2.map (·.1)) hE La (λx hx=>by rcases mQ.1 hx with hx|hx;exact .inl hx;obtain⟨p,hp,rfl⟩:=nQ.1 hx;exact .inr (hh2 p hp).2);have hF:=hF.extseg hE hh2 hS2.pw;refine⟨hF.mid 0 2,?_⟩;refine HG (.slice _ _ _) O hF sizeOf22 O O Mr.app Rw ?_;intro w hF hE;have hKX:=hKX.store hE (by grind);refine Fb O (Ob Ub O) (HG (.slice _ _ _) O hF lZ O O Mr.app U1 ?_);intro w hF hE;have hKX:=hKX.store hE (by grind);refine Ac (Ga (Fa (Da (Aa (Ob Ub O) (Tb (Ff zQ O hF.F 1 O O) (Aa (Ug yZ O) (Aa (Gb O) (Ca (Va ?_)))))))));refine Tc (λμ σ w=>∃(j:Nat),∃(dn:List Value),∃(rs:List Value),∃(sb:List (Nat × Obj)),μ=xs.length-j/\(j<=xs.length)/\(SlB 25 4 A2 xs.length c2 (dn++rs) sb)/\(dn.length=j*4)/\(RepL S w0 (Qd (xs.drop j)) rs)/\(RX w0 ([b2,b1]++sb.map (·.1)) w (Qd (xs.take j)) dn)/\(RX w0 ([b2,b1]++sb.map (·.1)) w [Lh ks] [.slice A1 ks.length c1])/\AllEq σ [(1,V b1),(2,V b2),(14,.slice A2 xs.length c2),(15,J ((xs.length:Nat))),(16,J ((j:Int)))]/\FR w0 [] ([(b2,.cells #[J 0,I [],aQ,aQ] 25),(b1,.cells #[J k,I t,.slice A1 ks.length c1,.slice A2 xs.length c2] 25)]++(sb++[])) w) _ ⟨0,[],eX,sb2,O,(Nat.zero_le _),(hS2),(O),(by simpa using hrX),(RX.nil),(hKX),T8,hF⟩ ?_
 rintro μ σ w ⟨j,dn,rs,sb,rfl,hj,hS,hd,hrr,hDX,hKX,hs,hF⟩;refine Cg.slots hs ?_;clear hs;intro σ;refine Da (Aa (Sl O O) (Ca (Fa ?_)));refine Pb O O (λhc0=>?_) (λhc0=>?_);refine Na (Ga (Fa (Va (Da (Aa (Gb O) ?_)))));have hjx:j<xs.length:=by omega
 rw[Z_ hjx]at hrr;obtain⟨c1_,c2_,rfl,hr1,hr2⟩:=RepL.cons_inv hrr;have hl1:c1_.length=4:=hr1.length.trans (Nc _);have ho1:=hr1.one_;obtain⟨ad0,hA0,hk0⟩:=hS.elemMid (pre:=[(b2,.cells #[J 0,I [],aQ,aQ] 25),(b1,.cells #[J k,I t,.slice A1 ks.length c1,.slice A2 xs.length c2] 25)]) (post:=[]) (pr:=dn) (mid:=c1_) (po:=c2_) hF (j:=j) hd hl1 (hjx);refine Ja (v:=.pointer (some (ad0.add (j*4)))) (Sa (i:=(j:Int)) Mg O hA0 O Ba Ba) (Ja (v:=.agg (List.toArray c1_)) (Xa (l:=c1_) aZ mZ O hl1 hk0) ?_);refine Jc (cs:=#[J 0,I [],aQ,aQ]) hF kX O ?_;intro b3 w hb3 hF hE;have hKX:=hKX.alloc hE hb3;have hDX:=hDX.alloc hE hb3;refine Aa (Lb O) ?_;refine Eh 0 (l:=c1_) (cs':=(List.toArray c1_)) hF (by rw[hl1];exact mZ) O (v:=.agg (List.toArray c1_)) O O (ho1) O (by rw[hl1];exact Nat.le_of_ble_eq_true O) (Bm (by rw[hl1];rfl)) ?_;intro w hF hE;have hKX:=hKX.store hE (by grind);have hDX:=hDX.store hE (by grind);refine Ca (Ld (.of [6]) (bQ [0,1,2,3] (.act 4 (.free 5 (.act 6 .nil)))) hF ?_);intro w hF hE;have hKX:=hKX.ext hE;have hDX:=hDX.ext hE;refine⟨λwq=>FR w0 [] [(b3,.cells (List.toArray c1_) 25),(b2,.cells #[J 0,I [],aQ,aQ] 25),(b1,.cells #[J k,I t,.slice A1 ks.length c1,.slice A2 xs.length c2] 25)] wq,hF.mid 0 3,?_⟩;refine Fb O (Ob Ub O) (Sf O (Ff zQ O C0 2 O O) (Fb O (Gb O) (Bb O (v:=.agg (List.toArray c1_)) (λw hC=>Xa (l:=c1_) aZ mZ O hl1 (hC.cellsAll 0 O)) ?_)));refine Uc O (ih xs[j] (eQ hjx) S _ c1_ (hF.rep hr1) (by have:=Pl (eQ hjx);omega) (by have:=S0 (eQ hjx);omega)) (Ma HP O O) ?_;rintro _ w ⟨ct,rfl,hRt,hE⟩;have hlt:ct.length=4:=hRt.length.trans (Nc _);have hot:=hRt.one_;have hYX:=RX.made (ids:=b3::([b2,b1]++sb.map (·.1))) hF.same.size (λx hx=>hF.lt_ids (by grind)) hRt;have hKX:=hKX.ext hE;have hDX:=(hDX.ext hE).append hYX;have hF:=hF.ext hE
 clear hE hYX;refine⟨hF.mid 0 3,?_⟩;obtain⟨ad1,hA1,hk1⟩:=hS.elemMid (pre:=[(b3,.cells (List.toArray c1_) 25),(b2,.cells #[J 0,I [],aQ,aQ] 25),(b1,.cells #[J k,I t,.slice A1 ks.length c1,.slice A2 xs.length c2] 25)]) (post:=[]) (pr:=dn) (mid:=c1_) (po:=c2_) hF (j:=j) hd hl1 (hjx);refine Bb O (v:=.pointer (some (ad1.add (j*4)))) (λw hC=>Sa (i:=(j:Int)) Mg O hA1 O Ba Ba) (WN [(b3,.cells (List.toArray c1_) 25),(b2,.cells #[J 0,I [],aQ,aQ] 25),(b1,.cells #[J k,I t,.slice A1 ks.length c1,.slice A2 xs.length c2] 25)] [] O hF (pr:=dn) (mid:=c1_) (po:=c2_) (new:=ct) (j:=j) hS hd hl1 hA1 (hjx) mZ O (v:=.agg (List.toArray ct)) O O hlt hot ?_);intro i_2 w hS2_i hF hE hids;have hKX:=hKX.store hE (by grind);have hDX:=hDX.store hE (by grind);refine Ac (Cb (Ga (Ha (Aa (Il O O) (Aa (Gb O) (Ua ?_))))));refine Xb ⟨_,?_,j+1,dn++ct,c2_,i_2,O,(hjx),(by simpa using hS2_i),(by rw[dQ,hd,hlt];omega),(hr2),(by rw[EE hjx,hids];exact hDX.sub (λx hx=>List.mem_cons_of_mem _ hx)),(by rw[hids];exact hKX.sub (λx hx=>List.mem_cons_of_mem _ hx)),T8,hF.drop 1⟩;omega;refine Kc (Ec O ?_);refine Ga (Da (Tb (He aZ mZ O hF.F 1 O O) ?_));refine Xd hF mZ O O Qg.app ?_;intro w hF hE;have hKX:=hKX.store hE (by grind);have hDX:=hDX.store hE (by grind);refine Ca (Ab (Za (Ka (Uh O (l:=[J k,I t,.slice A1 ks.length c1,.slice A2 xs.length c2]) O aZ mZ O (hF.cellsAll 0 O)) ?_)));have ej:j=xs.length:=by omega
 subst ej;rw[List.take_length]at hDX;have e0:rs=[]:=by rw[List.drop_length]at hrr;exact RepL.nil_inv hrr
 subst e0;rw[qQ]at hS;refine⟨_,O,?_,hF.same⟩
 ·exact Rep.tree_mk hk ht hKX.done (hS.rep (pre:=[_,_]) (post:=[]) hF hDX La)
theorem DX(x:Tree):BI x:=Tree.ind KG x
mutual
def sortT:Tree->Tree
  | .node k t ks xs=>if k=6 then .node k t (Lj ks) ((Lj ks).map λkey=>(Lf ks (Ve xs) key).getD (.node 0 [] [] [])) else .node k t [] (Ve xs)
def Ve:List Tree->List Tree
  | []=>[]
  | x::xs=>sortT x::Ve xs
end
theorem Sh:∀xs:List Tree,Ve xs=xs.map sortT
  | []=>rfl
  | x::xs=>by rw[Ve,Sh xs,List.map_cons]
theorem Lu{key:Str}{y:Tree}:∀{ks:List Str}{xs:List Tree},Lf ks xs key=some y->Lf ks (Ve xs) key=some (sortT y)
  | [],xs,h=>by cases xs <;> cases h
  | k::ks,[],h=>by cases h
  | k :: ks, x :: xs, h => by
    rw[Ve,Lf];rw[Lf]at h;by_cases he:k=key
    ·rw[if_pos he]at h ⊢;injection h with h;rw[h]
    rw[if_neg he]at h ⊢;exact Lu h
theorem YH{S:Nat->Prop}{w:World}{key:Str}{ks:List Str}{xs:List Tree}{l:MapL}(hk:l.map (·.1)=ks)(hm:MapRep S w xs l)(hin:key∈ks) :
    ∃(cs:List Value)(y:Tree),Yf l key=some (.agg cs.toArray)/\Lf ks xs key=some y/\y∈xs/\Rep S w (Hb y) cs:=by
  rcases B3 key hk hm with ⟨h,-⟩|h
  ·exfalso
   rw[<-hk]at hin;obtain⟨x,hx,hxe⟩:=nQ.1 hin;unfold Yf at h;rw[Option.map_eq_none_iff,List.find?_eq_none]at h;exact h x hx (by simpa using hxe)
  exact h
theorem MapRep.back{S:Nat->Prop}{w0 w:World}{xs:List Tree}{l:MapL}(h:MapRep (Old S w0) w xs l)(hs:Same [] w0 w):MapRep (Old S w0) w0 xs l:=λi hi=>by
  obtain⟨cs,h1,h2,h3⟩:=h i hi;exact⟨cs,h1,h2,h3.back hs⟩
def ZP(w1:World)(bk m:Nat)(l:MapL):Prop:=∃W:World,w1=W.alloc (.cells #[.map (some m)] 123)/\bk=W.heap.size/\W.heap[m]? = some (Xg l)
theorem keys_c(m:Nat)(l:MapL)(w:World)(hm:w.heap[m]? = some (Xg l)):Calls prog 89 #[.map (some m)] w (Pc λv w'=>∃bk,v=.func (.func 134) #[] #[V bk]/\ZP w' bk m l/\Same [] w w') :=
  (callsIn_wide.1 (maps_Keys_89 (some m) w)).mono λ_ _ ⟨he,hw⟩=>⟨_,he,w.heap.size,rfl,⟨w,hw,rfl,hm⟩,by rw[hw];exact Same.alloc w _⟩
theorem L8(bk m:Nat)(l:MapL)(ks:List Str)(w:World)(h:ZP w bk m l)(hk:l.map (·.1)=ks)(hn:ks.Nodup)(hb:ks.length<=1000000000)(hs:∀s∈ks,s.length<=140737488355328) :
    Calls prog 88 #[.func (.func 134) #[] #[V bk]] w (Pc λv w'=>∃A c,v=.slice A ks.length c/\Rep (Btw w w') w' (Lh (Lj ks)) [.slice A ks.length c]/\Same [] w w'):=by
  obtain⟨W,rfl,rfl,hm⟩:=h;have hl:l.length=ks.length:=by rw[<-hk,rQ]
  obtain⟨D0,hown,hperm,hsz⟩:=EF (P:=prog) iX hm (by rw[hk];exact hn) (λx hx=>by have:=hs x.1 (by rw[<-hk];exact List.mem_map_of_mem hx);simp only[maxLen];omega) (by simp only[maxLen];omega);refine (callsIn_wide.1 (slices_Sorted_keys_88_89 m l.length D0 _ W hown (by rw[hsz];simp only[maxLen];omega) (by rw[hsz];omega))).mono ?_;rintro e w' ⟨v,ss,rfl,hp,hrow,-,hbel⟩;have hpk:ss.Perm ks:=by rw[<-hk];exact hp.trans hperm
  have e1:(ss.mergeSort λx y=>decide (x<=y))=Lj ks:=O4 hpk;rw[e1]at hrow;have e2:ss.length=(Lj ks).length:=by rw[Ki];exact hpk.length_eq
  rw[e2]at hrow;obtain⟨A,c,rfl,hr⟩:=CU (S:=Btw (W.alloc (.cells #[.map (some m)] 123)) w') 9 hrow (λg h1 h2 h3=>⟨h1,h2,h3⟩) (λs hs'=>by have:=hs s (Dt.1 hs');omega);rw[Ki]at hr;exact⟨_,O,A,c,by rw[Ki],hr,.of_below hbel⟩
def P9(x:Tree):Prop:=∀S w0 cs,Rep S w0 (Hb x) cs->Co x->Td nodeB x=true->Mb x<=1000000000->QX 53 #[.agg cs.toArray] (Hb (sortT x)) w0
theorem PC{xs:List Tree}{j:Nat}(h:j<xs.length):Qd (Ve (xs.take (j+1)))=Qd (Ve (xs.take j))++[Hb (sortT xs[j])]:=by
  rw[iQ h,Pd,Pd,Sh,Sh,jQ,jQ];rfl
def Nz(ks:List Str)(xs:List Tree):List Tree:=(Lj ks).map λkey=>(Lf ks (Ve xs) key).getD (.node 0 [] [] [])
theorem Mv(ks:List Str)(xs:List Tree):(Nz ks xs).length=ks.length:=by rw[Nz,rQ,Ki]
theorem VL{ks:List Str}{xs:List Tree}{j:Nat}{y:Tree}(h:j<(Lj ks).length)(hy:Lf ks xs (Lj ks)[j]=some y):Qd ((Nz ks xs).take (j+1))=Qd ((Nz ks xs).take j)++[Hb (sortT y)]:=by
  have h':j<(Nz ks xs).length:=by rw[Mv,<-Ki];exact h
  rw[iQ h',Pd,Pd,jQ];simp only[Nz,List.getElem_map,Lu hy,Option.getD_some];rfl
theorem VA(k:Int)(t:Str)(ks:List Str)(xs:List Tree)(ih:∀x,x∈xs->P9 x):P9 (.node k t ks xs):=by
 intro S w0 cs hR hok hnx hsz;have hR:=hR.old;rw[Co]at hok;rw[Mb]at hsz;have hxn:=Ll xs;have hnx:=Tf hnx;obtain⟨A,c,B,e,rfl,hk,ht,hK,hX⟩:=hR.tree_inv;have hXl:=hX.slice_len;have hKn:k=6->ks.length=xs.length:=λe=>(Cu (e▸hnx.1)).2;refine Ea func53 O ntmps53 Db (Rb _) ?_;have hF:=FR.start w0 [];refine Da (Le hF O ?_);rintro b1 w hb1 hF -;refine Jc (cs:=#[J 0,I [],aQ,aQ]) hF kX O ?_;rintro b2 w hb2 hF -;refine Qb (Aa (Ob Se O) (Tb (Yi dZ O hF.F 1 O O) (Aa (Ob Re O) (Tb (Rm iZ O hF.F 1 O O) ?_))));refine Ja (w':=w) (v:=.agg #[J k,I t,aQ,aQ]) Ib (Ye hF kX mZ O ?_);rintro b3 w hb3 hF -;refine Ca (Fa (Da (Aa (Ob Se O) (Tb (Yi dZ O hF.F 2 O O) (Aa (Om O O) (Ca ?_))))));refine Pb O O (λhc0=>?_) (λhc0=>?_);refine Fa (Da (Aa (Ob Ub O) (Tb (Ff zQ O hF.F 2 O O) (Aa (Ug yZ O) (Aa (Gb O) (Ca (Va ?_)))))));refine Tc (λμ σ w=>∃(j:Nat),∃(A1:Option Addr),∃(c1:Nat),∃(sb:List (Nat × Obj)),∃(cs1:List Value),μ=xs.length-j/\(j<=xs.length)/\(SlB 25 4 A1 j c1 cs1 sb)/\(RX w0 ([b3,b2,b1]++sb.map (·.1)) w (Qd (Ve (xs.take j))) cs1)/\AllEq σ [(2,V b2),(3,V b3),(18,.slice B xs.length e),(19,J ((xs.length:Nat))),(20,J ((j:Int)))]/\FR w0 [] ([(b3,.cells #[J k,I t,aQ,.slice A1 j c1] 25),(b2,.cells #[J 0,I [],aQ,aQ] 25),(b1,.cells #[J k,I t,.slice A ks.length c,.slice B xs.length e] 25)]++(sb++[])) w) _ ⟨0,none,0,[],[],O,(Nat.zero_le _),(SlB.nil _ _),(RX.nil),T8,hF⟩ ?_;rintro μ σ w ⟨j,A1,c1,sb,cs1,rfl,hj,hS,hDX,hs,hF⟩;refine Cg.slots hs ?_;clear hs;intro σ;refine Da (Aa (Sl O O) (Ca (Fa ?_)));refine Pb O O (λhc1=>?_) (λhc1=>?_);refine Na (Ga (Fa (Va (Da ?_))));obtain⟨ad0,cs0,hA0,hl0,hk0,hx0⟩:=hX.tree_elem (i:=j) Ba;have ho0:=hx0.one_;refine Ja (v:=.pointer (some (ad0.add (j*4)))) (Sa (i:=(j:Int)) Mg O hA0 O Ba Ba) (Ja (v:=.agg (List.toArray cs0)) (Xa (l:=cs0) aZ mZ O hl0 (hF.cells0 hk0)) ?_)
 refine My (l:=cs0) hF kX (by rw[hl0];exact mZ) (by rw[hl0];rfl) (v:=.agg (List.toArray cs0)) O O (ho0) O ?_;intro b4 w hb4 hF hE;have hDX:=hDX.alloc hE hb4;refine Ca (Ld (.of [7]) (bQ [0,1,2] (cQ [3,4,5] (.free 6 (.act 7 .nil)))) hF ?_);intro w hF hE;have hDX:=hDX.ext hE;refine⟨λwq=>FR w0 [] [(b4,.cells (List.toArray cs0) 25),(b3,.cells #[J k,I t,aQ,.slice A1 j c1] 25),(b2,.cells #[J 0,I [],aQ,aQ] 25),(b1,.cells #[J k,I t,.slice A ks.length c,.slice B xs.length e] 25)] wq,hF.mid 0 4,?_⟩;refine Fb O (Ob Ub O) (Sf O (Ff zQ O C0 1 O O) (Bb O (v:=.agg (List.toArray cs0)) (λw hC=>Xa (l:=cs0) aZ mZ O hl0 (hC.cellsAll 0 O)) ?_));refine Uc O (ih xs[j] (eQ Ba) _ _ cs0 (hF.rep hx0) (Pj hok.2.2 _ (eQ Ba)) (hnx.2 _ (eQ Ba)) (by have:=Pl (List.getElem_mem (l:=xs) (n:=j) Ba);omega)) (Ma BD O O) ?_;rintro _ w ⟨ct,rfl,hRt,hE⟩;have hlt:ct.length=4:=hRt.length.trans (Nc _);have hot:=hRt.one_;have hYX:=RX.made (ids:=[b4,b3,b2,b1]++sb.map (·.1)) hF.same.size (λx hx=>hF.lt_ids (by grind)) hRt;have hDX:=(hDX.ext hE).append hYX;have hF:=hF.ext hE;clear hE hYX;refine⟨hF.mid 0 4,?_⟩;refine Nf 1 O hF (Fu (l:=ct) yZ mZ kX Ta Ta O hlt) ?_;intro b5 w hb5 hF hE;have hDX:=hDX.alloc hE hb5;refine⟨hF.mid 1 4,?_⟩;refine QK (news:=ct) (len':=j+1) (ys:=cs1++ct) O Kr hF hS O O (by rw[hlt]) (λ_=>⟨_,O,Yc (hF.cellsAll 0 O)⟩) (Um hot) (by simp only[maxLen];omega) (O) (O) Ba ?_;intro A1 c1 i_1 w hS1_i hF hE hnew;have hDX:=hDX.app (l:=[b5,b4,b3,b2,b1]) hE hnew;refine⟨hF.mid 1 4,?_⟩;refine Fb O (Ob Ub O) (HG (.slice _ _ _) O hF lZ O O Rw.app U1 ?_);intro w hF hE;have hDX:=hDX.store hE (by grind);refine Ac (Cb (Ga (Ha (Aa (Il O O) (Aa (Gb O) (Ua ?_))))));refine Xb ⟨_,?_,j+1,A1,c1,i_1,cs1++ct,O,Ba,(by assumption),(by rw[PC Ba];exact hDX.sub (by grind)),T8,hF.drop 2⟩;omega
 refine Kc (Ec O ?_);refine Ga (Da (Tb (He aZ mZ O hF.F 0 O O) ?_));refine Xd hF mZ O O Mr.app ?_;intro w hF hE;have hDX:=hDX.store hE (by grind);refine Ca (Ab (Za (Ka (Uh O (l:=[J k,I t,aQ,.slice A1 j c1]) O aZ mZ O (hF.cellsAll 1 O)) ?_)));have ej:j=xs.length:=by omega
 subst ej;rw[List.take_length]at hDX;refine⟨_,O,?_,hF.same⟩;rw[sortT,if_neg hc0];exact Rep.tree_mk hk ht (Rep.nil_slice 0 Ba none) (hS.rep (pre:=[_,_,_]) (post:=[]) hF hDX (by rw[Rl,Sh,rQ]));refine Na (Ga (Da (Tb (He aZ mZ O hF.F 2 O O) ?_)));have k6:k=6:=by simpa using hc0
 refine Ya (PL k t ks xs (Cu (k6▸hnx.1)).1 (Cu (k6▸hnx.1)).2 _ _ _ (hF.rep hR)) (Ma en_87 O O) ?_;rintro _ w ⟨m1,l1,rfl,hge,hm1,hk1,hr1,hE⟩;have hF:=hF.cons_ext hE hm1 hge;have hr1:=hr1.back hF.same;clear hE hm1 hge;refine Aa (Px) (Qb (Aa (Pr) ?_));refine Ya (keys_c m1 l1 _ (hF.heap (i:=0) O)) (Ma en_89 O O) ?_;rintro _ w ⟨bk,rfl,hKA,hE⟩;have hF:=hF.ext hE;refine Ya (L8 bk m1 l1 ks _ hKA hk1 (Cu (k6▸hnx.1)).1 Ba hok.2.1) (Ma en_88 O O) ?_;rintro _ w ⟨A2,c2,rfl,hK2,hE⟩;have hKX:=RX.made (ids:=[m1,b3,b2,b1]) hF.same.size (λx hx=>hF.lt_ids (by grind)) hK2;have hF:=hF.ext hE;clear hE hK2;refine Aa (Ob Zd O) (Zj (.slice _ _ _) hF sizeOf22 O O Mr Rw ?_);intro w hF hE;have hKX:=hKX.store hE (by grind);refine Ca (Fa (Da (Aa (Ob Zd O) (Tb (Ff yQ O hF.F 1 O O) (Aa (Ug xZ O) (Aa (Gb O) (Ca (Va ?_))))))));refine Tc (λμ σ w=>∃(j:Nat),∃(A1:Option Addr),∃(c1:Nat),∃(sb:List (Nat × Obj)),∃(cs1:List Value),μ=ks.length-j/\(j<=ks.length)/\(SlB 25 4 A1 j c1 cs1 sb)/\(RX w0 ([m1,b3,b2,b1]++sb.map (·.1)) w (Qd ((Nz ks xs).take j)) cs1)/\(RX w0 ([m1,b3,b2,b1]++sb.map (·.1)) w [Lh (Lj ks)] [.slice A2 ks.length c2])/\AllEq σ [(2,V b2),(3,V b3),(6,.map (some m1)),(40,.slice A2 ks.length c2),(41,J ((ks.length:Nat))),(42,J ((j:Int)))]/\FR w0 [] ([(m1,Xg (l1)),(b3,.cells #[J k,I t,.slice A2 ks.length c2,.slice A1 j c1] 25),(b2,.cells #[J 0,I [],aQ,aQ] 25),(b1,.cells #[J k,I t,.slice A ks.length c,.slice B xs.length e] 25)]++(sb++[])) w) _ ⟨0,none,0,[],[],O,(Nat.zero_le _),(SlB.nil _ _),(RX.nil),(hKX),U_,hF⟩ ?_;rintro μ σ w ⟨j,A1,c1,sb,cs1,rfl,hj,hS,hDX,hKX,hs,hF⟩;refine Cg.slots hs ?_;clear hs;intro σ;refine Da (Aa (Sl O O) (Ca (Fa ?_)));refine Pb O O (λhc2=>?_) (λhc2=>?_);refine Na (Ga (Fa (Va (Da ?_))));obtain⟨ad2,hA2,hk2,hx2⟩:=hKX.rep.str_elem (i:=j) (by rw[Ki];omega)
 refine Ja (v:=.pointer (some (ad2.add (j*1)))) (Sa (i:=(j:Int)) Wt O hA2 O Ba Ba) ?_;refine Ja (v:=I ((Lj ks)[j]'(by rw[Ki];omega))) (Ad iZ O hk2) ?_;refine Aa (Rf O) (Ca ?_);refine Ld (.of [9]) (bQ [0,1,2,3,4] (cQ [5,6,7] (.free 8 (.act 9 .nil)))) hF ?_;intro w hF hE;have hDX:=hDX.ext hE;have hKX:=hKX.ext hE;refine⟨λwq=>FR w0 [] [(m1,Xg (l1)),(b3,.cells #[J k,I t,.slice A2 ks.length c2,.slice A1 j c1] 25),(b2,.cells #[J 0,I [],aQ,aQ] 25),(b1,.cells #[J k,I t,.slice A ks.length c,.slice B xs.length e] 25)] wq,hF.mid 0 4,?_⟩;refine Fb O (Ob Ub O) (Sf O (Ff zQ O C0 1 O O) (Fb O (Pr) (Fb O (Md O) ?_)));obtain⟨cy,y,hlk,hlt_,hym,hry⟩:=YH hk1 hr1 (Dt.1 (List.getElem_mem (l:=Lj ks) (n:=j) (by rw[Ki];omega)));have hoy:=hry.one_;have hly:cy.length=4:=hry.length.trans (Nc _);refine Bb O (v:=.agg (List.toArray cy)) (λw hC=>Ot underlying123 iX kX O O (hC.heap (i:=0) O) (by rw[hlk];rfl)) ?_;refine Uc O (ih y hym _ _ cy (hF.rep hry) (Pj hok.2.2 y hym) (hnx.2 y hym) (by have:=Pl hym;omega)) (Ma BD O O) ?_;rintro _ w ⟨ct,rfl,hRt,hE⟩;have hlt:ct.length=4:=hRt.length.trans (Nc _);have hot:=hRt.one_;have hYX:=RX.made (ids:=[m1,b3,b2,b1]++sb.map (·.1)) hF.same.size (λx hx=>hF.lt_ids (by grind)) hRt;have hDX:=(hDX.ext hE).append hYX;have hF:=hF.ext hE;have hKX:=hKX.ext hE;clear hE hYX;refine⟨hF.mid 0 4,?_⟩;refine Nf 1 O hF (Fu (l:=ct) yZ mZ kX Ta Ta O hlt) ?_;intro b6 w hb6 hF hE;have hDX:=hDX.alloc hE hb6;have hKX:=hKX.alloc hE hb6;refine⟨hF.mid 1 4,?_⟩;refine QK (news:=ct) (len':=j+1) (ys:=cs1++ct) O Kr hF hS O O (by rw[hlt]) (λ_=>⟨_,O,Yc (hF.cellsAll 0 O)⟩) (Um hot) (by simp only[maxLen];omega) (O) (O) Ba ?_;intro A3 c3 i_3 w hS3_i hF hE hnew;have hDX:=hDX.app (l:=[b6,m1,b3,b2,b1]) hE hnew;have hKX:=hKX.app (l:=[b6,m1,b3,b2,b1]) hE hnew
 refine⟨hF.mid 1 4,?_⟩;refine Fb O (Ob Ub O) (HG (.slice _ _ _) O hF lZ O O Rw.app U1 ?_);intro w hF hE;have hDX:=hDX.store hE (by grind);have hKX:=hKX.store hE (by grind);refine Ac (Cb (Ga (Ha (Aa (Il O O) (Aa (Gb O) (Ua ?_))))));refine Xb ⟨_,?_,j+1,A3,c3,i_3,cs1++ct,O,Ba,(by assumption),(by rw[VL (by rw[Ki];omega) hlt_];exact hDX.sub (by grind)),(hKX.sub (by grind)),U_,hF.drop 1⟩;omega;refine Kc (Ec O ?_);refine Ga (Da (Tb (He aZ mZ O hF.F 1 O O) ?_));refine Xd hF mZ O O Rw.app ?_;intro w hF hE;have hDX:=hDX.store hE (by grind);have hKX:=hKX.store hE (by grind);refine Ca (Ab (Za (Ka (Uh O (l:=[J k,I t,.slice A2 ks.length c2,.slice A1 j c1]) O aZ mZ O (hF.cellsAll 2 O)) ?_)));have ej:j=ks.length:=by omega
 subst ej;rw[List.take_of_length_le (by rw[Mv];exact gQ _)]at hDX;refine⟨_,O,?_,hF.same⟩;rw[sortT,if_pos k6]
 ·exact Rep.tree_mk hk ht hKX.done (hS.rep (pre:=[_,_,_,_]) (post:=[]) hF hDX (by rw[Rl];exact Mv ks xs))
theorem B2(x:Tree):P9 x:=Tree.ind VA x
def zeroT:Tree:=.node 0 [] [] []
theorem Dm(S:Nat->Prop)(w:World):Rep S w (Hb zeroT) [J 0,I [],aQ,aQ] :=
  Rep.tree_mk ⟨by omega,by omega⟩ La (Rep.nil_slice 0 Ba none) (Rep.nil_slice 0 Ba none)
def Ae(x:Tree):Tree:=if Kg x then sortT x else zeroT
def Ms(x:Tree):Tree:=if Kg x then x else zeroT
def Af(x y:Tree):Int:=if Kg x then if Kg y then Bk (sortT x) (sortT y) else 1 else if Kg y then -1 else 0
theorem HI{k:Int}{t:Str}{ks:List Str}{xs:List Tree}(h:nodeB (.node k t ks xs)=true):ks.length<=xs.length:=by
  by_cases h6:k=6
  ·subst h6;have:=(Cu h).2;omega
  have:ks=[]:=by
    simp only[nodeB]at h;by_cases h5:k=5
    ·subst h5;simp at h;exact h.1
    rw[if_neg h5, if_neg h6]at h;cases ks with
    | nil=>rfl
    | cons a l=>simp at h
  subst this;simp
theorem TY:∀x:Tree,Td nodeB x=true->Er x+1<=Mb x:=λx=>Tree.ind (Q:=λx=>Td nodeB x=true->Er x+1<=Mb x) (λk t ks xs ih h=>by
  obtain⟨h1,h2⟩:=Tf h;have h3:=HI h1;have h7:∀ys:List Tree,(∀y∈ys,y∈xs)->ys.length+So ys<=Vb ys:=by
    intro ys
    induction ys with
    | nil=>intro _;simp[So,Vb]
    | cons y ys ihy =>
      intro hm;have h5:=ihy (λz hz=>hm z (by simp[hz]));have h9:=ih y (hm y La) (h2 y (hm y La));simp only[So,Vb,kQ];omega
  have:=h7 xs (λ_ h=>h);rw[Er,Mb];omega) x
theorem Ap{key:Str}{y:Tree}:∀{ks:List Str}{xs:List Tree},Lf ks xs key=some y->y∈xs
  | [],xs,h=>by cases xs <;> cases h
  | k::ks,[],h=>by cases h
  | k :: ks, x :: xs, h => by
    rw[Lf]at h;by_cases he:k=key
    ·rw[if_pos he]at h;injection h with h;simp[h]
    rw[if_neg he]at h;simp[Ap h]
theorem Vz:∀{xs:List Tree},(∀x∈xs,Co x)->Iz xs
  | [],_=>by rw[Iz];trivial
  | x::xs,h=>by rw[Iz];exact⟨h x La,Vz (λy hy=>h y (by simp[hy]))⟩
theorem GE(x:Tree):Co x->Co (sortT x):=Tree.ind (Q:=λx=>Co x->Co (sortT x)) (λk t ks xs ih h=>by
  rw[Co]at h;have hs:∀y∈Ve xs,Co y:=by
    intro y hy;rw[Sh]at hy;obtain⟨z,hz,rfl⟩:=nQ.1 hy;exact ih z hz (Pj h.2.2 z hz)
  rw[sortT];split
  ·rw[Co]
   refine⟨h.1,λk hk=>h.2.1 k (Dt.1 hk),Vz λy hy=>?_⟩;obtain⟨key,_,rfl⟩:=nQ.1 hy;cases hl:Lf ks (Ve xs) key with
   | none=>simp only[Option.getD_none];rw[Co];simp[Iz]
   | some z=>exact hs z (Ap hl)
  rw[Co];exact⟨h.1,by simp,Vz hs⟩) x
theorem ZL{x:Tree}(h:Kg x=true):Mb x<=4096:=by
  unfold Kg Bq at h;simp only[Bool.and_eq_true,decide_eq_true_eq]at h;exact h.1.1
theorem HO(x:Tree)(hsz:Mb x<=1000000000)(S:Nat->Prop)(w0:World)(cs:List Value)(hR:Rep S w0 (Hb x) cs)(hk:Co x)(hG:Gl w0):QX 55 #[.agg cs.toArray] (Hb (Ae x)) w0:=by
 have hl:cs.length=4:=hR.length.trans (Nc x);have ho:=hR.one_;refine Ea func55 O ntmps55 Db (Rb _) ?_;have hF:=FR.start w0 [];refine Da (Hm (v:=.agg (List.toArray cs)) (cs:=(List.toArray cs)) hF O O ?_);rintro b1 w hb1 hF -;refine Jc (cs:=#[J 0,I [],aQ,aQ]) hF kX O ?_;rintro b2 w hb2 hF -;refine Ca (Fa (Da (Ja (v:=.agg (List.toArray cs)) (Xa (l:=cs) aZ mZ O hl (hF.cellsAll 1 O)) ?_)));refine Oa hF (X2 x hsz S _ cs (hF.rep hR) hk (hG.ext hF.same)) (Ma YB O O) ?_;intro w hF;refine Aa (Oh O) (Ca ?_);refine Fe O O (λhc0=>?_) (λhc0=>?_);refine Da (Ja (w':=w) (v:=.agg #[J 0,I [],aQ,aQ]) Ib ?_);refine Xd hF mZ O O Qg ?_;rintro w hF -;refine Ca (Ab (Za (Ka (Uh O (l:=[J 0,I [],aQ,aQ]) O aZ mZ O (hF.cellsAll 0 O)) ?_)));have ho_:Kg x=false:=by simpa using hc0
 refine⟨_,O,?_,hF.same⟩;rw[Ae,ho_];exact Dm _ _;refine Na (Ga (Da (Ja (v:=.agg (List.toArray cs)) (Xa (l:=cs) aZ mZ O hl (hF.cellsAll 1 O)) ?_)));refine Ya (B2 x S _ cs (hF.rep hR) hk (Sk (by simpa using hc0)) hsz) (Ma BD O O) ?_;rintro _ w ⟨ct,rfl,hRt,hE⟩;have hlct:ct.length=4:=hRt.length.trans (Nc _);have hoct:=hRt.one_;have hXX:=RX.made (ids:=[b2,b1]) hF.same.size (λx hx=>hF.lt_ids (by grind)) hRt;have hF:=hF.ext hE;clear hE hRt;refine Eh 0 (l:=ct) (cs':=(List.toArray ct)) hF (by rw[hlct];exact mZ) O (v:=.agg (List.toArray ct)) O O (hoct) O (by rw[hlct];exact Nat.le_of_ble_eq_true O) (Bm (by rw[hlct];rfl)) ?_;intro w hF hE;have hXX:=hXX.store hE (by grind);refine Ca (Ab (Za (Ka (Uh O (l:=ct) O aZ mZ hlct (hF.cellsAll 0 O)) ?_)));have ho_:Kg x=true:=by simpa using hc0
 refine⟨_,O,?_,hF.same⟩;rw[Ae,ho_]
 ·exact hXX.done
theorem SJ(x:Tree)(hsz:Mb x<=1000000000)(S:Nat->Prop)(w0:World)(cs:List Value)(hR:Rep S w0 (Hb x) cs)(hk:Co x)(hG:Gl w0):QX 66 #[.agg cs.toArray] (Hb (Ms x)) w0:=by
 have hl:cs.length=4:=hR.length.trans (Nc x);have ho:=hR.one_;refine Ea func66 O ntmps66 Db (Rb _) ?_;have hF:=FR.start w0 [];refine Da (Hm (v:=.agg (List.toArray cs)) (cs:=(List.toArray cs)) hF O O ?_);rintro b1 w hb1 hF -;refine Jc (cs:=#[J 0,I [],aQ,aQ]) hF kX O ?_;rintro b2 w hb2 hF -;refine Ca (Fa (Da (Ja (v:=.agg (List.toArray cs)) (Xa (l:=cs) aZ mZ O hl (hF.cellsAll 1 O)) ?_)));refine Oa hF (X2 x hsz S _ cs (hF.rep hR) hk (hG.ext hF.same)) (Ma YB O O) ?_;intro w hF;refine Aa (Oh O) (Ca ?_);refine Fe O O (λhc0=>?_) (λhc0=>?_);refine Da (Ja (w':=w) (v:=.agg #[J 0,I [],aQ,aQ]) Ib ?_);refine Xd hF mZ O O Qg ?_;rintro w hF -;refine Ca (Ab (Za (Ka (Uh O (l:=[J 0,I [],aQ,aQ]) O aZ mZ O (hF.cellsAll 0 O)) ?_)));have ho_:Kg x=false:=by simpa using hc0
 refine⟨_,O,?_,hF.same⟩;rw[Ms,ho_];exact Dm _ _;refine Na (Ga (Da (Ja (v:=.agg (List.toArray cs)) (Xa (l:=cs) aZ mZ O hl (hF.cellsAll 1 O)) ?_)));refine Ya (DX x S _ cs (hF.rep hR) hsz (by have:=TY x (Sk (by simpa using hc0));omega)) (Ma HP O O) ?_;rintro _ w ⟨ct,rfl,hRt,hE⟩;have hlct:ct.length=4:=hRt.length.trans (Nc _);have hoct:=hRt.one_;have hXX:=RX.made (ids:=[b2,b1]) hF.same.size (λx hx=>hF.lt_ids (by grind)) hRt;have hF:=hF.ext hE;clear hE hRt;refine Eh 0 (l:=ct) (cs':=(List.toArray ct)) hF (by rw[hlct];exact mZ) O (v:=.agg (List.toArray ct)) O O (hoct) O (by rw[hlct];exact Nat.le_of_ble_eq_true O) (Bm (by rw[hlct];rfl)) ?_;intro w hF hE;have hXX:=hXX.store hE (by grind);refine Ca (Ab (Za (Ka (Uh O (l:=ct) O aZ mZ hlct (hF.cellsAll 0 O)) ?_)));have ho_:Kg x=true:=by simpa using hc0
 refine⟨_,O,?_,hF.same⟩;rw[Ms,ho_]
 ·exact hXX.done
theorem CI(x y:Tree)(hsx:Mb x<=1000000000)(hsy:Mb y<=1000000000)(S S':Nat->Prop)(w0:World)(cs ct:List Value)(hR:Rep S w0 (Hb x) cs)(hR':Rep S' w0 (Hb y) ct)(hk:Co x)(hk':Co y)(hG:Gl w0):Calls prog 29 #[.agg cs.toArray,.agg ct.toArray] w0 (Pc λv w'=>v=J (Af x y)/\Same [] w0 w'):=by
 have hl:cs.length=4:=hR.length.trans (Nc x);have ho:=hR.one_;have hl':ct.length=4:=hR'.length.trans (Nc y);have ho':=hR'.one_;refine Ea func29 O ntmps29 Db (Lc _ _) ?_;have hF:=FR.start w0 [];refine Da (Hm (v:=.agg (List.toArray cs)) (cs:=(List.toArray cs)) hF O O ?_);rintro b1 w hb1 hF -;refine Hm (v:=.agg (List.toArray ct)) (cs:=(List.toArray ct)) hF O O ?_;rintro b2 w hb2 hF -;refine Aa (Lb O) (Ca (Fa ?_));refine Zc (zs:=.of []) (.free 0 (.free 2 (.act 1 (.act 3 (.free 4 (.free 5 .nil)))))) hF ?_;intro w hF;refine Bb O (v:=.agg (List.toArray cs)) (λw hC=>Xa (l:=cs) aZ mZ O hl (hC.cellsAll 1 O)) (Bb O (v:=.agg (List.toArray ct)) (λw hC=>Xa (l:=ct) aZ mZ O hl' (hC.cellsAll 0 O)) ?_);refine Sc hF (X2 x hsx S _ cs (hF.rep hR) hk (hG.ext hF.same)) O (Ma YB O O) ?_;intro w hF;refine⟨hF,?_⟩;refine Sc hF (X2 y hsy S' _ ct (hF.rep hR') hk' (hG.ext hF.same)) O (Ma YB O O) ?_;intro w hF;refine⟨hF,?_⟩;refine Fb O (Jb O) (Fb O (Jb O) (Ac (Ga (Fa (Va (Da (Aa (Dc O) (Aa (Dc O) ?_))))))));refine Rc (d:=13) O (λhg0=>?_) (λhg0=>?_);refine Aa (Dc O) (Aa (Yb O O) (Aa (Jb O) (Ca ?_)));refine Fe O O (λhc0=>?_) (λhc0=>?_);refine Fa (Zc (zs:=.of []) (.free 0 (.free 2 (cQ [1,3,4] (.free 5 .nil)))) hF ?_);intro w hF;refine Bb O (v:=.agg (List.toArray cs)) (λw hC=>Xa (l:=cs) aZ mZ O hl (hC.cellsAll 1 O)) (Bb O (v:=.agg (List.toArray ct)) (λw hC=>Xa (l:=ct) aZ mZ O hl' (hC.cellsAll 0 O)) ?_);refine Uc O (B2 x S _ cs (hF.rep hR) hk (Sk (by simp_all)) hsx) (Ma BD O O) ?_;rintro _ w ⟨cx,rfl,hRt,hE⟩;have hlcx:cx.length=4:=hRt.length.trans (Nc _);have hocx:=hRt.one_;have hXX:=RX.made (ids:=[]) hF.same.size (λx hx=>hF.lt_ids (by grind)) hRt;have hF:=hF.ext hE;clear hE hRt;refine⟨hF,?_⟩;refine Uc O (B2 y S' _ ct (hF.rep hR') hk' (Sk (by simp_all)) hsy) (Ma BD O O) ?_;rintro _ w ⟨cy,rfl,hRt,hE⟩
 have hlcy:cy.length=4:=hRt.length.trans (Nc _);have hocy:=hRt.one_;have hYX:=RX.made (ids:=[]) hF.same.size (λx hx=>hF.lt_ids (by grind)) hRt;have hXX:=hXX.ext hE;have hF:=hF.ext hE;clear hE hRt;refine⟨hF,?_⟩;refine Uc O (TX (sortT x) (sortT y) _ _ _ cx cy hXX.rep hYX.rep (GE x hk) (GE y hk') (hG.ext hF.same)) (Ra en_52 O O O) ?_;rintro _ w ⟨rfl,hE⟩;have hF:=hF.ext hE;have hXX:=hXX.ext hE;have hYX:=hYX.ext hE;refine⟨hF,?_⟩;refine Fb O (Lb O) (Ac (Ga ?_));refine Hc (v:=J (Bk (sortT x) (sortT y))) O O ⟨congrArg (Value.int .i64) ?_,hF.same⟩;unfold Af;simp_all;refine Da (Aa (Dc O) (Aa (Jb O) (Ca ?_)));refine Fe O O (λhc1=>?_) (λhc1=>?_);refine Da (Aa (Lb O) (Ca ?_));refine Hc (v:=J 1) O O ⟨congrArg (Value.int .i64) ?_,hF.same⟩;unfold Af;simp_all;refine Da (Aa (Dc O) (Aa (Jb O) (Ca ?_)));refine Fe O O (λhc2=>?_) (λhc2=>?_);refine Da (Aa (Lb O) (Ca ?_));refine Hc (v:=J ((-1))) O O ⟨congrArg (Value.int .i64) ?_,hF.same⟩;unfold Af;simp_all;refine Na (Cb (Ga (Da (Aa (Lb O) (Ca ?_)))));refine Hc (v:=J 0) O O ⟨congrArg (Value.int .i64) ?_,hF.same⟩;unfold Af;simp_all;refine Ia (Aa (Bc O O) (Aa (Jb O) (Ca (We O (Da (Aa (Dc O) (Aa (Jb O) (Ca ?_))))))));refine Fe O O (λhc1=>?_) (λhc1=>?_);refine Da (Aa (Lb O) (Ca ?_));refine Hc (v:=J 1) O O ⟨congrArg (Value.int .i64) ?_,hF.same⟩;unfold Af;simp_all;refine Da (Aa (Dc O) (Aa (Jb O) (Ca ?_)));refine Fe O O (λhc2=>?_) (λhc2=>?_);refine Da (Aa (Lb O) (Ca ?_));refine Hc (v:=J ((-1))) O O ⟨congrArg (Value.int .i64) ?_,hF.same⟩;unfold Af;simp_all;refine Na (Cb (Ga (Da (Aa (Lb O) (Ca ?_)))));refine Hc (v:=J 0) O O ⟨congrArg (Value.int .i64) ?_,hF.same⟩;unfold Af;simp_all
end Go.Scarf
