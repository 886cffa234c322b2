/- A part of the proof. -/
import Derived.Test.YtgkmigdopohcnaaGreatDoorW10
import Derived.Test.YtgkmigdopohcnaaGreatDoorIter
set_option linter.all false
set_option maxHeartbeats 8000000
set_option maxRecDepth 10000
namespace Go.Scarf
open Go.RowKit Go.Proofs Go.Proofs.Tryz
mutual
def Pu:Tree->Nat|.node _ _ ks xs=>ks.length+Tq xs
def Tq:List Tree->Nat|[]=>0|x::xs=>Pu x+Tq xs
end
theorem D7:∀{xs:List Tree}{x:Tree},x∈xs->Pu x<=Tq xs
  | [],_,h=>absurd h Ma
  | y :: ys, x, h => by
    rw[Tq];rcases oQ.1 h with rfl|h
    ·omega
    have:=D7 h;omega
theorem XF{xs:List Tree}{j:Nat}(h:j<xs.length):Pe (xs.take (j+1))=Pe (xs.take j)++[Pb xs[j]]:=by
  rw[iQ h,Me,Me,jQ];rfl
theorem KI{xs:List Tree}{j:Nat}(h:j<xs.length):Pe (xs.drop j)=Pb xs[j]::Pe (xs.drop (j+1)):=by
  rw[List.drop_eq_getElem_cons h];rfl
theorem RepL.lits{S S':Nat->Prop}{w w':World}:∀{ks:List Str}{cs:List Value},RepL S w (ks.map Cn) cs->RepL S' w' (ks.map Cn) cs
  | [],cs,h=>by have:=RepL.nil_inv h;subst this;exact RepL.nil_mk
  | k :: ks, cs, h => by
    obtain⟨c1,c2,rfl,h1,h2⟩:=RepL.cons_inv h;obtain⟨rfl,h3⟩:=Rep.lit_inv h1;exact RepL.cons_mk (Rep.lit_mk h3) (RepL.lits h2)
def Lie(w:World)(A:Option Addr)(n:Nat)(es:List Value):Prop:=n≠0->∃ad,A=some ad/\∀j (hj:j<es.length),w.cell? (ad.add j)=some es[j]
theorem Lie.ext{w w':World}{A:Option Addr}{n:Nat}{es:List Value}(h:Lie w A n es)(hs:Same [] w w'):Lie w' A n es:=λhn=>by
  obtain⟨ad,hA,hc⟩:=h hn;exact⟨ad,hA,λj hj=>((FR.start w []).ext hs).cells0 hc j hj⟩
def QB(e m n:Nat)(es:List Value)(w0:World)(v:Value)(w':World):Prop :=
  ∃A c sb,v=.slice A n c/\SlB e m A n c es sb/\(∀p∈sb,w'.heap[p.1]? = some p.2/\w0.heap.size<=p.1)/\Same [] w0 w'
theorem Rep.slice_open{S:Nat->Prop}{w:World}{ds:List D}{A:Option Addr}{n c m:Nat}(h:Rep S w (.slice ds) [.slice A n c])(hm:∀d∈ds,Ud d=m) :
    ∃es,RepL S w ds es/\es.length=n*m/\Lie w A n es:=by
  have hl:=h.slice_len;obtain⟨A',c',hA,_,_,hr⟩:=Rep.slice_inv h;simp only[List.cons.injEq,Value.slice.injEq,and_true]at hA;obtain⟨rfl,_,_⟩:=hA;have hsz:∀ds:List D,(∀d∈ds,Ud d=m)->Ud.sizeL ds=ds.length*m:=by
    intro ds
    induction ds with
    | nil=>intro _;simp[Ud.sizeL]
    | cons d ds ih=>intro h;rw[Ud.sizeL,h d Ma,ih (λx hx=>h x (by simp[hx])),kQ,Nat.add_mul];omega
  by_cases hne:ds=[]
  ·subst hne
   exact⟨[],RepL.nil_mk,by simp[hl.1],λh=>absurd hl.1 (by simpa using h)⟩
  obtain⟨ad, rfl, es, hc, hr⟩ := hr hne;exact⟨es,hr,by rw[hr.length,hsz ds hm,hl.1],λ_=>⟨ad,O,λj hj=>(hc j hj).1⟩⟩
theorem UR(ks:List Str):∀d∈ks.map Cn,Ud d=1:=λd hd=>by obtain⟨k,_,rfl⟩:=nQ.1 hd;rfl
theorem JM(xs:List Tree):∀d∈Pe xs,Ud d=4:=λd hd=>by rw[Me]at hd;obtain⟨k,_,rfl⟩:=nQ.1 hd;exact Yc k
theorem FR.sbown{w0 w:World}{pre sb post:List (Nat × Obj)}(h:FR w0 [] (pre++(sb++post)) w):∀p∈sb,w.heap[p.1]? = some p.2/\w0.heap.size<=p.1:=λp hp=>by
  have:=h.own p (by simp[hp]);refine⟨this.1,?_⟩;rcases this.2 with h|h
  ·exact h
  cases h
theorem SlB.soft{e m n c:Nat}{A:Option Addr}{es:List Value}{sb:List (Nat × Obj)}{w:World}(h:SlB e m A n c es sb)(hb:∀p∈sb,w.heap[p.1]? = some p.2):∀p∈sb,BH w p.1:=λp hp=>by
  have h2:∃cur,p=(p.1,.cells cur e):=by
    rcases h.2 with ⟨-,-,rfl⟩|⟨g,cur,-,rfl,-⟩
    ·cases hp
    simp only[pQ]at hp;subst hp;exact⟨cur,rfl⟩
  obtain⟨cur,h2⟩:=h2;have:=hb p hp;rw[h2]at this;exact⟨cur,e,this⟩
theorem SlB.btw{e m n c:Nat}{A:Option Addr}{es:List Value}{sb:List (Nat × Obj)}{w w':World}{ds:List D}(h:SlB e m A n c es sb)(hb:∀p∈sb,w'.heap[p.1]? = some p.2/\w.heap.size<=p.1)(hr:RepL (Btw w w') w' ds es)(hn:ds.length=n):Rep (Btw w w') w' (.slice ds) [.slice A n c] :=
  h.repOf (λp hp=>⟨(hb p hp).1,(hb p hp).2,Wb (hb p hp).1,h.soft (λp hp=>(hb p hp).1) p hp⟩) hr hn
theorem OE{S:Nat->Prop}{w0 w w':World}{ks:List Str}{es:List Value}{v:Value}(h:QB 9 1 ks.length es w v w')(hr:RepL S w0 (ks.map Cn) es):∃A c,v=.slice A ks.length c/\Rep (Btw w w') w' (Ni ks) [.slice A ks.length c]/\Same [] w w':=by
  obtain⟨A,c,sb,rfl,hS,hb,hE⟩:=h;exact⟨A,c,O,hS.btw hb hr.lits Ma,hE⟩
theorem JS(len:Nat)(A:Option Addr)(c:Nat)(es:List Value)(w0:World)(hel:es.length=len*1)(hcell:Lie w0 A len es)(ho:∀v∈es,one v=true)(hb:len<=8796093022208):Calls prog 154 #[.slice A len c] w0 (Dd λv w'=>QB 9 1 len es w0 v w'):=by
 refine Ia func154 O ntmps154 Eb (Yb _) ?_;have hF:=FR.start w0 [];refine Ea (Ba (Lr O) (Da (Ga (Ea (Ba (Sf O) (Ka (v:=.bool ((A).isNone)) (K7 yZ O O) (Da ?_)))))));refine Le O O (λhc0=>?_) (λhc0=>?_);have hA:A=none:=by simpa using hc0
 refine Ea (Ba (Lr O) (Da ?_));refine Gc (v:=.slice _ _ _) O O ?_;have h0:len=0:=by rcases Nat.eq_zero_or_pos len with h|h;exact h;obtain⟨ad,hh,_⟩:=hcell Aa;rw[hA]at hh;cases hh
 have hes:es=[]:=List.eq_nil_of_length_eq_zero (by rw[hel,h0,Nat.zero_mul]);subst hes;exact⟨none,0,[],by rw[h0],by rw[h0];exact SlB.nil _ _,by simp,hF.same⟩;refine La (Fa (Ea ?_));refine Rl 0 hF (Zw yZ sZ) ?_;rintro b1 w hb1 hF -;have hS0:SlB 9 1 (some ⟨b1,0,none⟩) 0 0 [] [(b1,.cells #[] 9)]:=⟨by simp,.inr ⟨b1,#[],rfl,rfl,gQ _,Nat.zero_le _,by simp,by simp⟩⟩;refine Ba (Sf O) ?_;refine Vr [] [] (news:=es) (len':=0+len) (ys:=[]++es) ZE hF hS0 rfl rfl (by rw[hel]) (λhk=>by obtain⟨ad,hA,hc⟩:=hcell hk;exact⟨ad,hA,Vd (hF.cells0 hc)⟩) (Xp ho) (by simp only[maxLen];omega) (rfl) (rfl) Aa ?_;intro A0 c0 a_0 w hS0_a hF hE hnew;refine Ba (Lr O) (Da ?_);refine Gc (v:=.slice _ _ _) O O ?_;simp only[Nat.zero_add,List.nil_append]at *;exact⟨_,_,_,O,by assumption,hF.sbown (pre:=[]) (post:=[]),hF.same⟩
theorem YQ(len:Nat)(A:Option Addr)(c:Nat)(es:List Value)(w0:World)(hel:es.length=len*4)(hcell:Lie w0 A len es)(ho:∀v∈es,one v=true)(hb:len<=1000000000):Calls prog 155 #[.slice A len c] w0 (Dd λv w'=>QB 25 4 len es w0 v w'):=by
 refine Ia func155 O ntmps155 Eb (Yb _) ?_;have hF:=FR.start w0 [];refine Ea (Ba (Lr O) (Da (Ga (Ea (Ba (Sf O) (Ka (v:=.bool ((A).isNone)) (K7 zZ O O) (Da ?_)))))));refine Le O O (λhc0=>?_) (λhc0=>?_);have hA:A=none:=by simpa using hc0
 refine Ea (Ba (Lr O) (Da ?_));refine Gc (v:=.slice _ _ _) O O ?_;have h0:len=0:=by rcases Nat.eq_zero_or_pos len with h|h;exact h;obtain⟨ad,hh,_⟩:=hcell Aa;rw[hA]at hh;cases hh
 have hes:es=[]:=List.eq_nil_of_length_eq_zero (by rw[hel,h0,Nat.zero_mul]);subst hes;exact⟨none,0,[],by rw[h0],by rw[h0];exact SlB.nil _ _,by simp,hF.same⟩;refine La (Fa (Ea ?_));refine Rl 0 hF (Zw zZ nZ) ?_;rintro b1 w hb1 hF -;have hS0:SlB 25 4 (some ⟨b1,0,none⟩) 0 0 [] [(b1,.cells #[] 25)]:=⟨by simp,.inr ⟨b1,#[],rfl,rfl,gQ _,Nat.zero_le _,by simp,by simp⟩⟩;refine Ba (Sf O) ?_;refine Vr [] [] (news:=es) (len':=0+len) (ys:=[]++es) Dt hF hS0 rfl rfl (by rw[hel]) (λhk=>by obtain⟨ad,hA,hc⟩:=hcell hk;exact⟨ad,hA,Vd (hF.cells0 hc)⟩) (Xp ho) (by simp only[maxLen];omega) (rfl) (rfl) Aa ?_;intro A0 c0 a_0 w hS0_a hF hE hnew;refine Ba (Lr O) (Da ?_);refine Gc (v:=.slice _ _ _) O O ?_;simp only[Nat.zero_add,List.nil_append]at *;exact⟨_,_,_,O,by assumption,hF.sbown (pre:=[]) (post:=[]),hF.same⟩
def NewC(F:Nat)(args:Array Value)(d:D)(w0:World):Prop:=Calls prog F args w0 (Dd λv w'=>∃ct:List Value,v=.agg ct.toArray/\Rep (Btw w0 w') w' d ct/\Same [] w0 w')
def EL(x:Tree):Prop:=∀S w0 cs,Rep S w0 (Pb x) cs->Qb x<=1000000000->(Pu x<=8796093022208)->NewC 106 #[.agg cs.toArray] (Pb x) w0
theorem AM(k:Int)(t:Str)(ks:List Str)(xs:List Tree)(ih:∀x,x∈xs->EL x):EL (.node k t ks xs):=by
 intro S w0 cs hR hsz hky;rw[Qb]at hsz;rw[Pu]at hky;have hxn:=Vm xs;obtain⟨A,c,B,e,rfl,hk,ht,hK,hX⟩:=hR.tree_inv;obtain⟨eK,hrK,hKl,hKc⟩:=hK.slice_open (UR ks);obtain⟨eX,hrX,hXl,hXc⟩:=hX.slice_open (JM xs);refine Ia func106 O ntmps106 Eb (Yb _) ?_;have hF:=FR.start w0 [];refine Ea (Oe hF O ?_);rintro b1 w hb1 hF -;refine Wc (cs:=#[J 0,I [],aQ,aQ]) hF lX O ?_;rintro b2 w hb2 hF -;refine Da (Ga ?_);refine Md (zs:=.of [9,7]) (bQ [0,1,3,4] (.act 2 (.free 6 (.act 5 (.act 7 (.free 8 (.act 9 .nil))))))) hF ?_;intro w hF;refine Jb O (Ob Td O) (Fg O (Xe yQ O C0 1 O O) (Jb O (Ob Xb O) (Fg O (Xe zQ O C0 1 O O) ?_)));refine Pd O (JS ks.length A c eK _ hKl (Lie.ext hKc hF.same) hrK.one_ Aa) (Na en_154 O O) ?_;rintro _ w hcl;obtain⟨A1,c1,rfl,hK1,hE⟩:=OE hcl hrK;have hKX:=RX.made (ids:=[b2,b1]) hF.same.size (λx hx=>hF.lt_ids (by grind)) hK1;have hF:=hF.ext hE;clear hE hcl hK1;refine⟨hF,?_⟩;refine Jb O (Ob Td O) (Pd O (YQ xs.length B e eX _ hXl (Lie.ext hXc hF.same) hrX.one_ Aa) (Na en_155 O O) ?_);rintro _ w ⟨A2,c2,sb2,rfl,hS2,hh2,hE⟩;have hKX:=hKX.step (ids':=[b2,b1]++sb2.map (·.1)) hE Ma (λx hx=>by rcases mQ.1 hx with hx|hx;exact .inl hx;obtain⟨p,hp,rfl⟩:=nQ.1 hx;exact .inr (hh2 p hp).2);have hF:=hF.extseg hE hh2 hS2.pw;refine⟨hF.mid 0 2,?_⟩;refine IJ (.slice _ _ _) O hF sizeOf22 O O Js.app Iz ?_;intro w hF hE;have hKX:=hKX.store hE (by grind);refine Jb O (Ob Xb O) (IJ (.slice _ _ _) O hF mZ O O Js.app R6 ?_);intro w hF hE;have hKX:=hKX.store hE (by grind);refine Hc (Fa (Ga (Ea (Ba (Ob Xb O) (Zb (Xe zQ O hF.F 1 O O) (Ba (Ch zZ O) (Ba (Za O) (Da (Qa ?_)))))))));refine Jc (λμ σ w=>∃(j:Nat),∃(dn:List Value),∃(rs:List Value),∃(sb:List (Nat × Obj)),μ=xs.length-j/\(j<=xs.length)/\(SlB 25 4 A2 xs.length c2 (dn++rs) sb)/\(dn.length=j*4)/\(RepL S w0 (Pe (xs.drop j)) rs)/\(RX w0 ([b2,b1]++sb.map (·.1)) w (Pe (xs.take j)) dn)/\(RX w0 ([b2,b1]++sb.map (·.1)) w [Ni ks] [.slice A1 ks.length c1])/\AllEq σ [(1,V b1),(2,V b2),(14,.slice A2 xs.length c2),(15,J ((xs.length:Nat))),(16,J ((j:Int)))]/\FR w0 [] ([(b2,.cells #[J 0,I [],aQ,aQ] 25),(b1,.cells #[J k,I t,.slice A1 ks.length c1,.slice A2 xs.length c2] 25)]++(sb++[])) w) _ ⟨0,[],eX,sb2,O,(Nat.zero_le _),(hS2),(O),(by simpa using hrX),(RX.nil),(hKX),Bp,hF⟩ ?_
 rintro μ σ w ⟨j,dn,rs,sb,rfl,hj,hS,hd,hrr,hDX,hKX,hs,hF⟩;refine Cg.slots hs ?_;clear hs;intro σ;refine Ea (Ba (Di O O) (Da (Ga ?_)));refine Ib O O (λhc0=>?_) (λhc0=>?_);refine La (Fa (Ga (Qa (Ea (Ba (Za O) ?_)))));have hjx:j<xs.length:=by omega
 rw[KI hjx]at hrr;obtain⟨c1_,c2_,rfl,hr1,hr2⟩:=RepL.cons_inv hrr;have hl1:c1_.length=4:=hr1.length.trans (Yc _);have ho1:=hr1.one_;obtain⟨ad0,hA0,hk0⟩:=hS.elemMid (pre:=[(b2,.cells #[J 0,I [],aQ,aQ] 25),(b1,.cells #[J k,I t,.slice A1 ks.length c1,.slice A2 xs.length c2] 25)]) (post:=[]) (pr:=dn) (mid:=c1_) (po:=c2_) hF (j:=j) hd hl1 (hjx);refine Ka (v:=.pointer (some (ad0.add (j*4)))) (Sa (i:=(j:Int)) Hg O hA0 O Aa Aa) (Ka (v:=.agg (List.toArray c1_)) (Wa (l:=c1_) aZ nZ O hl1 hk0) ?_);refine Wc (cs:=#[J 0,I [],aQ,aQ]) hF lX O ?_;intro b3 w hb3 hF hE;have hKX:=hKX.alloc hE hb3;have hDX:=hDX.alloc hE hb3;refine Ba (Gb O) ?_;refine Ci 0 (l:=c1_) (cs':=(List.toArray c1_)) hF (by rw[hl1];exact nZ) O (v:=.agg (List.toArray c1_)) O O (ho1) O (by rw[hl1];exact Nat.le_of_ble_eq_true O) (Xn (by rw[hl1];rfl)) ?_;intro w hF hE;have hKX:=hKX.store hE (by grind);have hDX:=hDX.store hE (by grind);refine Da (Ke (.of [6]) (bQ [0,1,2,3] (.act 4 (.free 5 (.act 6 .nil)))) hF ?_);intro w hF hE;have hKX:=hKX.ext hE;have hDX:=hDX.ext hE;refine⟨λwq=>FR w0 [] [(b3,.cells (List.toArray c1_) 25),(b2,.cells #[J 0,I [],aQ,aQ] 25),(b1,.cells #[J k,I t,.slice A1 ks.length c1,.slice A2 xs.length c2] 25)] wq,hF.mid 0 3,?_⟩;refine Jb O (Ob Xb O) (Fg O (Xe zQ O C0 2 O O) (Jb O (Za O) (Cb O (v:=.agg (List.toArray c1_)) (λw hC=>Wa (l:=c1_) aZ nZ O hl1 (hC.cellsAll 0 O)) ?_)));refine Pd O (ih xs[j] (eQ hjx) S _ c1_ (hF.rep hr1) (by have:=Ug (eQ hjx);omega) (by have:=D7 (eQ hjx);omega)) (Na NY O O) ?_;rintro _ w ⟨ct,rfl,hRt,hE⟩;have hlt:ct.length=4:=hRt.length.trans (Yc _);have hot:=hRt.one_;have hYX:=RX.made (ids:=b3::([b2,b1]++sb.map (·.1))) hF.same.size (λx hx=>hF.lt_ids (by grind)) hRt;have hKX:=hKX.ext hE;have hDX:=(hDX.ext hE).append hYX;have hF:=hF.ext hE
 clear hE hYX;refine⟨hF.mid 0 3,?_⟩;obtain⟨ad1,hA1,hk1⟩:=hS.elemMid (pre:=[(b3,.cells (List.toArray c1_) 25),(b2,.cells #[J 0,I [],aQ,aQ] 25),(b1,.cells #[J k,I t,.slice A1 ks.length c1,.slice A2 xs.length c2] 25)]) (post:=[]) (pr:=dn) (mid:=c1_) (po:=c2_) hF (j:=j) hd hl1 (hjx);refine Cb O (v:=.pointer (some (ad1.add (j*4)))) (λw hC=>Sa (i:=(j:Int)) Hg O hA1 O Aa Aa) (NQ [(b3,.cells (List.toArray c1_) 25),(b2,.cells #[J 0,I [],aQ,aQ] 25),(b1,.cells #[J k,I t,.slice A1 ks.length c1,.slice A2 xs.length c2] 25)] [] O hF (pr:=dn) (mid:=c1_) (po:=c2_) (new:=ct) (j:=j) hS hd hl1 hA1 (hjx) nZ O (v:=.agg (List.toArray ct)) O O hlt hot ?_);intro i_2 w hS2_i hF hE hids;have hKX:=hKX.store hE (by grind);have hDX:=hDX.store hE (by grind);refine Hc (Bb (Fa (Ha (Ba (Nl O O) (Ba (Za O) (Ta ?_))))));refine Hb ⟨_,?_,j+1,dn++ct,c2_,i_2,O,(hjx),(by simpa using hS2_i),(by rw[dQ,hd,hlt];omega),(hr2),(by rw[XF hjx,hids];exact hDX.sub (λx hx=>List.mem_cons_of_mem _ hx)),(by rw[hids];exact hKX.sub (λx hx=>List.mem_cons_of_mem _ hx)),Bp,hF.drop 1⟩;omega;refine Ec (Ac O ?_);refine Fa (Ea (Zb (Of aZ nZ O hF.F 1 O O) ?_));refine Ie hF nZ O O Zg.app ?_;intro w hF hE;have hKX:=hKX.store hE (by grind);have hDX:=hDX.store hE (by grind);refine Da (Va (Ua (Ja (Vi O (l:=[J k,I t,.slice A1 ks.length c1,.slice A2 xs.length c2]) O aZ nZ O (hF.cellsAll 0 O)) ?_)));have ej:j=xs.length:=by omega
 subst ej;rw[List.take_length]at hDX;have e0:rs=[]:=by rw[List.drop_length]at hrr;exact RepL.nil_inv hrr
 subst e0;rw[qQ]at hS;refine⟨_,O,?_,hF.same⟩
 ·exact Rep.tree_mk hk ht hKX.done (hS.rep (pre:=[_,_]) (post:=[]) hF hDX Ma)
theorem clone_c(x:Tree):EL x:=Tree.ind AM x
mutual
def sortT:Tree->Tree
  | .node k t ks xs=>if k=6 then .node k t (Ok ks) ((Ok ks).map λkey=>(Mf ks (If xs) key).getD (.node 0 [] [] [])) else .node k t [] (If xs)
def If:List Tree->List Tree
  | []=>[]
  | x::xs=>sortT x::If xs
end
theorem Rg:∀xs:List Tree,If xs=xs.map sortT
  | []=>rfl
  | x::xs=>by rw[If,Rg xs,List.map_cons]
theorem Tx{key:Str}{y:Tree}:∀{ks:List Str}{xs:List Tree},Mf ks xs key=some y->Mf ks (If xs) key=some (sortT y)
  | [],xs,h=>by cases xs <;> cases h
  | k::ks,[],h=>by cases h
  | k :: ks, x :: xs, h => by
    rw[If,Mf];rw[Mf]at h;by_cases he:k=key
    ·rw[if_pos he]at h ⊢;injection h with h;rw[h]
    rw[if_neg he]at h ⊢;exact Tx h
theorem XI{S:Nat->Prop}{w:World}{key:Str}{ks:List Str}{xs:List Tree}{l:MapL}(hk:l.map (·.1)=ks)(hm:MapRep S w xs l)(hin:key∈ks) :
    ∃(cs:List Value)(y:Tree),Ah l key=some (.agg cs.toArray)/\Mf ks xs key=some y/\y∈xs/\Rep S w (Pb y) cs:=by
  rcases K5 key hk hm with ⟨h,-⟩|h
  ·exfalso
   rw[<-hk]at hin;obtain⟨x,hx,hxe⟩:=nQ.1 hin;unfold Ah at h;rw[Option.map_eq_none_iff,List.find?_eq_none]at h;exact h x hx (by simpa using hxe)
  exact h
theorem MapRep.back{S:Nat->Prop}{w0 w:World}{xs:List Tree}{l:MapL}(h:MapRep (Old S w0) w xs l)(hs:Same [] w0 w):MapRep (Old S w0) w0 xs l:=λi hi=>by
  obtain⟨cs,h1,h2,h3⟩:=h i hi;exact⟨cs,h1,h2,h3.back hs⟩
def XZ(w1:World)(bk m:Nat)(l:MapL):Prop:=∃W:World,w1=W.alloc (.cells #[.map (some m)] 123)/\bk=W.heap.size/\W.heap[m]? = some (Vh l)
theorem keys_c(m:Nat)(l:MapL)(w:World)(hm:w.heap[m]? = some (Vh l)):Calls prog 89 #[.map (some m)] w (Dd λv w'=>∃bk,v=.func (.func 134) #[] #[V bk]/\XZ w' bk m l/\Same [] w w') :=
  (callsIn_wide.1 (maps_Keys_89 (some m) w)).mono λ_ _ ⟨he,hw⟩=>⟨_,he,w.heap.size,rfl,⟨w,hw,rfl,hm⟩,by rw[hw];exact Same.alloc w _⟩
theorem RB(bk m:Nat)(l:MapL)(ks:List Str)(w:World)(h:XZ w bk m l)(hk:l.map (·.1)=ks)(hn:ks.Nodup)(hb:ks.length<=1000000000)(hs:∀s∈ks,s.length<=140737488355328) :
    Calls prog 88 #[.func (.func 134) #[] #[V bk]] w (Dd λv w'=>∃A c,v=.slice A ks.length c/\Rep (Btw w w') w' (Ni (Ok ks)) [.slice A ks.length c]/\Same [] w w'):=by
  obtain⟨W,rfl,rfl,hm⟩:=h;have hl:l.length=ks.length:=by rw[<-hk,rQ]
  obtain⟨D0,hown,hperm,hsz⟩:=HK (P:=prog) jX hm (by rw[hk];exact hn) (λx hx=>by have:=hs x.1 (by rw[<-hk];exact List.mem_map_of_mem hx);simp only[maxLen];omega) (by simp only[maxLen];omega);refine (callsIn_wide.1 (slices_Sorted_keys_88_89 m l.length D0 _ W hown (by rw[hsz];simp only[maxLen];omega) (by rw[hsz];omega))).mono ?_;rintro e w' ⟨v,ss,rfl,hp,hrow,-,hbel⟩;have hpk:ss.Perm ks:=by rw[<-hk];exact hp.trans hperm
  have e1:(ss.mergeSort λx y=>decide (x<=y))=Ok ks:=M8 hpk;rw[e1]at hrow;have e2:ss.length=(Ok ks).length:=by rw[Xi];exact hpk.length_eq
  rw[e2]at hrow;obtain⟨A,c,rfl,hr⟩:=XU (S:=Btw (W.alloc (.cells #[.map (some m)] 123)) w') 9 hrow (λg h1 h2 h3=>⟨h1,h2,h3⟩) (λs hs'=>by have:=hs s (Xm.1 hs');omega);rw[Xi]at hr;exact⟨_,O,A,c,by rw[Xi],hr,.of_below hbel⟩
def HD(x:Tree):Prop:=∀S w0 cs,Rep S w0 (Pb x) cs->Vp x->Xc nodeB x=true->Qb x<=1000000000->NewC 53 #[.agg cs.toArray] (Pb (sortT x)) w0
theorem RD{xs:List Tree}{j:Nat}(h:j<xs.length):Pe (If (xs.take (j+1)))=Pe (If (xs.take j))++[Pb (sortT xs[j])]:=by
  rw[iQ h,Me,Me,Rg,Rg,jQ,jQ];rfl
def G8(ks:List Str)(xs:List Tree):List Tree:=(Ok ks).map λkey=>(Mf ks (If xs) key).getD (.node 0 [] [] [])
theorem S6(ks:List Str)(xs:List Tree):(G8 ks xs).length=ks.length:=by rw[G8,rQ,Xi]
theorem KS{ks:List Str}{xs:List Tree}{j:Nat}{y:Tree}(h:j<(Ok ks).length)(hy:Mf ks xs (Ok ks)[j]=some y):Pe ((G8 ks xs).take (j+1))=Pe ((G8 ks xs).take j)++[Pb (sortT y)]:=by
  have h':j<(G8 ks xs).length:=by rw[S6,<-Xi];exact h
  rw[iQ h',Me,Me,jQ];simp only[G8,List.getElem_map,Tx hy,Option.getD_some];rfl
theorem HE(k:Int)(t:Str)(ks:List Str)(xs:List Tree)(ih:∀x,x∈xs->HD x):HD (.node k t ks xs):=by
 intro S w0 cs hR hok hnx hsz;have hR:=hR.old;rw[Vp]at hok;rw[Qb]at hsz;have hxn:=Vm xs;have hnx:=Ee hnx;obtain⟨A,c,B,e,rfl,hk,ht,hK,hX⟩:=hR.tree_inv;have hXl:=hX.slice_len;have hKn:k=6->ks.length=xs.length:=λe=>(Gr (e▸hnx.1)).2;refine Ia func53 O ntmps53 Eb (Yb _) ?_;have hF:=FR.start w0 [];refine Ea (Oe hF O ?_);rintro b1 w hb1 hF -;refine Wc (cs:=#[J 0,I [],aQ,aQ]) hF lX O ?_;rintro b2 w hb2 hF -;refine Rb (Ba (Ob Xd O) (Zb (Th eZ O hF.F 1 O O) (Ba (Ob Wd O) (Zb (Pk jZ O hF.F 1 O O) ?_))));refine Ka (w':=w) (v:=.agg #[J k,I t,aQ,aQ]) Ub (Gg hF lX nZ O ?_);rintro b3 w hb3 hF -;refine Da (Ga (Ea (Ba (Ob Xd O) (Zb (Th eZ O hF.F 2 O O) (Ba (Vk O O) (Da ?_))))));refine Ib O O (λhc0=>?_) (λhc0=>?_);refine Ga (Ea (Ba (Ob Xb O) (Zb (Xe zQ O hF.F 2 O O) (Ba (Ch zZ O) (Ba (Za O) (Da (Qa ?_)))))));refine Jc (λμ σ w=>∃(j:Nat),∃(A1:Option Addr),∃(c1:Nat),∃(sb:List (Nat × Obj)),∃(cs1:List Value),μ=xs.length-j/\(j<=xs.length)/\(SlB 25 4 A1 j c1 cs1 sb)/\(RX w0 ([b3,b2,b1]++sb.map (·.1)) w (Pe (If (xs.take j))) cs1)/\AllEq σ [(2,V b2),(3,V b3),(18,.slice B xs.length e),(19,J ((xs.length:Nat))),(20,J ((j:Int)))]/\FR w0 [] ([(b3,.cells #[J k,I t,aQ,.slice A1 j c1] 25),(b2,.cells #[J 0,I [],aQ,aQ] 25),(b1,.cells #[J k,I t,.slice A ks.length c,.slice B xs.length e] 25)]++(sb++[])) w) _ ⟨0,none,0,[],[],O,(Nat.zero_le _),(SlB.nil _ _),(RX.nil),Bp,hF⟩ ?_;rintro μ σ w ⟨j,A1,c1,sb,cs1,rfl,hj,hS,hDX,hs,hF⟩;refine Cg.slots hs ?_;clear hs;intro σ;refine Ea (Ba (Di O O) (Da (Ga ?_)));refine Ib O O (λhc1=>?_) (λhc1=>?_);refine La (Fa (Ga (Qa (Ea ?_))));obtain⟨ad0,cs0,hA0,hl0,hk0,hx0⟩:=hX.tree_elem (i:=j) Aa;have ho0:=hx0.one_;refine Ka (v:=.pointer (some (ad0.add (j*4)))) (Sa (i:=(j:Int)) Hg O hA0 O Aa Aa) (Ka (v:=.agg (List.toArray cs0)) (Wa (l:=cs0) aZ nZ O hl0 (hF.cells0 hk0)) ?_)
 refine W2 (l:=cs0) hF lX (by rw[hl0];exact nZ) (by rw[hl0];rfl) (v:=.agg (List.toArray cs0)) O O (ho0) O ?_;intro b4 w hb4 hF hE;have hDX:=hDX.alloc hE hb4;refine Da (Ke (.of [7]) (bQ [0,1,2] (cQ [3,4,5] (.free 6 (.act 7 .nil)))) hF ?_);intro w hF hE;have hDX:=hDX.ext hE;refine⟨λwq=>FR w0 [] [(b4,.cells (List.toArray cs0) 25),(b3,.cells #[J k,I t,aQ,.slice A1 j c1] 25),(b2,.cells #[J 0,I [],aQ,aQ] 25),(b1,.cells #[J k,I t,.slice A ks.length c,.slice B xs.length e] 25)] wq,hF.mid 0 4,?_⟩;refine Jb O (Ob Xb O) (Fg O (Xe zQ O C0 1 O O) (Cb O (v:=.agg (List.toArray cs0)) (λw hC=>Wa (l:=cs0) aZ nZ O hl0 (hC.cellsAll 0 O)) ?_));refine Pd O (ih xs[j] (eQ Aa) _ _ cs0 (hF.rep hx0) (Jl hok.2.2 _ (eQ Aa)) (hnx.2 _ (eQ Aa)) (by have:=Ug (List.getElem_mem (l:=xs) (n:=j) Aa);omega)) (Na XH O O) ?_;rintro _ w ⟨ct,rfl,hRt,hE⟩;have hlt:ct.length=4:=hRt.length.trans (Yc _);have hot:=hRt.one_;have hYX:=RX.made (ids:=[b4,b3,b2,b1]++sb.map (·.1)) hF.same.size (λx hx=>hF.lt_ids (by grind)) hRt;have hDX:=(hDX.ext hE).append hYX;have hF:=hF.ext hE;clear hE hYX;refine⟨hF.mid 0 4,?_⟩;refine Kg 1 O hF (Uw (l:=ct) zZ nZ lX Ab Ab O hlt) ?_;intro b5 w hb5 hF hE;have hDX:=hDX.alloc hE hb5;refine⟨hF.mid 1 4,?_⟩;refine TO (news:=ct) (len':=j+1) (ys:=cs1++ct) O Dt hF hS O O (by rw[hlt]) (λ_=>⟨_,O,Vd (hF.cellsAll 0 O)⟩) (Xp hot) (by simp only[maxLen];omega) (O) (O) Aa ?_;intro A1 c1 i_1 w hS1_i hF hE hnew;have hDX:=hDX.app (l:=[b5,b4,b3,b2,b1]) hE hnew;refine⟨hF.mid 1 4,?_⟩;refine Jb O (Ob Xb O) (IJ (.slice _ _ _) O hF mZ O O Iz.app R6 ?_);intro w hF hE;have hDX:=hDX.store hE (by grind);refine Hc (Bb (Fa (Ha (Ba (Nl O O) (Ba (Za O) (Ta ?_))))));refine Hb ⟨_,?_,j+1,A1,c1,i_1,cs1++ct,O,Aa,(by assumption),(by rw[RD Aa];exact hDX.sub (by grind)),Bp,hF.drop 2⟩;omega
 refine Ec (Ac O ?_);refine Fa (Ea (Zb (Of aZ nZ O hF.F 0 O O) ?_));refine Ie hF nZ O O Js.app ?_;intro w hF hE;have hDX:=hDX.store hE (by grind);refine Da (Va (Ua (Ja (Vi O (l:=[J k,I t,aQ,.slice A1 j c1]) O aZ nZ O (hF.cellsAll 1 O)) ?_)));have ej:j=xs.length:=by omega
 subst ej;rw[List.take_length]at hDX;refine⟨_,O,?_,hF.same⟩;rw[sortT,if_neg hc0];exact Rep.tree_mk hk ht (Rep.nil_slice 0 Aa none) (hS.rep (pre:=[_,_,_]) (post:=[]) hF hDX (by rw[In,Rg,rQ]));refine La (Fa (Ea (Zb (Of aZ nZ O hF.F 2 O O) ?_)));have k6:k=6:=by simpa using hc0
 refine Lb (CR k t ks xs (Gr (k6▸hnx.1)).1 (Gr (k6▸hnx.1)).2 _ _ _ (hF.rep hR)) (Na en_87 O O) ?_;rintro _ w ⟨m1,l1,rfl,hge,hm1,hk1,hr1,hE⟩;have hF:=hF.cons_ext hE hm1 hge;have hr1:=hr1.back hF.same;clear hE hm1 hge;refine Ba (T0) (Rb (Ba (Nt) ?_));refine Lb (keys_c m1 l1 _ (hF.heap (i:=0) O)) (Na en_89 O O) ?_;rintro _ w ⟨bk,rfl,hKA,hE⟩;have hF:=hF.ext hE;refine Lb (RB bk m1 l1 ks _ hKA hk1 (Gr (k6▸hnx.1)).1 Aa hok.2.1) (Na en_88 O O) ?_;rintro _ w ⟨A2,c2,rfl,hK2,hE⟩;have hKX:=RX.made (ids:=[m1,b3,b2,b1]) hF.same.size (λx hx=>hF.lt_ids (by grind)) hK2;have hF:=hF.ext hE;clear hE hK2;refine Ba (Ob Td O) (Ml (.slice _ _ _) hF sizeOf22 O O Js Iz ?_);intro w hF hE;have hKX:=hKX.store hE (by grind);refine Da (Ga (Ea (Ba (Ob Td O) (Zb (Xe yQ O hF.F 1 O O) (Ba (Ch yZ O) (Ba (Za O) (Da (Qa ?_))))))));refine Jc (λμ σ w=>∃(j:Nat),∃(A1:Option Addr),∃(c1:Nat),∃(sb:List (Nat × Obj)),∃(cs1:List Value),μ=ks.length-j/\(j<=ks.length)/\(SlB 25 4 A1 j c1 cs1 sb)/\(RX w0 ([m1,b3,b2,b1]++sb.map (·.1)) w (Pe ((G8 ks xs).take j)) cs1)/\(RX w0 ([m1,b3,b2,b1]++sb.map (·.1)) w [Ni (Ok ks)] [.slice A2 ks.length c2])/\AllEq σ [(2,V b2),(3,V b3),(6,.map (some m1)),(40,.slice A2 ks.length c2),(41,J ((ks.length:Nat))),(42,J ((j:Int)))]/\FR w0 [] ([(m1,Vh (l1)),(b3,.cells #[J k,I t,.slice A2 ks.length c2,.slice A1 j c1] 25),(b2,.cells #[J 0,I [],aQ,aQ] 25),(b1,.cells #[J k,I t,.slice A ks.length c,.slice B xs.length e] 25)]++(sb++[])) w) _ ⟨0,none,0,[],[],O,(Nat.zero_le _),(SlB.nil _ _),(RX.nil),(hKX),U7,hF⟩ ?_;rintro μ σ w ⟨j,A1,c1,sb,cs1,rfl,hj,hS,hDX,hKX,hs,hF⟩;refine Cg.slots hs ?_;clear hs;intro σ;refine Ea (Ba (Di O O) (Da (Ga ?_)));refine Ib O O (λhc2=>?_) (λhc2=>?_);refine La (Fa (Ga (Qa (Ea ?_))));obtain⟨ad2,hA2,hk2,hx2⟩:=hKX.rep.str_elem (i:=j) (by rw[Xi];omega)
 refine Ka (v:=.pointer (some (ad2.add (j*1)))) (Sa (i:=(j:Int)) Ip O hA2 O Aa Aa) ?_;refine Ka (v:=I ((Ok ks)[j]'(by rw[Xi];omega))) (Qd jZ O hk2) ?_;refine Ba (Fd O) (Da ?_);refine Ke (.of [9]) (bQ [0,1,2,3,4] (cQ [5,6,7] (.free 8 (.act 9 .nil)))) hF ?_;intro w hF hE;have hDX:=hDX.ext hE;have hKX:=hKX.ext hE;refine⟨λwq=>FR w0 [] [(m1,Vh (l1)),(b3,.cells #[J k,I t,.slice A2 ks.length c2,.slice A1 j c1] 25),(b2,.cells #[J 0,I [],aQ,aQ] 25),(b1,.cells #[J k,I t,.slice A ks.length c,.slice B xs.length e] 25)] wq,hF.mid 0 4,?_⟩;refine Jb O (Ob Xb O) (Fg O (Xe zQ O C0 1 O O) (Jb O (Nt) (Jb O (Bc O) ?_)));obtain⟨cy,y,hlk,hlt_,hym,hry⟩:=XI hk1 hr1 (Xm.1 (List.getElem_mem (l:=Ok ks) (n:=j) (by rw[Xi];omega)));have hoy:=hry.one_;have hly:cy.length=4:=hry.length.trans (Yc _);refine Cb O (v:=.agg (List.toArray cy)) (λw hC=>Uv underlying123 jX lX O O (hC.heap (i:=0) O) (by rw[hlk];rfl)) ?_;refine Pd O (ih y hym _ _ cy (hF.rep hry) (Jl hok.2.2 y hym) (hnx.2 y hym) (by have:=Ug hym;omega)) (Na XH O O) ?_;rintro _ w ⟨ct,rfl,hRt,hE⟩;have hlt:ct.length=4:=hRt.length.trans (Yc _);have hot:=hRt.one_;have hYX:=RX.made (ids:=[m1,b3,b2,b1]++sb.map (·.1)) hF.same.size (λx hx=>hF.lt_ids (by grind)) hRt;have hDX:=(hDX.ext hE).append hYX;have hF:=hF.ext hE;have hKX:=hKX.ext hE;clear hE hYX;refine⟨hF.mid 0 4,?_⟩;refine Kg 1 O hF (Uw (l:=ct) zZ nZ lX Ab Ab O hlt) ?_;intro b6 w hb6 hF hE;have hDX:=hDX.alloc hE hb6;have hKX:=hKX.alloc hE hb6;refine⟨hF.mid 1 4,?_⟩;refine TO (news:=ct) (len':=j+1) (ys:=cs1++ct) O Dt hF hS O O (by rw[hlt]) (λ_=>⟨_,O,Vd (hF.cellsAll 0 O)⟩) (Xp hot) (by simp only[maxLen];omega) (O) (O) Aa ?_;intro A3 c3 i_3 w hS3_i hF hE hnew;have hDX:=hDX.app (l:=[b6,m1,b3,b2,b1]) hE hnew;have hKX:=hKX.app (l:=[b6,m1,b3,b2,b1]) hE hnew
 refine⟨hF.mid 1 4,?_⟩;refine Jb O (Ob Xb O) (IJ (.slice _ _ _) O hF mZ O O Iz.app R6 ?_);intro w hF hE;have hDX:=hDX.store hE (by grind);have hKX:=hKX.store hE (by grind);refine Hc (Bb (Fa (Ha (Ba (Nl O O) (Ba (Za O) (Ta ?_))))));refine Hb ⟨_,?_,j+1,A3,c3,i_3,cs1++ct,O,Aa,(by assumption),(by rw[KS (by rw[Xi];omega) hlt_];exact hDX.sub (by grind)),(hKX.sub (by grind)),U7,hF.drop 1⟩;omega;refine Ec (Ac O ?_);refine Fa (Ea (Zb (Of aZ nZ O hF.F 1 O O) ?_));refine Ie hF nZ O O Iz.app ?_;intro w hF hE;have hDX:=hDX.store hE (by grind);have hKX:=hKX.store hE (by grind);refine Da (Va (Ua (Ja (Vi O (l:=[J k,I t,.slice A2 ks.length c2,.slice A1 j c1]) O aZ nZ O (hF.cellsAll 2 O)) ?_)));have ej:j=ks.length:=by omega
 subst ej;rw[List.take_of_length_le (by rw[S6];exact gQ _)]at hDX;refine⟨_,O,?_,hF.same⟩;rw[sortT,if_pos k6]
 ·exact Rep.tree_mk hk ht hKX.done (hS.rep (pre:=[_,_,_,_]) (post:=[]) hF hDX (by rw[In];exact S6 ks xs))
theorem T6(x:Tree):HD x:=Tree.ind HE x
def zeroT:Tree:=.node 0 [] [] []
theorem Vn(S:Nat->Prop)(w:World):Rep S w (Pb zeroT) [J 0,I [],aQ,aQ] :=
  Rep.tree_mk ⟨by omega,by omega⟩ Ma (Rep.nil_slice 0 Aa none) (Rep.nil_slice 0 Aa none)
def Od(x:Tree):Tree:=if Kd x then sortT x else zeroT
def Iu(x:Tree):Tree:=if Kd x then x else zeroT
def Id(x y:Tree):Int:=if Kd x then if Kd y then Ji (sortT x) (sortT y) else 1 else if Kd y then -1 else 0
theorem IM{k:Int}{t:Str}{ks:List Str}{xs:List Tree}(h:nodeB (.node k t ks xs)=true):ks.length<=xs.length:=by
  by_cases h6:k=6
  ·subst h6;have:=(Gr h).2;omega
  have:ks=[]:=by
    simp only[nodeB]at h;by_cases h5:k=5
    ·subst h5;simp at h;exact h.1
    rw[if_neg h5, if_neg h6]at h;cases ks with
    | nil=>rfl
    | cons a l=>simp at h
  subst this;simp
theorem keys_lt:∀x:Tree,Xc nodeB x=true->Pu x+1<=Qb x:=λx=>Tree.ind (Q:=λx=>Xc nodeB x=true->Pu x+1<=Qb x) (λk t ks xs ih h=>by
  obtain⟨h1,h2⟩:=Ee h;have h3:=IM h1;have h7:∀ys:List Tree,(∀y∈ys,y∈xs)->ys.length+Tq ys<=Dc ys:=by
    intro ys
    induction ys with
    | nil=>intro _;simp[Tq,Dc]
    | cons y ys ihy =>
      intro hm;have h5:=ihy (λz hz=>hm z (by simp[hz]));have h9:=ih y (hm y Ma) (h2 y (hm y Ma));simp only[Tq,Dc,kQ];omega
  have:=h7 xs (λ_ h=>h);rw[Pu,Qb];omega) x
theorem Ur{key:Str}{y:Tree}:∀{ks:List Str}{xs:List Tree},Mf ks xs key=some y->y∈xs
  | [],xs,h=>by cases xs <;> cases h
  | k::ks,[],h=>by cases h
  | k :: ks, x :: xs, h => by
    rw[Mf]at h;by_cases he:k=key
    ·rw[if_pos he]at h;injection h with h;simp[h]
    rw[if_neg he]at h;simp[Ur h]
theorem I4:∀{xs:List Tree},(∀x∈xs,Vp x)->N5 xs
  | [],_=>by rw[N5];trivial
  | x::xs,h=>by rw[N5];exact⟨h x Ma,I4 (λy hy=>h y (by simp[hy]))⟩
theorem GF(x:Tree):Vp x->Vp (sortT x):=Tree.ind (Q:=λx=>Vp x->Vp (sortT x)) (λk t ks xs ih h=>by
  rw[Vp]at h;have hs:∀y∈If xs,Vp y:=by
    intro y hy;rw[Rg]at hy;obtain⟨z,hz,rfl⟩:=nQ.1 hy;exact ih z hz (Jl h.2.2 z hz)
  rw[sortT];split
  ·rw[Vp]
   refine⟨h.1,λk hk=>h.2.1 k (Xm.1 hk),I4 λy hy=>?_⟩;obtain⟨key,_,rfl⟩:=nQ.1 hy;cases hl:Mf ks (If xs) key with
   | none=>simp only[Option.getD_none];rw[Vp];simp[N5]
   | some z=>exact hs z (Ur hl)
  rw[Vp];exact⟨h.1,by simp,I4 hs⟩) x
theorem US{x:Tree}(h:Kd x=true):Qb x<=4096:=by
  unfold Kd Im at h;simp only[Bool.and_eq_true,decide_eq_true_eq]at h;exact h.1.1
theorem OQ(x:Tree)(hsz:Qb x<=1000000000)(S:Nat->Prop)(w0:World)(cs:List Value)(hR:Rep S w0 (Pb x) cs)(hk:Vp x)(hG:Gl w0):NewC 55 #[.agg cs.toArray] (Pb (Od x)) w0:=by
 have hl:cs.length=4:=hR.length.trans (Yc x);have ho:=hR.one_;refine Ia func55 O ntmps55 Eb (Yb _) ?_;have hF:=FR.start w0 [];refine Ea (Jm (v:=.agg (List.toArray cs)) (cs:=(List.toArray cs)) hF O O ?_);rintro b1 w hb1 hF -;refine Wc (cs:=#[J 0,I [],aQ,aQ]) hF lX O ?_;rintro b2 w hb2 hF -;refine Da (Ga (Ea (Ka (v:=.agg (List.toArray cs)) (Wa (l:=cs) aZ nZ O hl (hF.cellsAll 1 O)) ?_)));refine Oa hF (L5 x hsz S _ cs (hF.rep hR) hk (hG.ext hF.same)) (Na QH O O) ?_;intro w hF;refine Ba (Si O) (Da ?_);refine Le O O (λhc0=>?_) (λhc0=>?_);refine Ea (Ka (w':=w) (v:=.agg #[J 0,I [],aQ,aQ]) Ub ?_);refine Ie hF nZ O O Zg ?_;rintro w hF -;refine Da (Va (Ua (Ja (Vi O (l:=[J 0,I [],aQ,aQ]) O aZ nZ O (hF.cellsAll 0 O)) ?_)));have ho_:Kd x=false:=by simpa using hc0
 refine⟨_,O,?_,hF.same⟩;rw[Od,ho_];exact Vn _ _;refine La (Fa (Ea (Ka (v:=.agg (List.toArray cs)) (Wa (l:=cs) aZ nZ O hl (hF.cellsAll 1 O)) ?_)));refine Lb (T6 x S _ cs (hF.rep hR) hk (Yi (by simpa using hc0)) hsz) (Na XH O O) ?_;rintro _ w ⟨ct,rfl,hRt,hE⟩;have hlct:ct.length=4:=hRt.length.trans (Yc _);have hoct:=hRt.one_;have hXX:=RX.made (ids:=[b2,b1]) hF.same.size (λx hx=>hF.lt_ids (by grind)) hRt;have hF:=hF.ext hE;clear hE hRt;refine Ci 0 (l:=ct) (cs':=(List.toArray ct)) hF (by rw[hlct];exact nZ) O (v:=.agg (List.toArray ct)) O O (hoct) O (by rw[hlct];exact Nat.le_of_ble_eq_true O) (Xn (by rw[hlct];rfl)) ?_;intro w hF hE;have hXX:=hXX.store hE (by grind);refine Da (Va (Ua (Ja (Vi O (l:=ct) O aZ nZ hlct (hF.cellsAll 0 O)) ?_)));have ho_:Kd x=true:=by simpa using hc0
 refine⟨_,O,?_,hF.same⟩;rw[Od,ho_]
 ·exact hXX.done
theorem LN(x:Tree)(hsz:Qb x<=1000000000)(S:Nat->Prop)(w0:World)(cs:List Value)(hR:Rep S w0 (Pb x) cs)(hk:Vp x)(hG:Gl w0):NewC 66 #[.agg cs.toArray] (Pb (Iu x)) w0:=by
 have hl:cs.length=4:=hR.length.trans (Yc x);have ho:=hR.one_;refine Ia func66 O ntmps66 Eb (Yb _) ?_;have hF:=FR.start w0 [];refine Ea (Jm (v:=.agg (List.toArray cs)) (cs:=(List.toArray cs)) hF O O ?_);rintro b1 w hb1 hF -;refine Wc (cs:=#[J 0,I [],aQ,aQ]) hF lX O ?_;rintro b2 w hb2 hF -;refine Da (Ga (Ea (Ka (v:=.agg (List.toArray cs)) (Wa (l:=cs) aZ nZ O hl (hF.cellsAll 1 O)) ?_)));refine Oa hF (L5 x hsz S _ cs (hF.rep hR) hk (hG.ext hF.same)) (Na QH O O) ?_;intro w hF;refine Ba (Si O) (Da ?_);refine Le O O (λhc0=>?_) (λhc0=>?_);refine Ea (Ka (w':=w) (v:=.agg #[J 0,I [],aQ,aQ]) Ub ?_);refine Ie hF nZ O O Zg ?_;rintro w hF -;refine Da (Va (Ua (Ja (Vi O (l:=[J 0,I [],aQ,aQ]) O aZ nZ O (hF.cellsAll 0 O)) ?_)));have ho_:Kd x=false:=by simpa using hc0
 refine⟨_,O,?_,hF.same⟩;rw[Iu,ho_];exact Vn _ _;refine La (Fa (Ea (Ka (v:=.agg (List.toArray cs)) (Wa (l:=cs) aZ nZ O hl (hF.cellsAll 1 O)) ?_)));refine Lb (clone_c x S _ cs (hF.rep hR) hsz (by have:=keys_lt x (Yi (by simpa using hc0));omega)) (Na NY O O) ?_;rintro _ w ⟨ct,rfl,hRt,hE⟩;have hlct:ct.length=4:=hRt.length.trans (Yc _);have hoct:=hRt.one_;have hXX:=RX.made (ids:=[b2,b1]) hF.same.size (λx hx=>hF.lt_ids (by grind)) hRt;have hF:=hF.ext hE;clear hE hRt;refine Ci 0 (l:=ct) (cs':=(List.toArray ct)) hF (by rw[hlct];exact nZ) O (v:=.agg (List.toArray ct)) O O (hoct) O (by rw[hlct];exact Nat.le_of_ble_eq_true O) (Xn (by rw[hlct];rfl)) ?_;intro w hF hE;have hXX:=hXX.store hE (by grind);refine Da (Va (Ua (Ja (Vi O (l:=ct) O aZ nZ hlct (hF.cellsAll 0 O)) ?_)));have ho_:Kd x=true:=by simpa using hc0
 refine⟨_,O,?_,hF.same⟩;rw[Iu,ho_]
 ·exact hXX.done
theorem YJ(x y:Tree)(hsx:Qb x<=1000000000)(hsy:Qb y<=1000000000)(S S':Nat->Prop)(w0:World)(cs ct:List Value)(hR:Rep S w0 (Pb x) cs)(hR':Rep S' w0 (Pb y) ct)(hk:Vp x)(hk':Vp y)(hG:Gl w0):Calls prog 29 #[.agg cs.toArray,.agg ct.toArray] w0 (Dd λv w'=>v=J (Id x y)/\Same [] w0 w'):=by
 have hl:cs.length=4:=hR.length.trans (Yc x);have ho:=hR.one_;have hl':ct.length=4:=hR'.length.trans (Yc y);have ho':=hR'.one_;refine Ia func29 O ntmps29 Eb (Pc _ _) ?_;have hF:=FR.start w0 [];refine Ea (Jm (v:=.agg (List.toArray cs)) (cs:=(List.toArray cs)) hF O O ?_);rintro b1 w hb1 hF -;refine Jm (v:=.agg (List.toArray ct)) (cs:=(List.toArray ct)) hF O O ?_;rintro b2 w hb2 hF -;refine Ba (Gb O) (Da (Ga ?_));refine Md (zs:=.of []) (.free 0 (.free 2 (.act 1 (.act 3 (.free 4 (.free 5 .nil)))))) hF ?_;intro w hF;refine Cb O (v:=.agg (List.toArray cs)) (λw hC=>Wa (l:=cs) aZ nZ O hl (hC.cellsAll 1 O)) (Cb O (v:=.agg (List.toArray ct)) (λw hC=>Wa (l:=ct) aZ nZ O hl' (hC.cellsAll 0 O)) ?_);refine Ed hF (L5 x hsx S _ cs (hF.rep hR) hk (hG.ext hF.same)) O (Na QH O O) ?_;intro w hF;refine⟨hF,?_⟩;refine Ed hF (L5 y hsy S' _ ct (hF.rep hR') hk' (hG.ext hF.same)) O (Na QH O O) ?_;intro w hF;refine⟨hF,?_⟩;refine Jb O (Db O) (Jb O (Db O) (Hc (Fa (Ga (Qa (Ea (Ba (Vb O) (Ba (Vb O) ?_))))))));refine Lc (d:=13) O (λhg0=>?_) (λhg0=>?_);refine Ba (Vb O) (Ba (Tb O O) (Ba (Db O) (Da ?_)));refine Le O O (λhc0=>?_) (λhc0=>?_);refine Ga (Md (zs:=.of []) (.free 0 (.free 2 (cQ [1,3,4] (.free 5 .nil)))) hF ?_);intro w hF;refine Cb O (v:=.agg (List.toArray cs)) (λw hC=>Wa (l:=cs) aZ nZ O hl (hC.cellsAll 1 O)) (Cb O (v:=.agg (List.toArray ct)) (λw hC=>Wa (l:=ct) aZ nZ O hl' (hC.cellsAll 0 O)) ?_);refine Pd O (T6 x S _ cs (hF.rep hR) hk (Yi (by simp_all)) hsx) (Na XH O O) ?_;rintro _ w ⟨cx,rfl,hRt,hE⟩;have hlcx:cx.length=4:=hRt.length.trans (Yc _);have hocx:=hRt.one_;have hXX:=RX.made (ids:=[]) hF.same.size (λx hx=>hF.lt_ids (by grind)) hRt;have hF:=hF.ext hE;clear hE hRt;refine⟨hF,?_⟩;refine Pd O (T6 y S' _ ct (hF.rep hR') hk' (Yi (by simp_all)) hsy) (Na XH O O) ?_;rintro _ w ⟨cy,rfl,hRt,hE⟩
 have hlcy:cy.length=4:=hRt.length.trans (Yc _);have hocy:=hRt.one_;have hYX:=RX.made (ids:=[]) hF.same.size (λx hx=>hF.lt_ids (by grind)) hRt;have hXX:=hXX.ext hE;have hF:=hF.ext hE;clear hE hRt;refine⟨hF,?_⟩;refine Pd O (order_c (sortT x) (sortT y) _ _ _ cx cy hXX.rep hYX.rep (GF x hk) (GF y hk') (hG.ext hF.same)) (Xa en_52 O O O) ?_;rintro _ w ⟨rfl,hE⟩;have hF:=hF.ext hE;have hXX:=hXX.ext hE;have hYX:=hYX.ext hE;refine⟨hF,?_⟩;refine Jb O (Gb O) (Hc (Fa ?_));refine Gc (v:=J (Ji (sortT x) (sortT y))) O O ⟨congrArg (Value.int .i64) ?_,hF.same⟩;unfold Id;simp_all;refine Ea (Ba (Vb O) (Ba (Db O) (Da ?_)));refine Le O O (λhc1=>?_) (λhc1=>?_);refine Ea (Ba (Gb O) (Da ?_));refine Gc (v:=J 1) O O ⟨congrArg (Value.int .i64) ?_,hF.same⟩;unfold Id;simp_all;refine Ea (Ba (Vb O) (Ba (Db O) (Da ?_)));refine Le O O (λhc2=>?_) (λhc2=>?_);refine Ea (Ba (Gb O) (Da ?_));refine Gc (v:=J ((-1))) O O ⟨congrArg (Value.int .i64) ?_,hF.same⟩;unfold Id;simp_all;refine La (Bb (Fa (Ea (Ba (Gb O) (Da ?_)))));refine Gc (v:=J 0) O O ⟨congrArg (Value.int .i64) ?_,hF.same⟩;unfold Id;simp_all;refine Ca (Ba (Kb O O) (Ba (Db O) (Da (De O (Ea (Ba (Vb O) (Ba (Db O) (Da ?_))))))));refine Le O O (λhc1=>?_) (λhc1=>?_);refine Ea (Ba (Gb O) (Da ?_));refine Gc (v:=J 1) O O ⟨congrArg (Value.int .i64) ?_,hF.same⟩;unfold Id;simp_all;refine Ea (Ba (Vb O) (Ba (Db O) (Da ?_)));refine Le O O (λhc2=>?_) (λhc2=>?_);refine Ea (Ba (Gb O) (Da ?_));refine Gc (v:=J ((-1))) O O ⟨congrArg (Value.int .i64) ?_,hF.same⟩;unfold Id;simp_all;refine La (Bb (Fa (Ea (Ba (Gb O) (Da ?_)))));refine Gc (v:=J 0) O O ⟨congrArg (Value.int .i64) ?_,hF.same⟩;unfold Id;simp_all
end Go.Scarf
