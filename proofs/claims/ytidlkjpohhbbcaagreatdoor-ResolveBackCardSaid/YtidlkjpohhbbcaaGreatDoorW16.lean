/- A part of the proof. -/
import Derived.Test.YtidlkjpohhbbcaaGreatDoorW10
import Derived.Test.YtidlkjpohhbbcaaGreatDoorIter
set_option linter.all false
set_option maxHeartbeats 8000000
set_option maxRecDepth 10000
namespace Go.Scarf
open Go.RowKit Go.Proofs Go.Proofs.Tryz
mutual
def Ft:Tree->Nat|.node _ _ ks xs=>ks.length+Rq xs
def Rq:List Tree->Nat|[]=>0|x::xs=>Ft x+Rq xs
end
theorem F5:∀{xs:List Tree}{x:Tree},x∈xs->Ft x<=Rq xs
  | [],_,h=>absurd h La
  | y :: ys, x, h => by
    rw[Rq];rcases oQ.1 h with rfl|h
    ·omega
    have:=F5 h;omega
theorem TH{xs:List Tree}{j:Nat}(h:j<xs.length):Ie (xs.take (j+1))=Ie (xs.take j)++[Jb xs[j]]:=by
  rw[iQ h,Ge,Ge,jQ];rfl
theorem YG{xs:List Tree}{j:Nat}(h:j<xs.length):Ie (xs.drop j)=Jb xs[j]::Ie (xs.drop (j+1)):=by
  rw[List.drop_eq_getElem_cons h];rfl
theorem RepL.lits{S S':Nat->Prop}{w w':World}:∀{ks:List Str}{cs:List Value},RepL S w (ks.map Zm) cs->RepL S' w' (ks.map Zm) cs
  | [],cs,h=>by have:=RepL.nil_inv h;subst this;exact RepL.nil_mk
  | k :: ks, cs, h => by
    obtain⟨c1,c2,rfl,h1,h2⟩:=RepL.cons_inv h;obtain⟨rfl,h3⟩:=Rep.lit_inv h1;exact RepL.cons_mk (Rep.lit_mk h3) (RepL.lits h2)
def Lie(w:World)(A:Option Addr)(n:Nat)(es:List Value):Prop:=n≠0->∃ad,A=some ad/\∀j (hj:j<es.length),w.cell? (ad.add j)=some es[j]
theorem Lie.ext{w w':World}{A:Option Addr}{n:Nat}{es:List Value}(h:Lie w A n es)(hs:Same [] w w'):Lie w' A n es:=λhn=>by
  obtain⟨ad,hA,hc⟩:=h hn;exact⟨ad,hA,λj hj=>((FR.start w []).ext hs).cells0 hc j hj⟩
def KD(e m n:Nat)(es:List Value)(w0:World)(v:Value)(w':World):Prop :=
  ∃A c sb,v=.slice A n c/\SlB e m A n c es sb/\(∀p∈sb,w'.heap[p.1]? = some p.2/\w0.heap.size<=p.1)/\Same [] w0 w'
theorem Rep.slice_open{S:Nat->Prop}{w:World}{ds:List D}{A:Option Addr}{n c m:Nat}(h:Rep S w (.slice ds) [.slice A n c])(hm:∀d∈ds,Md d=m) :
    ∃es,RepL S w ds es/\es.length=n*m/\Lie w A n es:=by
  have hl:=h.slice_len;obtain⟨A',c',hA,_,_,hr⟩:=Rep.slice_inv h;simp only[List.cons.injEq,Value.slice.injEq,and_true]at hA;obtain⟨rfl,_,_⟩:=hA;have hsz:∀ds:List D,(∀d∈ds,Md d=m)->Md.sizeL ds=ds.length*m:=by
    intro ds
    induction ds with
    | nil=>intro _;simp[Md.sizeL]
    | cons d ds ih=>intro h;rw[Md.sizeL,h d La,ih (λx hx=>h x (by simp[hx])),kQ,Nat.add_mul];omega
  by_cases hne:ds=[]
  ·subst hne
   exact⟨[],RepL.nil_mk,by simp[hl.1],λh=>absurd hl.1 (by simpa using h)⟩
  obtain⟨ad, rfl, es, hc, hr⟩ := hr hne;exact⟨es,hr,by rw[hr.length,hsz ds hm,hl.1],λ_=>⟨ad,O,λj hj=>(hc j hj).1⟩⟩
theorem YR(ks:List Str):∀d∈ks.map Zm,Md d=1:=λd hd=>by obtain⟨k,_,rfl⟩:=nQ.1 hd;rfl
theorem AN(xs:List Tree):∀d∈Ie xs,Md d=4:=λd hd=>by rw[Ge]at hd;obtain⟨k,_,rfl⟩:=nQ.1 hd;exact Xc k
theorem FR.sbown{w0 w:World}{pre sb post:List (Nat × Obj)}(h:FR w0 [] (pre++(sb++post)) w):∀p∈sb,w.heap[p.1]? = some p.2/\w0.heap.size<=p.1:=λp hp=>by
  have:=h.own p (by simp[hp]);refine⟨this.1,?_⟩;rcases this.2 with h|h
  ·exact h
  cases h
theorem SlB.soft{e m n c:Nat}{A:Option Addr}{es:List Value}{sb:List (Nat × Obj)}{w:World}(h:SlB e m A n c es sb)(hb:∀p∈sb,w.heap[p.1]? = some p.2):∀p∈sb,HG w p.1:=λp hp=>by
  have h2:∃cur,p=(p.1,.cells cur e):=by
    rcases h.2 with ⟨-,-,rfl⟩|⟨g,cur,-,rfl,-⟩
    ·cases hp
    simp only[pQ]at hp;subst hp;exact⟨cur,rfl⟩
  obtain⟨cur,h2⟩:=h2;have:=hb p hp;rw[h2]at this;exact⟨cur,e,this⟩
theorem SlB.btw{e m n c:Nat}{A:Option Addr}{es:List Value}{sb:List (Nat × Obj)}{w w':World}{ds:List D}(h:SlB e m A n c es sb)(hb:∀p∈sb,w'.heap[p.1]? = some p.2/\w.heap.size<=p.1)(hr:RepL (Btw w w') w' ds es)(hn:ds.length=n):Rep (Btw w w') w' (.slice ds) [.slice A n c] :=
  h.repOf (λp hp=>⟨(hb p hp).1,(hb p hp).2,Mb (hb p hp).1,h.soft (λp hp=>(hb p hp).1) p hp⟩) hr hn
theorem YI{S:Nat->Prop}{w0 w w':World}{ks:List Str}{es:List Value}{v:Value}(h:KD 9 1 ks.length es w v w')(hr:RepL S w0 (ks.map Zm) es):∃A c,v=.slice A ks.length c/\Rep (Btw w w') w' (Ci ks) [.slice A ks.length c]/\Same [] w w':=by
  obtain⟨A,c,sb,rfl,hS,hb,hE⟩:=h;exact⟨A,c,O,hS.btw hb hr.lits La,hE⟩
theorem GR(len:Nat)(A:Option Addr)(c:Nat)(es:List Value)(w0:World)(hel:es.length=len*1)(hcell:Lie w0 A len es)(ho:∀v∈es,one v=true)(hb:len<=8796093022208):Calls prog 207 #[.slice A len c] w0 (Oc λv w'=>KD 9 1 len es w0 v w'):=by
 refine Ea func207 O ntmps207 Bb (Tb _) ?_;have hF:=FR.start w0 [];refine Da (Ba (Cm O) (Ca (Fa (Da (Ba (Qe O) (Ia (v:=.bool ((A).isNone)) (O7 iX O O) (Ca ?_)))))));refine He O O (λhc0=>?_) (λhc0=>?_);have hA:A=none:=by simpa using hc0
 refine Da (Ba (Cm O) (Ca ?_));refine Lc (v:=.slice _ _ _) O O ?_;have h0:len=0:=by rcases Nat.eq_zero_or_pos len with h|h;exact h;obtain⟨ad,hh,_⟩:=hcell Aa;rw[hA]at hh;cases hh
 have hes:es=[]:=List.eq_nil_of_length_eq_zero (by rw[hel,h0,Nat.zero_mul]);subst hes;exact⟨none,0,[],by rw[h0],by rw[h0];exact SlB.nil _ _,by simp,hF.same⟩;refine Na (Ga (Da ?_));refine Ck 0 hF (Ow iX sZ) ?_;rintro b1 w hb1 hF -;have hS0:SlB 9 1 (some ⟨b1,0,none⟩) 0 0 [] [(b1,.cells #[] 9)]:=⟨by simp,.inr ⟨b1,#[],rfl,rfl,gQ _,Nat.zero_le _,by simp,by simp⟩⟩;refine Ba (Qe O) ?_;refine Uo [] [] (news:=es) (len':=0+len) (ys:=[]++es) PF hF hS0 rfl rfl (by rw[hel]) (λhk=>by obtain⟨ad,hA,hc⟩:=hcell hk;exact⟨ad,hA,Tc (hF.cells0 hc)⟩) (Yp ho) (by simp only[maxLen];omega) (rfl) (rfl) Aa ?_;intro A0 c0 a_0 w hS0_a hF hE hnew;refine Ba (Cm O) (Ca ?_);refine Lc (v:=.slice _ _ _) O O ?_;simp only[Nat.zero_add,List.nil_append]at *;exact⟨_,_,_,O,by assumption,hF.sbown (pre:=[]) (post:=[]),hF.same⟩
theorem IT(len:Nat)(A:Option Addr)(c:Nat)(es:List Value)(w0:World)(hel:es.length=len*4)(hcell:Lie w0 A len es)(ho:∀v∈es,one v=true)(hb:len<=1000000000):Calls prog 208 #[.slice A len c] w0 (Oc λv w'=>KD 36 4 len es w0 v w'):=by
 refine Ea func208 O ntmps208 Bb (Tb _) ?_;have hF:=FR.start w0 [];refine Da (Ba (Cm O) (Ca (Fa (Da (Ba (Qe O) (Ia (v:=.bool ((A).isNone)) (O7 jX O O) (Ca ?_)))))));refine He O O (λhc0=>?_) (λhc0=>?_);have hA:A=none:=by simpa using hc0
 refine Da (Ba (Cm O) (Ca ?_));refine Lc (v:=.slice _ _ _) O O ?_;have h0:len=0:=by rcases Nat.eq_zero_or_pos len with h|h;exact h;obtain⟨ad,hh,_⟩:=hcell Aa;rw[hA]at hh;cases hh
 have hes:es=[]:=List.eq_nil_of_length_eq_zero (by rw[hel,h0,Nat.zero_mul]);subst hes;exact⟨none,0,[],by rw[h0],by rw[h0];exact SlB.nil _ _,by simp,hF.same⟩;refine Na (Ga (Da ?_));refine Ck 0 hF (Ow jX oZ) ?_;rintro b1 w hb1 hF -;have hS0:SlB 36 4 (some ⟨b1,0,none⟩) 0 0 [] [(b1,.cells #[] 36)]:=⟨by simp,.inr ⟨b1,#[],rfl,rfl,gQ _,Nat.zero_le _,by simp,by simp⟩⟩;refine Ba (Qe O) ?_;refine Uo [] [] (news:=es) (len':=0+len) (ys:=[]++es) Dt hF hS0 rfl rfl (by rw[hel]) (λhk=>by obtain⟨ad,hA,hc⟩:=hcell hk;exact⟨ad,hA,Tc (hF.cells0 hc)⟩) (Yp ho) (by simp only[maxLen];omega) (rfl) (rfl) Aa ?_;intro A0 c0 a_0 w hS0_a hF hE hnew;refine Ba (Cm O) (Ca ?_);refine Lc (v:=.slice _ _ _) O O ?_;simp only[Nat.zero_add,List.nil_append]at *;exact⟨_,_,_,O,by assumption,hF.sbown (pre:=[]) (post:=[]),hF.same⟩
def NewC(F:Nat)(args:Array Value)(d:D)(w0:World):Prop:=Calls prog F args w0 (Oc λv w'=>∃ct:List Value,v=.agg ct.toArray/\Rep (Btw w0 w') w' d ct/\Same [] w0 w')
def YL(x:Tree):Prop:=∀S w0 cs,Rep S w0 (Jb x) cs->Db x<=1000000000->(Ft x<=8796093022208)->NewC 149 #[.agg cs.toArray] (Jb x) w0
theorem BN(k:Int)(t:Str)(ks:List Str)(xs:List Tree)(ih:∀x,x∈xs->YL x):YL (.node k t ks xs):=by
 intro S w0 cs hR hsz hky;rw[Db]at hsz;rw[Ft]at hky;have hxn:=Mj xs;obtain⟨A,c,B,e,rfl,hk,ht,hK,hX⟩:=hR.tree_inv;obtain⟨eK,hrK,hKl,hKc⟩:=hK.slice_open (YR ks);obtain⟨eX,hrX,hXl,hXc⟩:=hX.slice_open (AN xs);refine Ea func149 O ntmps149 Bb (Tb _) ?_;have hF:=FR.start w0 [];refine Da (Df hF O ?_);rintro b1 w hb1 hF -;refine Gc (cs:=#[J 0,I [],aQ,aQ]) hF sX O ?_;rintro b2 w hb2 hF -;refine Ca (Fa ?_);refine Be (zs:=.of [9,7]) (bQ [0,1,3,4] (.act 2 (.free 6 (.act 5 (.act 7 (.free 8 (.act 9 .nil))))))) hF ?_;intro w hF;refine Hb O (Rb Oe O) (Nf O (Ff yQ O C0 1 O O) (Hb O (Rb Xb O) (Nf O (Ff zQ O C0 1 O O) ?_)));refine Cd O (GR ks.length A c eK _ hKl (Lie.ext hKc hF.same) hrK.one_ Aa) (Ma en_207 O O) ?_;rintro _ w hcl;obtain⟨A1,c1,rfl,hK1,hE⟩:=YI hcl hrK;have hKX:=RX.made (ids:=[b2,b1]) hF.same.size (λx hx=>hF.lt_ids (by grind)) hK1;have hF:=hF.ext hE;clear hE hcl hK1;refine⟨hF,?_⟩;refine Hb O (Rb Oe O) (Cd O (IT xs.length B e eX _ hXl (Lie.ext hXc hF.same) hrX.one_ Aa) (Ma en_208 O O) ?_);rintro _ w ⟨A2,c2,sb2,rfl,hS2,hh2,hE⟩;have hKX:=hKX.step (ids':=[b2,b1]++sb2.map (·.1)) hE La (λx hx=>by rcases mQ.1 hx with hx|hx;exact .inl hx;obtain⟨p,hp,rfl⟩:=nQ.1 hx;exact .inr (hh2 p hp).2);have hF:=hF.extseg hE hh2 hS2.pw;refine⟨hF.mid 0 2,?_⟩;refine IK (.slice _ _ _) O hF sizeOf33 O O Tr.app B0 ?_;intro w hF hE;have hKX:=hKX.store hE (by grind);refine Hb O (Rb Xb O) (IK (.slice _ _ _) O hF nZ O O Tr.app H8 ?_);intro w hF hE;have hKX:=hKX.store hE (by grind);refine d_nil (Ga (Fa (Da (Ba (Rb Xb O) (Yb (Ff zQ O hF.F 1 O O) (Ba (Qg jX O) (Ba (Cb O) (Ca (Sa ?_)))))))));refine Rc (λμ σ w=>∃(j:Nat),∃(dn:List Value),∃(rs:List Value),∃(sb:List (Nat × Obj)),μ=xs.length-j/\(j<=xs.length)/\(SlB 36 4 A2 xs.length c2 (dn++rs) sb)/\(dn.length=j*4)/\(RepL S w0 (Ie (xs.drop j)) rs)/\(RX w0 ([b2,b1]++sb.map (·.1)) w (Ie (xs.take j)) dn)/\(RX w0 ([b2,b1]++sb.map (·.1)) w [Ci ks] [.slice A1 ks.length c1])/\AllEq σ [(1,V b1),(2,V b2),(14,.slice A2 xs.length c2),(15,J ((xs.length:Nat))),(16,J ((j:Int)))]/\FR w0 [] ([(b2,.cells #[J 0,I [],aQ,aQ] 36),(b1,.cells #[J k,I t,.slice A1 ks.length c1,.slice A2 xs.length c2] 36)]++(sb++[])) w) _ ⟨0,[],eX,sb2,O,(Nat.zero_le _),(hS2),(O),(by simpa using hrX),(RX.nil),(hKX),U7,hF⟩ ?_
 rintro μ σ w ⟨j,dn,rs,sb,rfl,hj,hS,hd,hrr,hDX,hKX,hs,hF⟩;refine Cg.slots hs ?_;clear hs;intro σ;refine Da (Ba (Dl O O) (Ca (Fa ?_)));refine Lb O O (λhc0=>?_) (λhc0=>?_);refine Na (Ga (Fa (Sa (Da (Ba (Cb O) ?_)))));have hjx:j<xs.length:=by omega
 rw[YG hjx]at hrr;obtain⟨c1_,c2_,rfl,hr1,hr2⟩:=RepL.cons_inv hrr;have hl1:c1_.length=4:=hr1.length.trans (Xc _);have ho1:=hr1.one_;obtain⟨ad0,hA0,hk0⟩:=hS.elemMid (pre:=[(b2,.cells #[J 0,I [],aQ,aQ] 36),(b1,.cells #[J k,I t,.slice A1 ks.length c1,.slice A2 xs.length c2] 36)]) (post:=[]) (pr:=dn) (mid:=c1_) (po:=c2_) hF (j:=j) hd hl1 (hjx);refine Ia (v:=.pointer (some (ad0.add (j*4)))) (Ra (i:=(j:Int)) Tg O hA0 O Aa Aa) (Ia (v:=.agg (List.toArray c1_)) (Za (l:=c1_) aZ oZ O hl1 hk0) ?_);refine Gc (cs:=#[J 0,I [],aQ,aQ]) hF sX O ?_;intro b3 w hb3 hF hE;have hKX:=hKX.alloc hE hb3;have hDX:=hDX.alloc hE hb3;refine Ba (Gb O) ?_;refine Gh 0 (l:=c1_) (cs':=(List.toArray c1_)) hF (by rw[hl1];exact oZ) O (v:=.agg (List.toArray c1_)) O O (ho1) O (by rw[hl1];exact Nat.le_of_ble_eq_true O) (Gn (by rw[hl1];rfl)) ?_;intro w hF hE;have hKX:=hKX.store hE (by grind);have hDX:=hDX.store hE (by grind);refine Ca (Dd (.of [6]) (bQ [0,1,2,3] (.act 4 (.free 5 (.act 6 .nil)))) hF ?_);intro w hF hE;have hKX:=hKX.ext hE;have hDX:=hDX.ext hE;refine⟨λwq=>FR w0 [] [(b3,.cells (List.toArray c1_) 36),(b2,.cells #[J 0,I [],aQ,aQ] 36),(b1,.cells #[J k,I t,.slice A1 ks.length c1,.slice A2 xs.length c2] 36)] wq,hF.mid 0 3,?_⟩;refine Hb O (Rb Xb O) (Nf O (Ff zQ O C0 2 O O) (Hb O (Cb O) (Ab O (v:=.agg (List.toArray c1_)) (λw hC=>Za (l:=c1_) aZ oZ O hl1 (hC.cellsAll 0 O)) ?_)));refine Cd O (ih xs[j] (eQ hjx) S _ c1_ (hF.rep hr1) (by have:=Zk (eQ hjx);omega) (by have:=F5 (eQ hjx);omega)) (Ma NY O O) ?_;rintro _ w ⟨ct,rfl,hRt,hE⟩;have hlt:ct.length=4:=hRt.length.trans (Xc _);have hot:=hRt.one_;have hYX:=RX.made (ids:=b3::([b2,b1]++sb.map (·.1))) hF.same.size (λx hx=>hF.lt_ids (by grind)) hRt;have hKX:=hKX.ext hE;have hDX:=(hDX.ext hE).append hYX;have hF:=hF.ext hE
 clear hE hYX;refine⟨hF.mid 0 3,?_⟩;obtain⟨ad1,hA1,hk1⟩:=hS.elemMid (pre:=[(b3,.cells (List.toArray c1_) 36),(b2,.cells #[J 0,I [],aQ,aQ] 36),(b1,.cells #[J k,I t,.slice A1 ks.length c1,.slice A2 xs.length c2] 36)]) (post:=[]) (pr:=dn) (mid:=c1_) (po:=c2_) hF (j:=j) hd hl1 (hjx);refine Ab O (v:=.pointer (some (ad1.add (j*4)))) (λw hC=>Ra (i:=(j:Int)) Tg O hA1 O Aa Aa) (MU [(b3,.cells (List.toArray c1_) 36),(b2,.cells #[J 0,I [],aQ,aQ] 36),(b1,.cells #[J k,I t,.slice A1 ks.length c1,.slice A2 xs.length c2] 36)] [] O hF (pr:=dn) (mid:=c1_) (po:=c2_) (new:=ct) (j:=j) hS hd hl1 hA1 (hjx) oZ O (v:=.agg (List.toArray ct)) O O hlt hot ?_);intro i_2 w hS2_i hF hE hids;have hKX:=hKX.store hE (by grind);have hDX:=hDX.store hE (by grind);refine d_nil (Wa (Ga (Ja (Ba (Fm O O) (Ba (Cb O) (Eb ?_))))));refine Qb ⟨_,?_,j+1,dn++ct,c2_,i_2,O,(hjx),(by simpa using hS2_i),(by rw[dQ,hd,hlt];omega),(hr2),(by rw[TH hjx,hids];exact hDX.sub (λx hx=>List.mem_cons_of_mem _ hx)),(by rw[hids];exact hKX.sub (λx hx=>List.mem_cons_of_mem _ hx)),U7,hF.drop 1⟩;omega;refine Ic (Ec O ?_);refine Ga (Da (Yb (Ig aZ oZ O hF.F 1 O O) ?_));refine Ke hF oZ O O Oi.app ?_;intro w hF hE;have hKX:=hKX.store hE (by grind);have hDX:=hDX.store hE (by grind);refine Ca (Xa (Va (Ka (Ni O (l:=[J k,I t,.slice A1 ks.length c1,.slice A2 xs.length c2]) O aZ oZ O (hF.cellsAll 0 O)) ?_)));have ej:j=xs.length:=by omega
 subst ej;rw[List.take_length]at hDX;have e0:rs=[]:=by rw[List.drop_length]at hrr;exact RepL.nil_inv hrr
 subst e0;rw[qQ]at hS;refine⟨_,O,?_,hF.same⟩
 ·exact Rep.tree_mk hk ht hKX.done (hS.rep (pre:=[_,_]) (post:=[]) hF hDX La)
theorem clone_c(x:Tree):YL x:=Tree.ind BN x
mutual
def sortT:Tree->Tree
  | .node k t ks xs=>if k=6 then .node k t (Hj ks) ((Hj ks).map λkey=>(Bg ks (Jf xs) key).getD (.node 0 [] [] [])) else .node k t [] (Jf xs)
def Jf:List Tree->List Tree
  | []=>[]
  | x::xs=>sortT x::Jf xs
end
theorem Yg:∀xs:List Tree,Jf xs=xs.map sortT
  | []=>rfl
  | x::xs=>by rw[Jf,Yg xs,List.map_cons]
theorem Ux{key:Str}{y:Tree}:∀{ks:List Str}{xs:List Tree},Bg ks xs key=some y->Bg ks (Jf xs) key=some (sortT y)
  | [],xs,h=>by cases xs <;> cases h
  | k::ks,[],h=>by cases h
  | k :: ks, x :: xs, h => by
    rw[Jf,Bg];rw[Bg]at h;by_cases he:k=key
    ·rw[if_pos he]at h ⊢;injection h with h;rw[h]
    rw[if_neg he]at h ⊢;exact Ux h
theorem PM{S:Nat->Prop}{w:World}{key:Str}{ks:List Str}{xs:List Tree}{l:MapL}(hk:l.map (·.1)=ks)(hm:MapRep S w xs l)(hin:key∈ks) :
    ∃(cs:List Value)(y:Tree),Mf l key=some (.agg cs.toArray)/\Bg ks xs key=some y/\y∈xs/\Rep S w (Jb y) cs:=by
  rcases O5 key hk hm with ⟨h,-⟩|h
  ·exfalso
   rw[<-hk]at hin;obtain⟨x,hx,hxe⟩:=nQ.1 hin;unfold Mf at h;rw[Option.map_eq_none_iff,List.find?_eq_none]at h;exact h x hx (by simpa using hxe)
  exact h
theorem MapRep.back{S:Nat->Prop}{w0 w:World}{xs:List Tree}{l:MapL}(h:MapRep (Old S w0) w xs l)(hs:Same [] w0 w):MapRep (Old S w0) w0 xs l:=λi hi=>by
  obtain⟨cs,h1,h2,h3⟩:=h i hi;exact⟨cs,h1,h2,h3.back hs⟩
def ZX(w1:World)(bk m:Nat)(l:MapL):Prop:=∃W:World,w1=W.alloc (.cells #[.map (some m)] 166)/\bk=W.heap.size/\W.heap[m]? = some (Ee l)
theorem keys_c(m:Nat)(l:MapL)(w:World)(hm:w.heap[m]? = some (Ee l)):Calls prog 139 #[.map (some m)] w (Oc λv w'=>∃bk,v=.func (.func 203) #[] #[V bk]/\ZX w' bk m l/\Same [] w w') :=
  (callsIn_wide.1 (maps_Keys_139 (some m) w)).mono λ_ _ ⟨he,hw⟩=>⟨_,he,w.heap.size,rfl,⟨w,hw,rfl,hm⟩,by rw[hw];exact Same.alloc w _⟩
theorem IE(bk m:Nat)(l:MapL)(ks:List Str)(w:World)(h:ZX w bk m l)(hk:l.map (·.1)=ks)(hn:ks.Nodup)(hb:ks.length<=1000000000)(hs:∀s∈ks,s.length<=140737488355328) :
    Calls prog 138 #[.func (.func 203) #[] #[V bk]] w (Oc λv w'=>∃A c,v=.slice A ks.length c/\Rep (Btw w w') w' (Ci (Hj ks)) [.slice A ks.length c]/\Same [] w w'):=by
  obtain⟨W,rfl,rfl,hm⟩:=h;have hl:l.length=ks.length:=by rw[<-hk,rQ]
  obtain⟨D0,hown,hperm,hsz⟩:=RK (P:=prog) oX hm (by rw[hk];exact hn) (λx hx=>by have:=hs x.1 (by rw[<-hk];exact List.mem_map_of_mem hx);simp only[maxLen];omega) (by simp only[maxLen];omega);refine (callsIn_wide.1 (slices_Sorted_keys_138_139 m l.length D0 _ W hown (by rw[hsz];simp only[maxLen];omega) (by rw[hsz];omega))).mono ?_;rintro e w' ⟨v,ss,rfl,hp,hrow,-,hbel⟩;have hpk:ss.Perm ks:=by rw[<-hk];exact hp.trans hperm
  have e1:(ss.mergeSort λx y=>decide (x<=y))=Hj ks:=Bw hpk;rw[e1]at hrow;have e2:ss.length=(Hj ks).length:=by rw[Ak];exact hpk.length_eq
  rw[e2]at hrow;obtain⟨A,c,rfl,hr⟩:=OW (S:=Btw (W.alloc (.cells #[.map (some m)] 166)) w') 9 hrow (λg h1 h2 h3=>⟨h1,h2,h3⟩) (λs hs'=>by have:=hs s (Br.1 hs');omega);rw[Ak]at hr;exact⟨_,O,A,c,by rw[Ak],hr,.of_below hbel⟩
def EC(x:Tree):Prop:=∀S w0 cs,Rep S w0 (Jb x) cs->Wp x->Zd nodeB x=true->Db x<=1000000000->NewC 83 #[.agg cs.toArray] (Jb (sortT x)) w0
theorem MH{xs:List Tree}{j:Nat}(h:j<xs.length):Ie (Jf (xs.take (j+1)))=Ie (Jf (xs.take j))++[Jb (sortT xs[j])]:=by
  rw[iQ h,Ge,Ge,Yg,Yg,jQ,jQ];rfl
def K5(ks:List Str)(xs:List Tree):List Tree:=(Hj ks).map λkey=>(Bg ks (Jf xs) key).getD (.node 0 [] [] [])
theorem C5(ks:List Str)(xs:List Tree):(K5 ks xs).length=ks.length:=by rw[K5,rQ,Ak]
theorem CT{ks:List Str}{xs:List Tree}{j:Nat}{y:Tree}(h:j<(Hj ks).length)(hy:Bg ks xs (Hj ks)[j]=some y):Ie ((K5 ks xs).take (j+1))=Ie ((K5 ks xs).take j)++[Jb (sortT y)]:=by
  have h':j<(K5 ks xs).length:=by rw[C5,<-Ak];exact h
  rw[iQ h',Ge,Ge,jQ];simp only[K5,List.getElem_map,Ux hy,Option.getD_some];rfl
theorem NF(k:Int)(t:Str)(ks:List Str)(xs:List Tree)(ih:∀x,x∈xs->EC x):EC (.node k t ks xs):=by
 intro S w0 cs hR hok hnx hsz;have hR:=hR.old;rw[Wp]at hok;rw[Db]at hsz;have hxn:=Mj xs;have hnx:=Zg hnx;obtain⟨A,c,B,e,rfl,hk,ht,hK,hX⟩:=hR.tree_inv;have hXl:=hX.slice_len;have hKn:k=6->ks.length=xs.length:=λe=>(Iw (e▸hnx.1)).2;refine Ea func83 O ntmps83 Bb (Tb _) ?_;have hF:=FR.start w0 [];refine Da (Df hF O ?_);rintro b1 w hb1 hF -;refine Gc (cs:=#[J 0,I [],aQ,aQ]) hF sX O ?_;rintro b2 w hb2 hF -;refine Ob (Ba (Rb Ve O) (Yb (Pi xQ O hF.F 1 O O) (Ba (Rb Bf O) (Yb (Tn fZ O hF.F 1 O O) ?_))));refine Ia (w':=w) (v:=.agg #[J k,I t,aQ,aQ]) Ib (Hf hF sX oZ O ?_);rintro b3 w hb3 hF -;refine Ca (Fa (Da (Ba (Rb Ve O) (Yb (Pi xQ O hF.F 2 O O) (Ba (Sn O O) (Ca ?_))))));refine Lb O O (λhc0=>?_) (λhc0=>?_);refine Fa (Da (Ba (Rb Xb O) (Yb (Ff zQ O hF.F 2 O O) (Ba (Qg jX O) (Ba (Cb O) (Ca (Sa ?_)))))));refine Rc (λμ σ w=>∃(j:Nat),∃(A1:Option Addr),∃(c1:Nat),∃(sb:List (Nat × Obj)),∃(cs1:List Value),μ=xs.length-j/\(j<=xs.length)/\(SlB 36 4 A1 j c1 cs1 sb)/\(RX w0 ([b3,b2,b1]++sb.map (·.1)) w (Ie (Jf (xs.take j))) cs1)/\AllEq σ [(2,V b2),(3,V b3),(18,.slice B xs.length e),(19,J ((xs.length:Nat))),(20,J ((j:Int)))]/\FR w0 [] ([(b3,.cells #[J k,I t,aQ,.slice A1 j c1] 36),(b2,.cells #[J 0,I [],aQ,aQ] 36),(b1,.cells #[J k,I t,.slice A ks.length c,.slice B xs.length e] 36)]++(sb++[])) w) _ ⟨0,none,0,[],[],O,(Nat.zero_le _),(SlB.nil _ _),(RX.nil),U7,hF⟩ ?_;rintro μ σ w ⟨j,A1,c1,sb,cs1,rfl,hj,hS,hDX,hs,hF⟩;refine Cg.slots hs ?_;clear hs;intro σ;refine Da (Ba (Dl O O) (Ca (Fa ?_)));refine Lb O O (λhc1=>?_) (λhc1=>?_);refine Na (Ga (Fa (Sa (Da ?_))));obtain⟨ad0,cs0,hA0,hl0,hk0,hx0⟩:=hX.tree_elem (i:=j) Aa;have ho0:=hx0.one_;refine Ia (v:=.pointer (some (ad0.add (j*4)))) (Ra (i:=(j:Int)) Tg O hA0 O Aa Aa) (Ia (v:=.agg (List.toArray cs0)) (Za (l:=cs0) aZ oZ O hl0 (hF.cells0 hk0)) ?_)
 refine Gw (l:=cs0) hF sX (by rw[hl0];exact oZ) (by rw[hl0];rfl) (v:=.agg (List.toArray cs0)) O O (ho0) O ?_;intro b4 w hb4 hF hE;have hDX:=hDX.alloc hE hb4;refine Ca (Dd (.of [7]) (bQ [0,1,2] (cQ [3,4,5] (.free 6 (.act 7 .nil)))) hF ?_);intro w hF hE;have hDX:=hDX.ext hE;refine⟨λwq=>FR w0 [] [(b4,.cells (List.toArray cs0) 36),(b3,.cells #[J k,I t,aQ,.slice A1 j c1] 36),(b2,.cells #[J 0,I [],aQ,aQ] 36),(b1,.cells #[J k,I t,.slice A ks.length c,.slice B xs.length e] 36)] wq,hF.mid 0 4,?_⟩;refine Hb O (Rb Xb O) (Nf O (Ff zQ O C0 1 O O) (Ab O (v:=.agg (List.toArray cs0)) (λw hC=>Za (l:=cs0) aZ oZ O hl0 (hC.cellsAll 0 O)) ?_));refine Cd O (ih xs[j] (eQ Aa) _ _ cs0 (hF.rep hx0) (Nk hok.2.2 _ (eQ Aa)) (hnx.2 _ (eQ Aa)) (by have:=Zk (List.getElem_mem (l:=xs) (n:=j) Aa);omega)) (Ma ZH O O) ?_;rintro _ w ⟨ct,rfl,hRt,hE⟩;have hlt:ct.length=4:=hRt.length.trans (Xc _);have hot:=hRt.one_;have hYX:=RX.made (ids:=[b4,b3,b2,b1]++sb.map (·.1)) hF.same.size (λx hx=>hF.lt_ids (by grind)) hRt;have hDX:=(hDX.ext hE).append hYX;have hF:=hF.ext hE;clear hE hYX;refine⟨hF.mid 0 4,?_⟩;refine Of 1 O hF (Mw (l:=ct) jX oZ sX Oa Oa O hlt) ?_;intro b5 w hb5 hF hE;have hDX:=hDX.alloc hE hb5;refine⟨hF.mid 1 4,?_⟩;refine KJ (news:=ct) (len':=j+1) (ys:=cs1++ct) O Dt hF hS O O (by rw[hlt]) (λ_=>⟨_,O,Tc (hF.cellsAll 0 O)⟩) (Yp hot) (by simp only[maxLen];omega) (O) (O) Aa ?_;intro A1 c1 i_1 w hS1_i hF hE hnew;have hDX:=hDX.app (l:=[b5,b4,b3,b2,b1]) hE hnew;refine⟨hF.mid 1 4,?_⟩;refine Hb O (Rb Xb O) (IK (.slice _ _ _) O hF nZ O O B0.app H8 ?_);intro w hF hE;have hDX:=hDX.store hE (by grind);refine d_nil (Wa (Ga (Ja (Ba (Fm O O) (Ba (Cb O) (Eb ?_))))));refine Qb ⟨_,?_,j+1,A1,c1,i_1,cs1++ct,O,Aa,(by assumption),(by rw[MH Aa];exact hDX.sub (by grind)),U7,hF.drop 2⟩
 omega;refine Ic (Ec O ?_);refine Ga (Da (Yb (Ig aZ oZ O hF.F 0 O O) ?_));refine Ke hF oZ O O Tr.app ?_;intro w hF hE;have hDX:=hDX.store hE (by grind);refine Ca (Xa (Va (Ka (Ni O (l:=[J k,I t,aQ,.slice A1 j c1]) O aZ oZ O (hF.cellsAll 1 O)) ?_)));have ej:j=xs.length:=by omega
 subst ej;rw[List.take_length]at hDX;refine⟨_,O,?_,hF.same⟩;rw[sortT,if_neg hc0];exact Rep.tree_mk hk ht (Rep.nil_slice 0 Aa none) (hS.rep (pre:=[_,_,_]) (post:=[]) hF hDX (by rw[Qm,Yg,rQ]));refine Na (Ga (Da (Yb (Ig aZ oZ O hF.F 2 O O) ?_)));have k6:k=6:=by simpa using hc0
 refine Ta (GS k t ks xs (Iw (k6▸hnx.1)).1 (Iw (k6▸hnx.1)).2 _ _ _ (hF.rep hR)) (Ma en_137 O O) ?_;rintro _ w ⟨m1,l1,rfl,hge,hm1,hk1,hr1,hE⟩;have hF:=hF.cons_ext hE hm1 hge;have hr1:=hr1.back hF.same;clear hE hm1 hge;refine Ba (Yr) (Ob (Ba (Vp) ?_));refine Ta (keys_c m1 l1 _ (hF.heap (i:=0) O)) (Ma en_139 O O) ?_;rintro _ w ⟨bk,rfl,hKA,hE⟩;have hF:=hF.ext hE;refine Ta (IE bk m1 l1 ks _ hKA hk1 (Iw (k6▸hnx.1)).1 Aa hok.2.1) (Ma en_138 O O) ?_;rintro _ w ⟨A2,c2,rfl,hK2,hE⟩;have hKX:=RX.made (ids:=[m1,b3,b2,b1]) hF.same.size (λx hx=>hF.lt_ids (by grind)) hK2;have hF:=hF.ext hE;clear hE hK2;refine Ba (Rb Oe O) (Zl (.slice _ _ _) hF sizeOf33 O O Tr B0 ?_);intro w hF hE;have hKX:=hKX.store hE (by grind);refine Ca (Fa (Da (Ba (Rb Oe O) (Yb (Ff yQ O hF.F 1 O O) (Ba (Qg iX O) (Ba (Cb O) (Ca (Sa ?_))))))));refine Rc (λμ σ w=>∃(j:Nat),∃(A1:Option Addr),∃(c1:Nat),∃(sb:List (Nat × Obj)),∃(cs1:List Value),μ=ks.length-j/\(j<=ks.length)/\(SlB 36 4 A1 j c1 cs1 sb)/\(RX w0 ([m1,b3,b2,b1]++sb.map (·.1)) w (Ie ((K5 ks xs).take j)) cs1)/\(RX w0 ([m1,b3,b2,b1]++sb.map (·.1)) w [Ci (Hj ks)] [.slice A2 ks.length c2])/\AllEq σ [(2,V b2),(3,V b3),(6,.map (some m1)),(40,.slice A2 ks.length c2),(41,J ((ks.length:Nat))),(42,J ((j:Int)))]/\FR w0 [] ([(m1,Ee (l1)),(b3,.cells #[J k,I t,.slice A2 ks.length c2,.slice A1 j c1] 36),(b2,.cells #[J 0,I [],aQ,aQ] 36),(b1,.cells #[J k,I t,.slice A ks.length c,.slice B xs.length e] 36)]++(sb++[])) w) _ ⟨0,none,0,[],[],O,(Nat.zero_le _),(SlB.nil _ _),(RX.nil),(hKX),I9,hF⟩ ?_;rintro μ σ w ⟨j,A1,c1,sb,cs1,rfl,hj,hS,hDX,hKX,hs,hF⟩;refine Cg.slots hs ?_;clear hs;intro σ;refine Da (Ba (Dl O O) (Ca (Fa ?_)));refine Lb O O (λhc2=>?_) (λhc2=>?_);refine Na (Ga (Fa (Sa (Da ?_))));obtain⟨ad2,hA2,hk2,hx2⟩:=hKX.rep.str_elem (i:=j) (by rw[Ak];omega)
 refine Ia (v:=.pointer (some (ad2.add (j*1)))) (Ra (i:=(j:Int)) Jw O hA2 O Aa Aa) ?_;refine Ia (v:=I ((Hj ks)[j]'(by rw[Ak];omega))) (Yc fZ O hk2) ?_;refine Ba (Xf O) (Ca ?_);refine Dd (.of [9]) (bQ [0,1,2,3,4] (cQ [5,6,7] (.free 8 (.act 9 .nil)))) hF ?_;intro w hF hE;have hDX:=hDX.ext hE;have hKX:=hKX.ext hE;refine⟨λwq=>FR w0 [] [(m1,Ee (l1)),(b3,.cells #[J k,I t,.slice A2 ks.length c2,.slice A1 j c1] 36),(b2,.cells #[J 0,I [],aQ,aQ] 36),(b1,.cells #[J k,I t,.slice A ks.length c,.slice B xs.length e] 36)] wq,hF.mid 0 4,?_⟩;refine Hb O (Rb Xb O) (Nf O (Ff zQ O C0 1 O O) (Hb O (Vp) (Hb O (Pd O) ?_)));obtain⟨cy,y,hlk,hlt_,hym,hry⟩:=PM hk1 hr1 (Br.1 (List.getElem_mem (l:=Hj ks) (n:=j) (by rw[Ak];omega)));have hoy:=hry.one_;have hly:cy.length=4:=hry.length.trans (Xc _);refine Ab O (v:=.agg (List.toArray cy)) (λw hC=>Zq underlying166 oX sX O O (hC.heap (i:=0) O) (by rw[hlk];rfl)) ?_;refine Cd O (ih y hym _ _ cy (hF.rep hry) (Nk hok.2.2 y hym) (hnx.2 y hym) (by have:=Zk hym;omega)) (Ma ZH O O) ?_;rintro _ w ⟨ct,rfl,hRt,hE⟩;have hlt:ct.length=4:=hRt.length.trans (Xc _);have hot:=hRt.one_;have hYX:=RX.made (ids:=[m1,b3,b2,b1]++sb.map (·.1)) hF.same.size (λx hx=>hF.lt_ids (by grind)) hRt;have hDX:=(hDX.ext hE).append hYX;have hF:=hF.ext hE;have hKX:=hKX.ext hE;clear hE hYX;refine⟨hF.mid 0 4,?_⟩;refine Of 1 O hF (Mw (l:=ct) jX oZ sX Oa Oa O hlt) ?_;intro b6 w hb6 hF hE;have hDX:=hDX.alloc hE hb6;have hKX:=hKX.alloc hE hb6;refine⟨hF.mid 1 4,?_⟩;refine KJ (news:=ct) (len':=j+1) (ys:=cs1++ct) O Dt hF hS O O (by rw[hlt]) (λ_=>⟨_,O,Tc (hF.cellsAll 0 O)⟩) (Yp hot) (by simp only[maxLen];omega) (O) (O) Aa ?_;intro A3 c3 i_3 w hS3_i hF hE hnew;have hDX:=hDX.app (l:=[b6,m1,b3,b2,b1]) hE hnew;have hKX:=hKX.app (l:=[b6,m1,b3,b2,b1]) hE hnew
 refine⟨hF.mid 1 4,?_⟩;refine Hb O (Rb Xb O) (IK (.slice _ _ _) O hF nZ O O B0.app H8 ?_);intro w hF hE;have hDX:=hDX.store hE (by grind);have hKX:=hKX.store hE (by grind);refine d_nil (Wa (Ga (Ja (Ba (Fm O O) (Ba (Cb O) (Eb ?_))))));refine Qb ⟨_,?_,j+1,A3,c3,i_3,cs1++ct,O,Aa,(by assumption),(by rw[CT (by rw[Ak];omega) hlt_];exact hDX.sub (by grind)),(hKX.sub (by grind)),I9,hF.drop 1⟩;omega;refine Ic (Ec O ?_);refine Ga (Da (Yb (Ig aZ oZ O hF.F 1 O O) ?_));refine Ke hF oZ O O B0.app ?_;intro w hF hE;have hDX:=hDX.store hE (by grind);have hKX:=hKX.store hE (by grind);refine Ca (Xa (Va (Ka (Ni O (l:=[J k,I t,.slice A2 ks.length c2,.slice A1 j c1]) O aZ oZ O (hF.cellsAll 2 O)) ?_)));have ej:j=ks.length:=by omega
 subst ej;rw[List.take_of_length_le (by rw[C5];exact gQ _)]at hDX;refine⟨_,O,?_,hF.same⟩;rw[sortT,if_pos k6]
 ·exact Rep.tree_mk hk ht hKX.done (hS.rep (pre:=[_,_,_,_]) (post:=[]) hF hDX (by rw[Qm];exact C5 ks xs))
theorem Y5(x:Tree):EC x:=Tree.ind NF x
def zeroT:Tree:=.node 0 [] [] []
theorem Jn(S:Nat->Prop)(w:World):Rep S w (Jb zeroT) [J 0,I [],aQ,aQ] :=
  Rep.tree_mk ⟨by omega,by omega⟩ La (Rep.nil_slice 0 Aa none) (Rep.nil_slice 0 Aa none)
def Wd(x:Tree):Tree:=if Ag x then sortT x else zeroT
def Vt(x:Tree):Tree:=if Ag x then x else zeroT
def If(x y:Tree):Int:=if Ag x then if Ag y then Al (sortT x) (sortT y) else 1 else if Ag y then -1 else 0
theorem UN{k:Int}{t:Str}{ks:List Str}{xs:List Tree}(h:nodeB (.node k t ks xs)=true):ks.length<=xs.length:=by
  by_cases h6:k=6
  ·subst h6;have:=(Iw h).2;omega
  have:ks=[]:=by
    simp only[nodeB]at h;by_cases h5:k=5
    ·subst h5;simp at h;exact h.1
    rw[if_neg h5, if_neg h6]at h;cases ks with
    | nil=>rfl
    | cons a l=>simp at h
  subst this;simp
theorem keys_lt:∀x:Tree,Zd nodeB x=true->Ft x+1<=Db x:=λx=>Tree.ind (Q:=λx=>Zd nodeB x=true->Ft x+1<=Db x) (λk t ks xs ih h=>by
  obtain⟨h1,h2⟩:=Zg h;have h3:=UN h1;have h7:∀ys:List Tree,(∀y∈ys,y∈xs)->ys.length+Rq ys<=Nb ys:=by
    intro ys
    induction ys with
    | nil=>intro _;simp[Rq,Nb]
    | cons y ys ihy =>
      intro hm;have h5:=ihy (λz hz=>hm z (by simp[hz]));have h9:=ih y (hm y La) (h2 y (hm y La));simp only[Rq,Nb,kQ];omega
  have:=h7 xs (λ_ h=>h);rw[Ft,Db];omega) x
theorem Tq{key:Str}{y:Tree}:∀{ks:List Str}{xs:List Tree},Bg ks xs key=some y->y∈xs
  | [],xs,h=>by cases xs <;> cases h
  | k::ks,[],h=>by cases h
  | k :: ks, x :: xs, h => by
    rw[Bg]at h;by_cases he:k=key
    ·rw[if_pos he]at h;injection h with h;simp[h]
    rw[if_neg he]at h;simp[Tq h]
theorem O3:∀{xs:List Tree},(∀x∈xs,Wp x)->X5 xs
  | [],_=>by rw[X5];trivial
  | x::xs,h=>by rw[X5];exact⟨h x La,O3 (λy hy=>h y (by simp[hy]))⟩
theorem QF(x:Tree):Wp x->Wp (sortT x):=Tree.ind (Q:=λx=>Wp x->Wp (sortT x)) (λk t ks xs ih h=>by
  rw[Wp]at h;have hs:∀y∈Jf xs,Wp y:=by
    intro y hy;rw[Yg]at hy;obtain⟨z,hz,rfl⟩:=nQ.1 hy;exact ih z hz (Nk h.2.2 z hz)
  rw[sortT];split
  ·rw[Wp]
   refine⟨h.1,λk hk=>h.2.1 k (Br.1 hk),O3 λy hy=>?_⟩;obtain⟨key,_,rfl⟩:=nQ.1 hy;cases hl:Bg ks (Jf xs) key with
   | none=>simp only[Option.getD_none];rw[Wp];simp[X5]
   | some z=>exact hs z (Tq hl)
  rw[Wp];exact⟨h.1,by simp,O3 hs⟩) x
theorem RS{x:Tree}(h:Ag x=true):Db x<=4096:=by
  unfold Ag Qq at h;simp only[Bool.and_eq_true,decide_eq_true_eq]at h;exact h.1.1
theorem YT(x:Tree)(hsz:Db x<=1000000000)(S:Nat->Prop)(w0:World)(cs:List Value)(hR:Rep S w0 (Jb x) cs)(hk:Wp x)(hG:Gl w0):NewC 70 #[.agg cs.toArray] (Jb (Wd x)) w0:=by
 have hl:cs.length=4:=hR.length.trans (Xc x);have ho:=hR.one_;refine Ea func70 O ntmps70 Bb (Tb _) ?_;have hF:=FR.start w0 [];refine Da (Vn (v:=.agg (List.toArray cs)) (cs:=(List.toArray cs)) hF O O ?_);rintro b1 w hb1 hF -;refine Gc (cs:=#[J 0,I [],aQ,aQ]) hF sX O ?_;rintro b2 w hb2 hF -;refine Ca (Fa (Da (Ia (v:=.agg (List.toArray cs)) (Za (l:=cs) aZ oZ O hl (hF.cellsAll 1 O)) ?_)));refine Qa hF (I7 x hsz S _ cs (hF.rep hR) hk (hG.ext hF.same)) (Ma GI O O) ?_;intro w hF;refine Ba (Wi O) (Ca ?_);refine He O O (λhc0=>?_) (λhc0=>?_);refine Da (Ia (w':=w) (v:=.agg #[J 0,I [],aQ,aQ]) Ib ?_);refine Ke hF oZ O O Oi ?_;rintro w hF -;refine Ca (Xa (Va (Ka (Ni O (l:=[J 0,I [],aQ,aQ]) O aZ oZ O (hF.cellsAll 0 O)) ?_)));have ho_:Ag x=false:=by simpa using hc0
 refine⟨_,O,?_,hF.same⟩;rw[Wd,ho_];exact Jn _ _;refine Na (Ga (Da (Ia (v:=.agg (List.toArray cs)) (Za (l:=cs) aZ oZ O hl (hF.cellsAll 1 O)) ?_)));refine Ta (Y5 x S _ cs (hF.rep hR) hk (Nl (by simpa using hc0)) hsz) (Ma ZH O O) ?_;rintro _ w ⟨ct,rfl,hRt,hE⟩;have hlct:ct.length=4:=hRt.length.trans (Xc _);have hoct:=hRt.one_;have hXX:=RX.made (ids:=[b2,b1]) hF.same.size (λx hx=>hF.lt_ids (by grind)) hRt;have hF:=hF.ext hE;clear hE hRt;refine Gh 0 (l:=ct) (cs':=(List.toArray ct)) hF (by rw[hlct];exact oZ) O (v:=.agg (List.toArray ct)) O O (hoct) O (by rw[hlct];exact Nat.le_of_ble_eq_true O) (Gn (by rw[hlct];rfl)) ?_;intro w hF hE;have hXX:=hXX.store hE (by grind);refine Ca (Xa (Va (Ka (Ni O (l:=ct) O aZ oZ hlct (hF.cellsAll 0 O)) ?_)));have ho_:Ag x=true:=by simpa using hc0
 refine⟨_,O,?_,hF.same⟩;rw[Wd,ho_]
 ·exact hXX.done
theorem RP(x:Tree)(hsz:Db x<=1000000000)(S:Nat->Prop)(w0:World)(cs:List Value)(hR:Rep S w0 (Jb x) cs)(hk:Wp x)(hG:Gl w0):NewC 93 #[.agg cs.toArray] (Jb (Vt x)) w0:=by
 have hl:cs.length=4:=hR.length.trans (Xc x);have ho:=hR.one_;refine Ea func93 O ntmps93 Bb (Tb _) ?_;have hF:=FR.start w0 [];refine Da (Vn (v:=.agg (List.toArray cs)) (cs:=(List.toArray cs)) hF O O ?_);rintro b1 w hb1 hF -;refine Gc (cs:=#[J 0,I [],aQ,aQ]) hF sX O ?_;rintro b2 w hb2 hF -;refine Ca (Fa (Da (Ia (v:=.agg (List.toArray cs)) (Za (l:=cs) aZ oZ O hl (hF.cellsAll 1 O)) ?_)));refine Qa hF (I7 x hsz S _ cs (hF.rep hR) hk (hG.ext hF.same)) (Ma GI O O) ?_;intro w hF;refine Ba (Wi O) (Ca ?_);refine He O O (λhc0=>?_) (λhc0=>?_);refine Da (Ia (w':=w) (v:=.agg #[J 0,I [],aQ,aQ]) Ib ?_);refine Ke hF oZ O O Oi ?_;rintro w hF -;refine Ca (Xa (Va (Ka (Ni O (l:=[J 0,I [],aQ,aQ]) O aZ oZ O (hF.cellsAll 0 O)) ?_)));have ho_:Ag x=false:=by simpa using hc0
 refine⟨_,O,?_,hF.same⟩;rw[Vt,ho_];exact Jn _ _;refine Na (Ga (Da (Ia (v:=.agg (List.toArray cs)) (Za (l:=cs) aZ oZ O hl (hF.cellsAll 1 O)) ?_)));refine Ta (clone_c x S _ cs (hF.rep hR) hsz (by have:=keys_lt x (Nl (by simpa using hc0));omega)) (Ma NY O O) ?_;rintro _ w ⟨ct,rfl,hRt,hE⟩;have hlct:ct.length=4:=hRt.length.trans (Xc _);have hoct:=hRt.one_;have hXX:=RX.made (ids:=[b2,b1]) hF.same.size (λx hx=>hF.lt_ids (by grind)) hRt;have hF:=hF.ext hE;clear hE hRt;refine Gh 0 (l:=ct) (cs':=(List.toArray ct)) hF (by rw[hlct];exact oZ) O (v:=.agg (List.toArray ct)) O O (hoct) O (by rw[hlct];exact Nat.le_of_ble_eq_true O) (Gn (by rw[hlct];rfl)) ?_;intro w hF hE;have hXX:=hXX.store hE (by grind);refine Ca (Xa (Va (Ka (Ni O (l:=ct) O aZ oZ hlct (hF.cellsAll 0 O)) ?_)));have ho_:Ag x=true:=by simpa using hc0
 refine⟨_,O,?_,hF.same⟩;rw[Vt,ho_]
 ·exact hXX.done
theorem IN(x y:Tree)(hsx:Db x<=1000000000)(hsy:Db y<=1000000000)(S S':Nat->Prop)(w0:World)(cs ct:List Value)(hR:Rep S w0 (Jb x) cs)(hR':Rep S' w0 (Jb y) ct)(hk:Wp x)(hk':Wp y)(hG:Gl w0):Calls prog 51 #[.agg cs.toArray,.agg ct.toArray] w0 (Oc λv w'=>v=J (If x y)/\Same [] w0 w'):=by
 have hl:cs.length=4:=hR.length.trans (Xc x);have ho:=hR.one_;have hl':ct.length=4:=hR'.length.trans (Xc y);have ho':=hR'.one_;refine Ea func51 O ntmps51 Bb (Nc _ _) ?_;have hF:=FR.start w0 [];refine Da (Vn (v:=.agg (List.toArray cs)) (cs:=(List.toArray cs)) hF O O ?_);rintro b1 w hb1 hF -;refine Vn (v:=.agg (List.toArray ct)) (cs:=(List.toArray ct)) hF O O ?_;rintro b2 w hb2 hF -;refine Ba (Gb O) (Ca (Fa ?_));refine Be (zs:=.of []) (.free 0 (.free 2 (.act 1 (.act 3 (.free 4 (.free 5 .nil)))))) hF ?_;intro w hF;refine Ab O (v:=.agg (List.toArray cs)) (λw hC=>Za (l:=cs) aZ oZ O hl (hC.cellsAll 1 O)) (Ab O (v:=.agg (List.toArray ct)) (λw hC=>Za (l:=ct) aZ oZ O hl' (hC.cellsAll 0 O)) ?_);refine Vd hF (I7 x hsx S _ cs (hF.rep hR) hk (hG.ext hF.same)) O (Ma GI O O) ?_;intro w hF;refine⟨hF,?_⟩;refine Vd hF (I7 y hsy S' _ ct (hF.rep hR') hk' (hG.ext hF.same)) O (Ma GI O O) ?_;intro w hF;refine⟨hF,?_⟩;refine Hb O (Kb O) (Hb O (Kb O) (d_nil (Ga (Fa (Sa (Da (Ba (Sc O) (Ba (Sc O) ?_))))))));refine Je (d:=13) O (λhg0=>?_) (λhg0=>?_);refine Ba (Sc O) (Ba (Fc O O) (Ba (Kb O) (Ca ?_)));refine He O O (λhc0=>?_) (λhc0=>?_);refine Fa (Be (zs:=.of []) (.free 0 (.free 2 (cQ [1,3,4] (.free 5 .nil)))) hF ?_);intro w hF;refine Ab O (v:=.agg (List.toArray cs)) (λw hC=>Za (l:=cs) aZ oZ O hl (hC.cellsAll 1 O)) (Ab O (v:=.agg (List.toArray ct)) (λw hC=>Za (l:=ct) aZ oZ O hl' (hC.cellsAll 0 O)) ?_);refine Cd O (Y5 x S _ cs (hF.rep hR) hk (Nl (by simp_all)) hsx) (Ma ZH O O) ?_;rintro _ w ⟨cx,rfl,hRt,hE⟩;have hlcx:cx.length=4:=hRt.length.trans (Xc _);have hocx:=hRt.one_;have hXX:=RX.made (ids:=[]) hF.same.size (λx hx=>hF.lt_ids (by grind)) hRt;have hF:=hF.ext hE;clear hE hRt;refine⟨hF,?_⟩;refine Cd O (Y5 y S' _ ct (hF.rep hR') hk' (Nl (by simp_all)) hsy) (Ma ZH O O) ?_
 rintro _ w ⟨cy,rfl,hRt,hE⟩;have hlcy:cy.length=4:=hRt.length.trans (Xc _);have hocy:=hRt.one_;have hYX:=RX.made (ids:=[]) hF.same.size (λx hx=>hF.lt_ids (by grind)) hRt;have hXX:=hXX.ext hE;have hF:=hF.ext hE;clear hE hRt;refine⟨hF,?_⟩;refine Cd O (order_c (sortT x) (sortT y) _ _ _ cx cy hXX.rep hYX.rep (QF x hk) (QF y hk') (hG.ext hF.same)) (Ua en_82 O O O) ?_;rintro _ w ⟨rfl,hE⟩;have hF:=hF.ext hE;have hXX:=hXX.ext hE;have hYX:=hYX.ext hE;refine⟨hF,?_⟩;refine Hb O (Gb O) (d_nil (Ga ?_));refine Lc (v:=J (Al (sortT x) (sortT y))) O O ⟨congrArg (Value.int .i64) ?_,hF.same⟩;unfold If;simp_all;refine Da (Ba (Sc O) (Ba (Kb O) (Ca ?_)));refine He O O (λhc1=>?_) (λhc1=>?_);refine Da (Ba (Gb O) (Ca ?_));refine Lc (v:=J 1) O O ⟨congrArg (Value.int .i64) ?_,hF.same⟩;unfold If;simp_all;refine Da (Ba (Sc O) (Ba (Kb O) (Ca ?_)));refine He O O (λhc2=>?_) (λhc2=>?_);refine Da (Ba (Gb O) (Ca ?_));refine Lc (v:=J ((-1))) O O ⟨congrArg (Value.int .i64) ?_,hF.same⟩;unfold If;simp_all;refine Na (Wa (Ga (Da (Ba (Gb O) (Ca ?_)))));refine Lc (v:=J 0) O O ⟨congrArg (Value.int .i64) ?_,hF.same⟩;unfold If;simp_all;refine Ha (Ba (Pc O O) (Ba (Kb O) (Ca (Te O (Da (Ba (Sc O) (Ba (Kb O) (Ca ?_))))))));refine He O O (λhc1=>?_) (λhc1=>?_);refine Da (Ba (Gb O) (Ca ?_));refine Lc (v:=J 1) O O ⟨congrArg (Value.int .i64) ?_,hF.same⟩;unfold If;simp_all;refine Da (Ba (Sc O) (Ba (Kb O) (Ca ?_)));refine He O O (λhc2=>?_) (λhc2=>?_);refine Da (Ba (Gb O) (Ca ?_));refine Lc (v:=J ((-1))) O O ⟨congrArg (Value.int .i64) ?_,hF.same⟩;unfold If;simp_all;refine Na (Wa (Ga (Da (Ba (Gb O) (Ca ?_)))));refine Lc (v:=J 0) O O ⟨congrArg (Value.int .i64) ?_,hF.same⟩;unfold If;simp_all
end Go.Scarf
