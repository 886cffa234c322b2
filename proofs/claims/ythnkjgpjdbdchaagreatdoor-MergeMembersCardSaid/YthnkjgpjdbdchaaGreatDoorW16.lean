/- A part of the proof. -/
import Derived.Test.YthnkjgpjdbdchaaGreatDoorW10
import Derived.Test.YthnkjgpjdbdchaaGreatDoorIter
set_option linter.all false
set_option maxHeartbeats 8000000
set_option maxRecDepth 10000
namespace Go.Scarf
open Go.RowKit Go.Proofs Go.Proofs.Tryz
mutual
def Bp:Tree->Nat|.node _ _ ks xs=>ks.length+Oo xs
def Oo:List Tree->Nat|[]=>0|x::xs=>Bp x+Oo xs
end
theorem T_:∀{xs:List Tree}{x:Tree},x∈xs->Bp x<=Oo xs
  | [],_,h=>absurd h Da
  | y :: ys, x, h => by
    rw[Oo];rcases oQ.1 h with rfl|h
    ·omega
    have:=T_ h;omega
theorem EM{xs:List Tree}{j:Nat}(h:j<xs.length):Gd (xs.take (j+1))=Gd (xs.take j)++[Ub xs[j]]:=by
  rw[iQ h,Yd,Yd,jQ];rfl
theorem JJ{xs:List Tree}{j:Nat}(h:j<xs.length):Gd (xs.drop j)=Ub xs[j]::Gd (xs.drop (j+1)):=by
  rw[List.drop_eq_getElem_cons h];rfl
theorem RepL.lits{S S':Nat->Prop}{w w':World}:∀{ks:List Str}{cs:List Value},RepL S w (ks.map Zo) cs->RepL S' w' (ks.map Zo) cs
  | [],cs,h=>by have:=RepL.nil_inv h;subst this;exact RepL.nil_mk
  | k :: ks, cs, h => by
    obtain⟨c1,c2,rfl,h1,h2⟩:=RepL.cons_inv h;obtain⟨rfl,h3⟩:=Rep.lit_inv h1;exact RepL.cons_mk (Rep.lit_mk h3) (RepL.lits h2)
def Lie(w:World)(A:Option Addr)(n:Nat)(es:List Value):Prop:=n≠0->∃ad,A=some ad/\∀j (hj:j<es.length),w.cell? (ad.add j)=some es[j]
theorem Lie.ext{w w':World}{A:Option Addr}{n:Nat}{es:List Value}(h:Lie w A n es)(hs:Same [] w w'):Lie w' A n es:=λhn=>by
  obtain⟨ad,hA,hc⟩:=h hn;exact⟨ad,hA,λj hj=>((FR.start w []).ext hs).cells0 hc j hj⟩
def XH(e m n:Nat)(es:List Value)(w0:World)(v:Value)(w':World):Prop :=
  ∃A c sb,v=.slice A n c/\SlB e m A n c es sb/\(∀p∈sb,w'.heap[p.1]? = some p.2/\w0.heap.size<=p.1)/\Same [] w0 w'
theorem Rep.slice_open{S:Nat->Prop}{w:World}{ds:List D}{A:Option Addr}{n c m:Nat}(h:Rep S w (.slice ds) [.slice A n c])(hm:∀d∈ds,Oe d=m) :
    ∃es,RepL S w ds es/\es.length=n*m/\Lie w A n es:=by
  have hl:=h.slice_len;obtain⟨A',c',hA,_,_,hr⟩:=Rep.slice_inv h;simp only[List.cons.injEq,Value.slice.injEq,and_true]at hA;obtain⟨rfl,_,_⟩:=hA;have hsz:∀ds:List D,(∀d∈ds,Oe d=m)->Oe.sizeL ds=ds.length*m:=by
    intro ds
    induction ds with
    | nil=>intro _;simp[Oe.sizeL]
    | cons d ds ih=>intro h;rw[Oe.sizeL,h d Da,ih (λx hx=>h x (by simp[hx])),kQ,Nat.add_mul];omega
  by_cases hne:ds=[]
  ·subst hne
   exact⟨[],RepL.nil_mk,by simp[hl.1],λh=>absurd hl.1 (by simpa using h)⟩
  obtain⟨ad, rfl, es, hc, hr⟩ := hr hne;exact⟨es,hr,by rw[hr.length,hsz ds hm,hl.1],λ_=>⟨ad,O,λj hj=>(hc j hj).1⟩⟩
theorem U5(ks:List Str):∀d∈ks.map Zo,Oe d=1:=λd hd=>by obtain⟨k,_,rfl⟩:=nQ.1 hd;rfl
theorem ZN(xs:List Tree):∀d∈Gd xs,Oe d=4:=λd hd=>by rw[Yd]at hd;obtain⟨k,_,rfl⟩:=nQ.1 hd;exact Xc k
theorem FR.sbown{w0 w:World}{pre sb post:List (Nat × Obj)}(h:FR w0 [] (pre++(sb++post)) w):∀p∈sb,w.heap[p.1]? = some p.2/\w0.heap.size<=p.1:=λp hp=>by
  have:=h.own p (by simp[hp]);refine⟨this.1,?_⟩;rcases this.2 with h|h
  ·exact h
  cases h
theorem SlB.soft{e m n c:Nat}{A:Option Addr}{es:List Value}{sb:List (Nat × Obj)}{w:World}(h:SlB e m A n c es sb)(hb:∀p∈sb,w.heap[p.1]? = some p.2):∀p∈sb,PH w p.1:=λp hp=>by
  have h2:∃cur,p=(p.1,.cells cur e):=by
    rcases h.2 with ⟨-,-,rfl⟩|⟨g,cur,-,rfl,-⟩
    ·cases hp
    simp only[pQ]at hp;subst hp;exact⟨cur,rfl⟩
  obtain⟨cur,h2⟩:=h2;have:=hb p hp;rw[h2]at this;exact⟨cur,e,this⟩
theorem SlB.btw{e m n c:Nat}{A:Option Addr}{es:List Value}{sb:List (Nat × Obj)}{w w':World}{ds:List D}(h:SlB e m A n c es sb)(hb:∀p∈sb,w'.heap[p.1]? = some p.2/\w.heap.size<=p.1)(hr:RepL (Btw w w') w' ds es)(hn:ds.length=n):Rep (Btw w w') w' (.slice ds) [.slice A n c] :=
  h.repOf (λp hp=>⟨(hb p hp).1,(hb p hp).2,Oa (hb p hp).1,h.soft (λp hp=>(hb p hp).1) p hp⟩) hr hn
theorem K6{S:Nat->Prop}{w0 w w':World}{ks:List Str}{es:List Value}{v:Value}(h:XH 9 1 ks.length es w v w')(hr:RepL S w0 (ks.map Zo) es):∃A c,v=.slice A ks.length c/\Rep (Btw w w') w' (Ud ks) [.slice A ks.length c]/\Same [] w w':=by
  obtain⟨A,c,sb,rfl,hS,hb,hE⟩:=h;exact⟨A,c,O,hS.btw hb hr.lits Da,hE⟩
theorem F5(len:Nat)(A:Option Addr)(c:Nat)(es:List Value)(w0:World)(hel:es.length=len*1)(hcell:Lie w0 A len es)(ho:∀v∈es,one v=true)(hb:len<=8796093022208):Calls prog 69 #[.slice A len c] w0 (Be λv w'=>XH 9 1 len es w0 v w'):=by
 refine Ga func69 O ntmps69 Ib (Id _) ?_;have hF:=FR.start w0 [];refine Ia (Ca (Nk O) (Ea (Ja (Ia (Ca (Je O) (Ma (v:=.bool ((A).isNone)) (AA cX O O) (Ea ?_)))))));refine Jg O O (λhc0=>?_) (λhc0=>?_);have hA:A=none:=by simpa using hc0
 refine Ia (Ca (Nk O) (Ea ?_));refine Rd (v:=.slice _ _ _) O O ?_;have h0:len=0:=by rcases Nat.eq_zero_or_pos len with h|h;exact h;obtain⟨ad,hh,_⟩:=hcell tX;rw[hA]at hh;cases hh
 have hes:es=[]:=List.eq_nil_of_length_eq_zero (by rw[hel,h0,Nat.zero_mul]);subst hes;exact⟨none,0,[],by rw[h0],by rw[h0];exact SlB.nil _ _,by simp,hF.same⟩;refine Va (Ha (Ia ?_));refine Bi 0 hF (Qz cX vZ) ?_;rintro b1 w hb1 hF -;have hS0:SlB 9 1 (some ⟨b1,0,none⟩) 0 0 [] [(b1,.cells #[] 9)]:=⟨by simp,.inr ⟨b1,#[],rfl,rfl,gQ _,Nat.zero_le _,by simp,by simp⟩⟩;refine Ca (Je O) ?_;refine F3 [] [] (news:=es) (len':=0+len) (ys:=[]++es) Hq hF hS0 rfl rfl (by rw[hel]) (λhk=>by obtain⟨ad,hA,hc⟩:=hcell hk;exact⟨ad,hA,Xb (hF.cells0 hc)⟩) (Qy ho) (by simp only[maxLen];omega) (rfl) (rfl) tX ?_;intro A0 c0 a_0 w hS0_a hF hE hnew;refine Ca (Nk O) (Ea ?_);refine Rd (v:=.slice _ _ _) O O ?_;simp only[Nat.zero_add,List.nil_append]at *;exact⟨_,_,_,O,by assumption,hF.sbown (pre:=[]) (post:=[]),hF.same⟩
theorem WW(len:Nat)(A:Option Addr)(c:Nat)(es:List Value)(w0:World)(hel:es.length=len*4)(hcell:Lie w0 A len es)(ho:∀v∈es,one v=true)(hb:len<=1000000000):Calls prog 70 #[.slice A len c] w0 (Be λv w'=>XH 25 4 len es w0 v w'):=by
 refine Ga func70 O ntmps70 Ib (Id _) ?_;have hF:=FR.start w0 [];refine Ia (Ca (Nk O) (Ea (Ja (Ia (Ca (Je O) (Ma (v:=.bool ((A).isNone)) (AA dX O O) (Ea ?_)))))));refine Jg O O (λhc0=>?_) (λhc0=>?_);have hA:A=none:=by simpa using hc0
 refine Ia (Ca (Nk O) (Ea ?_));refine Rd (v:=.slice _ _ _) O O ?_;have h0:len=0:=by rcases Nat.eq_zero_or_pos len with h|h;exact h;obtain⟨ad,hh,_⟩:=hcell tX;rw[hA]at hh;cases hh
 have hes:es=[]:=List.eq_nil_of_length_eq_zero (by rw[hel,h0,Nat.zero_mul]);subst hes;exact⟨none,0,[],by rw[h0],by rw[h0];exact SlB.nil _ _,by simp,hF.same⟩;refine Va (Ha (Ia ?_));refine Bi 0 hF (Qz dX oZ) ?_;rintro b1 w hb1 hF -;have hS0:SlB 25 4 (some ⟨b1,0,none⟩) 0 0 [] [(b1,.cells #[] 25)]:=⟨by simp,.inr ⟨b1,#[],rfl,rfl,gQ _,Nat.zero_le _,by simp,by simp⟩⟩;refine Ca (Je O) ?_;refine F3 [] [] (news:=es) (len':=0+len) (ys:=[]++es) Ar hF hS0 rfl rfl (by rw[hel]) (λhk=>by obtain⟨ad,hA,hc⟩:=hcell hk;exact⟨ad,hA,Xb (hF.cells0 hc)⟩) (Qy ho) (by simp only[maxLen];omega) (rfl) (rfl) tX ?_;intro A0 c0 a_0 w hS0_a hF hE hnew;refine Ca (Nk O) (Ea ?_);refine Rd (v:=.slice _ _ _) O O ?_;simp only[Nat.zero_add,List.nil_append]at *;exact⟨_,_,_,O,by assumption,hF.sbown (pre:=[]) (post:=[]),hF.same⟩
def NewC(F:Nat)(args:Array Value)(d:D)(w0:World):Prop:=Calls prog F args w0 (Be λv w'=>∃ct:List Value,v=.agg ct.toArray/\Rep (Btw w0 w') w' d ct/\Same [] w0 w')
def WP(x:Tree):Prop:=∀S w0 cs,Rep S w0 (Ub x) cs->Mb x<=1000000000->(Bp x<=8796093022208)->NewC 39 #[.agg cs.toArray] (Ub x) w0
theorem JP(k:Int)(t:Str)(ks:List Str)(xs:List Tree)(ih:∀x,x∈xs->WP x):WP (.node k t ks xs):=by
 intro S w0 cs hR hsz hky;rw[Mb]at hsz;rw[Bp]at hky;have hxn:=Uh xs;obtain⟨A,c,B,e,rfl,hk,ht,hK,hX⟩:=hR.tree_inv;obtain⟨eK,hrK,hKl,hKc⟩:=hK.slice_open (U5 ks);obtain⟨eX,hrX,hXl,hXc⟩:=hX.slice_open (ZN xs);refine Ga func39 O ntmps39 Ib (Id _) ?_;have hF:=FR.start w0 [];refine Ia (Bf hF O ?_);rintro b1 w hb1 hF -;refine Td (cs:=#[J 0,I [],aQ,aQ]) hF mX O ?_;rintro b2 w hb2 hF -;refine Ea (Ja ?_);refine Xg (zs:=.of [9,7]) (bQ [0,1,3,4] (.act 2 (.free 6 (.act 5 (.act 7 (.free 8 (.act 9 .nil))))))) hF ?_;intro w hF;refine Cb O (Bc Ff O) (Wj O (Xf wQ O C0 1 O O) (Cb O (Bc Gc O) (Wj O (Xf xQ O C0 1 O O) ?_)));refine Qb O (F5 ks.length A c eK _ hKl (Lie.ext hKc hF.same) hrK.one_ tX) (Ra en_69 O O) ?_;rintro _ w hcl;obtain⟨A1,c1,rfl,hK1,hE⟩:=K6 hcl hrK;have hKX:=RX.made (ids:=[b2,b1]) hF.same.size (λx hx=>hF.lt_ids (by grind)) hK1;have hF:=hF.ext hE;clear hE hcl hK1;refine⟨hF,?_⟩;refine Cb O (Bc Ff O) (Qb O (WW xs.length B e eX _ hXl (Lie.ext hXc hF.same) hrX.one_ tX) (Ra en_70 O O) ?_);rintro _ w ⟨A2,c2,sb2,rfl,hS2,hh2,hE⟩;have hKX:=hKX.step (ids':=[b2,b1]++sb2.map (·.1)) hE Da (λx hx=>by rcases mQ.1 hx with hx|hx;exact .inl hx;obtain⟨p,hp,rfl⟩:=nQ.1 hx;exact .inr (hh2 p hp).2);have hF:=hF.extseg hE hh2 hS2.pw;refine⟨hF.mid 0 2,?_⟩;refine AV (.slice _ _ _) O hF lZ O O Yt.app D4 ?_;intro w hF hE;have hKX:=hKX.store hE (by grind);refine Cb O (Bc Gc O) (AV (.slice _ _ _) O hF mZ O O Yt.app B8 ?_);intro w hF hE;have hKX:=hKX.store hE (by grind);refine Hc (Ha (Ja (Ia (Ca (Bc Gc O) (Sc (Xf xQ O hF.F 1 O O) (Ca (Tf dX O) (Ca (Vb O) (Ea (Za ?_)))))))));refine Fd (λμ σ w=>∃(j:Nat),∃(dn:List Value),∃(rs:List Value),∃(sb:List (Nat × Obj)),μ=xs.length-j/\(j<=xs.length)/\(SlB 25 4 A2 xs.length c2 (dn++rs) sb)/\(dn.length=j*4)/\(RepL S w0 (Gd (xs.drop j)) rs)/\(RX w0 ([b2,b1]++sb.map (·.1)) w (Gd (xs.take j)) dn)/\(RX w0 ([b2,b1]++sb.map (·.1)) w [Ud ks] [.slice A1 ks.length c1])/\AllEq σ [(1,V b1),(2,V b2),(14,.slice A2 xs.length c2),(15,J ((xs.length:Nat))),(16,J ((j:Int)))]/\FR w0 [] ([(b2,.cells #[J 0,I [],aQ,aQ] 25),(b1,.cells #[J k,I t,.slice A1 ks.length c1,.slice A2 xs.length c2] 25)]++(sb++[])) w) _ ⟨0,[],eX,sb2,O,(Nat.zero_le _),(hS2),(O),(by simpa using hrX),(RX.nil),(hKX),Jw,hF⟩ ?_
 rintro μ σ w ⟨j,dn,rs,sb,rfl,hj,hS,hd,hrr,hDX,hKX,hs,hF⟩;refine Cg.slots hs ?_;clear hs;intro σ;refine Ia (Ca (Hn O O) (Ea (Ja ?_)));refine Rc O O (λhc0=>?_) (λhc0=>?_);refine Va (Ha (Ja (Za (Ia (Ca (Vb O) ?_)))));have hjx:j<xs.length:=by omega
 rw[JJ hjx]at hrr;obtain⟨c1_,c2_,rfl,hr1,hr2⟩:=RepL.cons_inv hrr;have hl1:c1_.length=4:=hr1.length.trans (Xc _);have ho1:=hr1.one_;obtain⟨ad0,hA0,hk0⟩:=hS.elemMid (pre:=[(b2,.cells #[J 0,I [],aQ,aQ] 25),(b1,.cells #[J k,I t,.slice A1 ks.length c1,.slice A2 xs.length c2] 25)]) (post:=[]) (pr:=dn) (mid:=c1_) (po:=c2_) hF (j:=j) hd hl1 (hjx);refine Ma (v:=.pointer (some (ad0.add (j*4)))) (Ta (i:=(j:Int)) Ae O hA0 O tX tX) (Ma (v:=.agg (List.toArray c1_)) (Ya (l:=c1_) zQ oZ O hl1 hk0) ?_);refine Td (cs:=#[J 0,I [],aQ,aQ]) hF mX O ?_;intro b3 w hb3 hF hE;have hKX:=hKX.alloc hE hb3;have hDX:=hDX.alloc hE hb3;refine Ca (Yc O) ?_;refine Mg 0 (l:=c1_) (cs':=(List.toArray c1_)) hF (by rw[hl1];exact oZ) O (v:=.agg (List.toArray c1_)) O O (ho1) O (by rw[hl1];exact Nat.le_of_ble_eq_true O) (Am (by rw[hl1];rfl)) ?_;intro w hF hE;have hKX:=hKX.store hE (by grind);have hDX:=hDX.store hE (by grind);refine Ea (Od (.of [6]) (bQ [0,1,2,3] (.act 4 (.free 5 (.act 6 .nil)))) hF ?_);intro w hF hE;have hKX:=hKX.ext hE;have hDX:=hDX.ext hE;refine⟨λwq=>FR w0 [] [(b3,.cells (List.toArray c1_) 25),(b2,.cells #[J 0,I [],aQ,aQ] 25),(b1,.cells #[J k,I t,.slice A1 ks.length c1,.slice A2 xs.length c2] 25)] wq,hF.mid 0 3,?_⟩;refine Cb O (Bc Gc O) (Wj O (Xf xQ O C0 2 O O) (Cb O (Vb O) (Qa O (v:=.agg (List.toArray c1_)) (λw hC=>Ya (l:=c1_) zQ oZ O hl1 (hC.cellsAll 0 O)) ?_)));refine Qb O (ih xs[j] (eQ hjx) S _ c1_ (hF.rep hr1) (by have:=Yf (eQ hjx);omega) (by have:=T_ (eQ hjx);omega)) (Ra ES O O) ?_;rintro _ w ⟨ct,rfl,hRt,hE⟩;have hlt:ct.length=4:=hRt.length.trans (Xc _);have hot:=hRt.one_;have hYX:=RX.made (ids:=b3::([b2,b1]++sb.map (·.1))) hF.same.size (λx hx=>hF.lt_ids (by grind)) hRt;have hKX:=hKX.ext hE;have hDX:=(hDX.ext hE).append hYX;have hF:=hF.ext hE
 clear hE hYX;refine⟨hF.mid 0 3,?_⟩;obtain⟨ad1,hA1,hk1⟩:=hS.elemMid (pre:=[(b3,.cells (List.toArray c1_) 25),(b2,.cells #[J 0,I [],aQ,aQ] 25),(b1,.cells #[J k,I t,.slice A1 ks.length c1,.slice A2 xs.length c2] 25)]) (post:=[]) (pr:=dn) (mid:=c1_) (po:=c2_) hF (j:=j) hd hl1 (hjx);refine Qa O (v:=.pointer (some (ad1.add (j*4)))) (λw hC=>Ta (i:=(j:Int)) Ae O hA1 O tX tX) (CW [(b3,.cells (List.toArray c1_) 25),(b2,.cells #[J 0,I [],aQ,aQ] 25),(b1,.cells #[J k,I t,.slice A1 ks.length c1,.slice A2 xs.length c2] 25)] [] O hF (pr:=dn) (mid:=c1_) (po:=c2_) (new:=ct) (j:=j) hS hd hl1 hA1 (hjx) oZ O (v:=.agg (List.toArray ct)) O O hlt hot ?_);intro i_2 w hS2_i hF hE hids;have hKX:=hKX.store hE (by grind);have hDX:=hDX.store hE (by grind);refine Hc (Fb (Ha (Fa (Ca (Bo O O) (Ca (Vb O) (Gb ?_))))));refine Cc ⟨_,?_,j+1,dn++ct,c2_,i_2,O,(hjx),(by simpa using hS2_i),(by rw[dQ,hd,hlt];omega),(hr2),(by rw[EM hjx,hids];exact hDX.sub (λx hx=>List.mem_cons_of_mem _ hx)),(by rw[hids];exact hKX.sub (λx hx=>List.mem_cons_of_mem _ hx)),Jw,hF.drop 1⟩;omega;refine Wc (Vc O ?_);refine Ha (Ia (Sc (Of zQ oZ O hF.F 1 O O) ?_));refine Pf hF oZ O O Yh.app ?_;intro w hF hE;have hKX:=hKX.store hE (by grind);have hDX:=hDX.store hE (by grind);refine Ea (Ec (Dc (Ua (Ug O (l:=[J k,I t,.slice A1 ks.length c1,.slice A2 xs.length c2]) O zQ oZ O (hF.cellsAll 0 O)) ?_)));have ej:j=xs.length:=by omega
 subst ej;rw[List.take_length]at hDX;have e0:rs=[]:=by rw[List.drop_length]at hrr;exact RepL.nil_inv hrr
 subst e0;rw[qQ]at hS;refine⟨_,O,?_,hF.same⟩
 ·exact Rep.tree_mk hk ht hKX.done (hS.rep (pre:=[_,_]) (post:=[]) hF hDX Da)
theorem TH(x:Tree):WP x:=Tree.ind JP x
mutual
def sortT:Tree->Tree
  | .node k t ks xs=>if k=6 then .node k t (Yj ks) ((Yj ks).map λkey=>(Jd ks (Kg xs) key).getD (.node 0 [] [] [])) else .node k t [] (Kg xs)
def Kg:List Tree->List Tree
  | []=>[]
  | x::xs=>sortT x::Kg xs
end
theorem Zk:∀xs:List Tree,Kg xs=xs.map sortT
  | []=>rfl
  | x::xs=>by rw[Kg,Zk xs,List.map_cons]
theorem K0{key:Str}{y:Tree}:∀{ks:List Str}{xs:List Tree},Jd ks xs key=some y->Jd ks (Kg xs) key=some (sortT y)
  | [],xs,h=>by cases xs <;> cases h
  | k::ks,[],h=>by cases h
  | k :: ks, x :: xs, h => by
    rw[Kg,Jd];rw[Jd]at h;by_cases he:k=key
    ·rw[if_pos he]at h ⊢;injection h with h;rw[h]
    rw[if_neg he]at h ⊢;exact K0 h
theorem CO{S:Nat->Prop}{w:World}{key:Str}{ks:List Str}{xs:List Tree}{l:MapL}(hk:l.map (·.1)=ks)(hm:MapRep S w xs l)(hin:key∈ks) :
    ∃(cs:List Value)(y:Tree),Bh l key=some (.agg cs.toArray)/\Jd ks xs key=some y/\y∈xs/\Rep S w (Ub y) cs:=by
  rcases Iw key hk hm with ⟨h,-⟩|h
  ·exfalso
   rw[<-hk]at hin;obtain⟨x,hx,hxe⟩:=nQ.1 hin;unfold Bh at h;rw[Option.map_eq_none_iff,List.find?_eq_none]at h;exact h x hx (by simpa using hxe)
  exact h
theorem MapRep.back{S:Nat->Prop}{w0 w:World}{xs:List Tree}{l:MapL}(h:MapRep (Old S w0) w xs l)(hs:Same [] w0 w):MapRep (Old S w0) w0 xs l:=λi hi=>by
  obtain⟨cs,h1,h2,h3⟩:=h i hi;exact⟨cs,h1,h2,h3.back hs⟩
def LZ(w1:World)(bk m:Nat)(l:MapL):Prop:=∃W:World,w1=W.alloc (.cells #[.map (some m)] 69)/\bk=W.heap.size/\W.heap[m]? = some (Rg l)
theorem keys_c(m:Nat)(l:MapL)(w:World)(hm:w.heap[m]? = some (Rg l)):Calls prog 57 #[.map (some m)] w (Be λv w'=>∃bk,v=.func (.func 94) #[] #[V bk]/\LZ w' bk m l/\Same [] w w') :=
  (callsIn_wide.1 (maps_Keys_57 (some m) w)).mono λ_ _ ⟨he,hw⟩=>⟨_,he,w.heap.size,rfl,⟨w,hw,rfl,hm⟩,by rw[hw];exact Same.alloc w _⟩
theorem SH(bk m:Nat)(l:MapL)(ks:List Str)(w:World)(h:LZ w bk m l)(hk:l.map (·.1)=ks)(hn:ks.Nodup)(hb:ks.length<=1000000000)(hs:∀s∈ks,s.length<=140737488355328) :
    Calls prog 56 #[.func (.func 94) #[] #[V bk]] w (Be λv w'=>∃A c,v=.slice A ks.length c/\Rep (Btw w w') w' (Ud (Yj ks)) [.slice A ks.length c]/\Same [] w w'):=by
  obtain⟨W,rfl,rfl,hm⟩:=h;have hl:l.length=ks.length:=by rw[<-hk,rQ]
  obtain⟨D0,hown,hperm,hsz⟩:=QP (P:=prog) kX hm (by rw[hk];exact hn) (λx hx=>by have:=hs x.1 (by rw[<-hk];exact List.mem_map_of_mem hx);simp only[maxLen];omega) (by simp only[maxLen];omega);refine (callsIn_wide.1 (slices_Sorted_keys_56_57 m l.length D0 _ W hown (by rw[hsz];simp only[maxLen];omega) (by rw[hsz];omega))).mono ?_;rintro e w' ⟨v,ss,rfl,hp,hrow,-,hbel⟩;have hpk:ss.Perm ks:=by rw[<-hk];exact hp.trans hperm
  have e1:(ss.mergeSort λx y=>decide (x<=y))=Yj ks:=EC hpk;rw[e1]at hrow;have e2:ss.length=(Yj ks).length:=by rw[Aj];exact hpk.length_eq
  rw[e2]at hrow;obtain⟨A,c,rfl,hr⟩:=row_strs (S:=Btw (W.alloc (.cells #[.map (some m)] 69)) w') 9 hrow (λg h1 h2 h3=>⟨h1,h2,h3⟩) (λs hs'=>by have:=hs s (Lr.1 hs');omega);rw[Aj]at hr;exact⟨_,O,A,c,by rw[Aj],hr,.of_below hbel⟩
def JH(x:Tree):Prop:=∀S w0 cs,Rep S w0 (Ub x) cs->H3 x->Pd nodeB x=true->Mb x<=1000000000->NewC 30 #[.agg cs.toArray] (Ub (sortT x)) w0
theorem BK{xs:List Tree}{j:Nat}(h:j<xs.length):Gd (Kg (xs.take (j+1)))=Gd (Kg (xs.take j))++[Ub (sortT xs[j])]:=by
  rw[iQ h,Yd,Yd,Zk,Zk,jQ,jQ];rfl
def D6(ks:List Str)(xs:List Tree):List Tree:=(Yj ks).map λkey=>(Jd ks (Kg xs) key).getD (.node 0 [] [] [])
theorem G_(ks:List Str)(xs:List Tree):(D6 ks xs).length=ks.length:=by rw[D6,rQ,Aj]
theorem IW{ks:List Str}{xs:List Tree}{j:Nat}{y:Tree}(h:j<(Yj ks).length)(hy:Jd ks xs (Yj ks)[j]=some y):Gd ((D6 ks xs).take (j+1))=Gd ((D6 ks xs).take j)++[Ub (sortT y)]:=by
  have h':j<(D6 ks xs).length:=by rw[G_,<-Aj];exact h
  rw[iQ h',Yd,Yd,jQ];simp only[D6,List.getElem_map,K0 hy,Option.getD_some];rfl
theorem FL(k:Int)(t:Str)(ks:List Str)(xs:List Tree)(ih:∀x,x∈xs->JH x):JH (.node k t ks xs):=by
 intro S w0 cs hR hok hnx hsz;have hR:=hR.old;rw[H3]at hok;rw[Mb]at hsz;have hxn:=Uh xs;have hnx:=De hnx;obtain⟨A,c,B,e,rfl,hk,ht,hK,hX⟩:=hR.tree_inv;have hXl:=hX.slice_len;have hKn:k=6->ks.length=xs.length:=λe=>(Lo (e▸hnx.1)).2;refine Ga func30 O ntmps30 Ib (Id _) ?_;have hF:=FR.start w0 [];refine Ia (Bf hF O ?_);rintro b1 w hb1 hF -;refine Td (cs:=#[J 0,I [],aQ,aQ]) hF mX O ?_;rintro b2 w hb2 hF -;refine Lc (Ca (Bc Wf O) (Sc (Zq aZ O hF.F 1 O O) (Ca (Bc Fi O) (Sc (Zy fZ O hF.F 1 O O) ?_))));refine Ma (w':=w) (v:=.agg #[J k,I t,aQ,aQ]) Ob (Qg hF mX oZ O ?_);rintro b3 w hb3 hF -;refine Ea (Ja (Ia (Ca (Bc Wf O) (Sc (Zq aZ O hF.F 2 O O) (Ca (Bw O O) (Ea ?_))))));refine Rc O O (λhc0=>?_) (λhc0=>?_);refine Ja (Ia (Ca (Bc Gc O) (Sc (Xf xQ O hF.F 2 O O) (Ca (Tf dX O) (Ca (Vb O) (Ea (Za ?_)))))));refine Fd (λμ σ w=>∃(j:Nat),∃(A1:Option Addr),∃(c1:Nat),∃(sb:List (Nat × Obj)),∃(cs1:List Value),μ=xs.length-j/\(j<=xs.length)/\(SlB 25 4 A1 j c1 cs1 sb)/\(RX w0 ([b3,b2,b1]++sb.map (·.1)) w (Gd (Kg (xs.take j))) cs1)/\AllEq σ [(2,V b2),(3,V b3),(18,.slice B xs.length e),(19,J ((xs.length:Nat))),(20,J ((j:Int)))]/\FR w0 [] ([(b3,.cells #[J k,I t,aQ,.slice A1 j c1] 25),(b2,.cells #[J 0,I [],aQ,aQ] 25),(b1,.cells #[J k,I t,.slice A ks.length c,.slice B xs.length e] 25)]++(sb++[])) w) _ ⟨0,none,0,[],[],O,(Nat.zero_le _),(SlB.nil _ _),(RX.nil),Jw,hF⟩ ?_;rintro μ σ w ⟨j,A1,c1,sb,cs1,rfl,hj,hS,hDX,hs,hF⟩;refine Cg.slots hs ?_;clear hs;intro σ;refine Ia (Ca (Hn O O) (Ea (Ja ?_)));refine Rc O O (λhc1=>?_) (λhc1=>?_);refine Va (Ha (Ja (Za (Ia ?_))));obtain⟨ad0,cs0,hA0,hl0,hk0,hx0⟩:=hX.tree_elem (i:=j) tX;have ho0:=hx0.one_;refine Ma (v:=.pointer (some (ad0.add (j*4)))) (Ta (i:=(j:Int)) Ae O hA0 O tX tX) (Ma (v:=.agg (List.toArray cs0)) (Ya (l:=cs0) zQ oZ O hl0 (hF.cells0 hk0)) ?_)
 refine Kw (l:=cs0) hF mX (by rw[hl0];exact oZ) (by rw[hl0];rfl) (v:=.agg (List.toArray cs0)) O O (ho0) O ?_;intro b4 w hb4 hF hE;have hDX:=hDX.alloc hE hb4;refine Ea (Od (.of [7]) (bQ [0,1,2] (cQ [3,4,5] (.free 6 (.act 7 .nil)))) hF ?_);intro w hF hE;have hDX:=hDX.ext hE;refine⟨λwq=>FR w0 [] [(b4,.cells (List.toArray cs0) 25),(b3,.cells #[J k,I t,aQ,.slice A1 j c1] 25),(b2,.cells #[J 0,I [],aQ,aQ] 25),(b1,.cells #[J k,I t,.slice A ks.length c,.slice B xs.length e] 25)] wq,hF.mid 0 4,?_⟩;refine Cb O (Bc Gc O) (Wj O (Xf xQ O C0 1 O O) (Qa O (v:=.agg (List.toArray cs0)) (λw hC=>Ya (l:=cs0) zQ oZ O hl0 (hC.cellsAll 0 O)) ?_));refine Qb O (ih xs[j] (eQ tX) _ _ cs0 (hF.rep hx0) (Rx hok.2.2 _ (eQ tX)) (hnx.2 _ (eQ tX)) (by have:=Yf (List.getElem_mem (l:=xs) (n:=j) tX);omega)) (Ra en_30 O O) ?_;rintro _ w ⟨ct,rfl,hRt,hE⟩;have hlt:ct.length=4:=hRt.length.trans (Xc _);have hot:=hRt.one_;have hYX:=RX.made (ids:=[b4,b3,b2,b1]++sb.map (·.1)) hF.same.size (λx hx=>hF.lt_ids (by grind)) hRt;have hDX:=(hDX.ext hE).append hYX;have hF:=hF.ext hE;clear hE hYX;refine⟨hF.mid 0 4,?_⟩;refine Ie 1 O hF (Kz (l:=ct) dX oZ mX Pa Pa O hlt) ?_;intro b5 w hb5 hF hE;have hDX:=hDX.alloc hE hb5;refine⟨hF.mid 1 4,?_⟩;refine GJ (news:=ct) (len':=j+1) (ys:=cs1++ct) O Ar hF hS O O (by rw[hlt]) (λ_=>⟨_,O,Xb (hF.cellsAll 0 O)⟩) (Qy hot) (by simp only[maxLen];omega) (O) (O) tX ?_;intro A1 c1 i_1 w hS1_i hF hE hnew;have hDX:=hDX.app (l:=[b5,b4,b3,b2,b1]) hE hnew;refine⟨hF.mid 1 4,?_⟩;refine Cb O (Bc Gc O) (AV (.slice _ _ _) O hF mZ O O D4.app B8 ?_);intro w hF hE;have hDX:=hDX.store hE (by grind);refine Hc (Fb (Ha (Fa (Ca (Bo O O) (Ca (Vb O) (Gb ?_))))));refine Cc ⟨_,?_,j+1,A1,c1,i_1,cs1++ct,O,tX,(by assumption),(by rw[BK tX];exact hDX.sub (by grind)),Jw,hF.drop 2⟩
 omega;refine Wc (Vc O ?_);refine Ha (Ia (Sc (Of zQ oZ O hF.F 0 O O) ?_));refine Pf hF oZ O O Yt.app ?_;intro w hF hE;have hDX:=hDX.store hE (by grind);refine Ea (Ec (Dc (Ua (Ug O (l:=[J k,I t,aQ,.slice A1 j c1]) O zQ oZ O (hF.cellsAll 1 O)) ?_)));have ej:j=xs.length:=by omega
 subst ej;rw[List.take_length]at hDX;refine⟨_,O,?_,hF.same⟩;rw[sortT,if_neg hc0];exact Rep.tree_mk hk ht (Rep.nil_slice 0 tX none) (hS.rep (pre:=[_,_,_]) (post:=[]) hF hDX (by rw[El,Zk,rQ]));refine Va (Ha (Ia (Sc (Of zQ oZ O hF.F 2 O O) ?_)));have k6:k=6:=by simpa using hc0
 refine Db (Ty k t ks xs (Lo (k6▸hnx.1)).1 (Lo (k6▸hnx.1)).2 _ _ _ (hF.rep hR)) (Ra TR O O) ?_;rintro _ w ⟨m1,l1,rfl,hge,hm1,hk1,hr1,hE⟩;have hF:=hF.cons_ext hE hm1 hge;have hr1:=hr1.back hF.same;clear hE hm1 hge;refine Ca (C4) (Lc (Ca (Zt) ?_));refine Db (keys_c m1 l1 _ (hF.heap (i:=0) O)) (Ra en_57 O O) ?_;rintro _ w ⟨bk,rfl,hKA,hE⟩;have hF:=hF.ext hE;refine Db (SH bk m1 l1 ks _ hKA hk1 (Lo (k6▸hnx.1)).1 tX hok.2.1) (Ra en_56 O O) ?_;rintro _ w ⟨A2,c2,rfl,hK2,hE⟩;have hKX:=RX.made (ids:=[m1,b3,b2,b1]) hF.same.size (λx hx=>hF.lt_ids (by grind)) hK2;have hF:=hF.ext hE;clear hE hK2;refine Ca (Bc Ff O) (Xo (.slice _ _ _) hF lZ O O Yt D4 ?_);intro w hF hE;have hKX:=hKX.store hE (by grind);refine Ea (Ja (Ia (Ca (Bc Ff O) (Sc (Xf wQ O hF.F 1 O O) (Ca (Tf cX O) (Ca (Vb O) (Ea (Za ?_))))))));refine Fd (λμ σ w=>∃(j:Nat),∃(A1:Option Addr),∃(c1:Nat),∃(sb:List (Nat × Obj)),∃(cs1:List Value),μ=ks.length-j/\(j<=ks.length)/\(SlB 25 4 A1 j c1 cs1 sb)/\(RX w0 ([m1,b3,b2,b1]++sb.map (·.1)) w (Gd ((D6 ks xs).take j)) cs1)/\(RX w0 ([m1,b3,b2,b1]++sb.map (·.1)) w [Ud (Yj ks)] [.slice A2 ks.length c2])/\AllEq σ [(2,V b2),(3,V b3),(6,.map (some m1)),(40,.slice A2 ks.length c2),(41,J ((ks.length:Nat))),(42,J ((j:Int)))]/\FR w0 [] ([(m1,Rg (l1)),(b3,.cells #[J k,I t,.slice A2 ks.length c2,.slice A1 j c1] 25),(b2,.cells #[J 0,I [],aQ,aQ] 25),(b1,.cells #[J k,I t,.slice A ks.length c,.slice B xs.length e] 25)]++(sb++[])) w) _ ⟨0,none,0,[],[],O,(Nat.zero_le _),(SlB.nil _ _),(RX.nil),(hKX),AQ,hF⟩ ?_;rintro μ σ w ⟨j,A1,c1,sb,cs1,rfl,hj,hS,hDX,hKX,hs,hF⟩;refine Cg.slots hs ?_;clear hs;intro σ;refine Ia (Ca (Hn O O) (Ea (Ja ?_)));refine Rc O O (λhc2=>?_) (λhc2=>?_);refine Va (Ha (Ja (Za (Ia ?_))));obtain⟨ad2,hA2,hk2,hx2⟩:=hKX.rep.str_elem (i:=j) (by rw[Aj];omega);refine Ma (v:=.pointer (some (ad2.add (j*1)))) (Ta (i:=(j:Int)) Zm O hA2 O tX tX) ?_
 refine Ma (v:=I ((Yj ks)[j]'(by rw[Aj];omega))) (Pb fZ O hk2) ?_;refine Ca (Cn O) (Ea ?_);refine Od (.of [9]) (bQ [0,1,2,3,4] (cQ [5,6,7] (.free 8 (.act 9 .nil)))) hF ?_;intro w hF hE;have hDX:=hDX.ext hE;have hKX:=hKX.ext hE;refine⟨λwq=>FR w0 [] [(m1,Rg (l1)),(b3,.cells #[J k,I t,.slice A2 ks.length c2,.slice A1 j c1] 25),(b2,.cells #[J 0,I [],aQ,aQ] 25),(b1,.cells #[J k,I t,.slice A ks.length c,.slice B xs.length e] 25)] wq,hF.mid 0 4,?_⟩;refine Cb O (Bc Gc O) (Wj O (Xf xQ O C0 1 O O) (Cb O (Zt) (Cb O (Dh O) ?_)));obtain⟨cy,y,hlk,hlt_,hym,hry⟩:=CO hk1 hr1 (Lr.1 (List.getElem_mem (l:=Yj ks) (n:=j) (by rw[Aj];omega)));have hoy:=hry.one_;have hly:cy.length=4:=hry.length.trans (Xc _);refine Qa O (v:=.agg (List.toArray cy)) (λw hC=>Qu jX kX mX O O (hC.heap (i:=0) O) (by rw[hlk];rfl)) ?_;refine Qb O (ih y hym _ _ cy (hF.rep hry) (Rx hok.2.2 y hym) (hnx.2 y hym) (by have:=Yf hym;omega)) (Ra en_30 O O) ?_;rintro _ w ⟨ct,rfl,hRt,hE⟩;have hlt:ct.length=4:=hRt.length.trans (Xc _);have hot:=hRt.one_;have hYX:=RX.made (ids:=[m1,b3,b2,b1]++sb.map (·.1)) hF.same.size (λx hx=>hF.lt_ids (by grind)) hRt;have hDX:=(hDX.ext hE).append hYX;have hF:=hF.ext hE;have hKX:=hKX.ext hE;clear hE hYX;refine⟨hF.mid 0 4,?_⟩;refine Ie 1 O hF (Kz (l:=ct) dX oZ mX Pa Pa O hlt) ?_;intro b6 w hb6 hF hE;have hDX:=hDX.alloc hE hb6;have hKX:=hKX.alloc hE hb6;refine⟨hF.mid 1 4,?_⟩;refine GJ (news:=ct) (len':=j+1) (ys:=cs1++ct) O Ar hF hS O O (by rw[hlt]) (λ_=>⟨_,O,Xb (hF.cellsAll 0 O)⟩) (Qy hot) (by simp only[maxLen];omega) (O) (O) tX ?_;intro A3 c3 i_3 w hS3_i hF hE hnew;have hDX:=hDX.app (l:=[b6,m1,b3,b2,b1]) hE hnew;have hKX:=hKX.app (l:=[b6,m1,b3,b2,b1]) hE hnew;refine⟨hF.mid 1 4,?_⟩;refine Cb O (Bc Gc O) (AV (.slice _ _ _) O hF mZ O O D4.app B8 ?_);intro w hF hE
 have hDX:=hDX.store hE (by grind);have hKX:=hKX.store hE (by grind);refine Hc (Fb (Ha (Fa (Ca (Bo O O) (Ca (Vb O) (Gb ?_))))));refine Cc ⟨_,?_,j+1,A3,c3,i_3,cs1++ct,O,tX,(by assumption),(by rw[IW (by rw[Aj];omega) hlt_];exact hDX.sub (by grind)),(hKX.sub (by grind)),AQ,hF.drop 1⟩;omega;refine Wc (Vc O ?_);refine Ha (Ia (Sc (Of zQ oZ O hF.F 1 O O) ?_));refine Pf hF oZ O O D4.app ?_;intro w hF hE;have hDX:=hDX.store hE (by grind);have hKX:=hKX.store hE (by grind);refine Ea (Ec (Dc (Ua (Ug O (l:=[J k,I t,.slice A2 ks.length c2,.slice A1 j c1]) O zQ oZ O (hF.cellsAll 2 O)) ?_)));have ej:j=ks.length:=by omega
 subst ej;rw[List.take_of_length_le (by rw[G_];exact gQ _)]at hDX;refine⟨_,O,?_,hF.same⟩;rw[sortT,if_pos k6]
 ·exact Rep.tree_mk hk ht hKX.done (hS.rep (pre:=[_,_,_,_]) (post:=[]) hF hDX (by rw[El];exact G_ ks xs))
theorem CY(x:Tree):JH x:=Tree.ind FL x
def zeroT:Tree:=.node 0 [] [] []
theorem Qk(S:Nat->Prop)(w:World):Rep S w (Ub zeroT) [J 0,I [],aQ,aQ] :=
  Rep.tree_mk ⟨by omega,by omega⟩ Da (Rep.nil_slice 0 tX none) (Rep.nil_slice 0 tX none)
def Ei(x:Tree):Tree:=if Mf x then sortT x else zeroT
def L7(x:Tree):Tree:=if Mf x then x else zeroT
def Mu(x:Tree)(key:Str):Tree × Bool:=if Mf x=true/\x.kind=6 then match Jd x.keys x.items key with|some y=>(y,true)|none=>(zeroT,false) else (zeroT,false)
theorem NQ{k:Int}{t:Str}{ks:List Str}{xs:List Tree}(h:nodeB (.node k t ks xs)=true):ks.length<=xs.length:=by
  by_cases h6:k=6
  ·subst h6;have:=(Lo h).2;omega
  have:ks=[]:=by
    simp only[nodeB]at h;by_cases h5:k=5
    ·subst h5;simp at h;exact h.1
    rw[if_neg h5, if_neg h6]at h;cases ks with
    | nil=>rfl
    | cons a l=>simp at h
  subst this;simp
theorem WH:∀x:Tree,Pd nodeB x=true->Bp x+1<=Mb x:=λx=>Tree.ind (Q:=λx=>Pd nodeB x=true->Bp x+1<=Mb x) (λk t ks xs ih h=>by
  obtain⟨h1,h2⟩:=De h;have h3:=NQ h1;have h7:∀ys:List Tree,(∀y∈ys,y∈xs)->ys.length+Oo ys<=Kb ys:=by
    intro ys
    induction ys with
    | nil=>intro _;simp[Oo,Kb]
    | cons y ys ihy =>
      intro hm;have h5:=ihy (λz hz=>hm z (by simp[hz]));have h9:=ih y (hm y Da) (h2 y (hm y Da));simp only[Oo,Kb,kQ];omega
  have:=h7 xs (λ_ h=>h);rw[Bp,Mb];omega) x
theorem Sn{key:Str}{y:Tree}:∀{ks:List Str}{xs:List Tree},Jd ks xs key=some y->y∈xs
  | [],xs,h=>by cases xs <;> cases h
  | k::ks,[],h=>by cases h
  | k :: ks, x :: xs, h => by
    rw[Jd]at h;by_cases he:k=key
    ·rw[if_pos he]at h;injection h with h;simp[h]
    rw[if_neg he]at h;simp[Sn h]
theorem KS:∀{xs:List Tree},(∀x∈xs,H3 x)->HM xs
  | [],_=>by rw[HM];trivial
  | x::xs,h=>by rw[HM];exact⟨h x Da,KS (λy hy=>h y (by simp[hy]))⟩
theorem VW{x:Tree}(h:Mf x=true):Mb x<=4096:=by
  unfold Mf Hl at h;simp only[Bool.and_eq_true,decide_eq_true_eq]at h;exact h.1.1
theorem VU(x:Tree)(hsz:Mb x<=1000000000)(S:Nat->Prop)(w0:World)(cs:List Value)(hR:Rep S w0 (Ub x) cs)(hk:H3 x)(hG:Gl w0):NewC 11 #[.agg cs.toArray] (Ub (Ei x)) w0:=by
 have hl:cs.length=4:=hR.length.trans (Xc x);have ho:=hR.one_;refine Ga func11 O ntmps11 Ib (Id _) ?_;have hF:=FR.start w0 [];refine Ia (Js (v:=.agg (List.toArray cs)) (cs:=(List.toArray cs)) hF O O ?_);rintro b1 w hb1 hF -;refine Td (cs:=#[J 0,I [],aQ,aQ]) hF mX O ?_;rintro b2 w hb2 hF -;refine Ea (Ja (Ia (Ma (v:=.agg (List.toArray cs)) (Ya (l:=cs) zQ oZ O hl (hF.cellsAll 1 O)) ?_)));refine Hb hF (Uz x hsz S _ cs (hF.rep hR) hk (hG.ext hF.same)) (Ra NA O O) ?_;intro w hF;refine Ca (Fk O) (Ea ?_);refine Jg O O (λhc0=>?_) (λhc0=>?_);refine Ia (Ma (w':=w) (v:=.agg #[J 0,I [],aQ,aQ]) Ob ?_);refine Pf hF oZ O O Yh ?_;rintro w hF -;refine Ea (Ec (Dc (Ua (Ug O (l:=[J 0,I [],aQ,aQ]) O zQ oZ O (hF.cellsAll 0 O)) ?_)));have ho_:Mf x=false:=by simpa using hc0
 refine⟨_,O,?_,hF.same⟩;rw[Ei,ho_];exact Qk _ _;refine Va (Ha (Ia (Ma (v:=.agg (List.toArray cs)) (Ya (l:=cs) zQ oZ O hl (hF.cellsAll 1 O)) ?_)));refine Db (CY x S _ cs (hF.rep hR) hk (Uk (by simpa using hc0)) hsz) (Ra en_30 O O) ?_;rintro _ w ⟨ct,rfl,hRt,hE⟩;have hlct:ct.length=4:=hRt.length.trans (Xc _);have hoct:=hRt.one_;have hXX:=RX.made (ids:=[b2,b1]) hF.same.size (λx hx=>hF.lt_ids (by grind)) hRt;have hF:=hF.ext hE;clear hE hRt;refine Mg 0 (l:=ct) (cs':=(List.toArray ct)) hF (by rw[hlct];exact oZ) O (v:=.agg (List.toArray ct)) O O (hoct) O (by rw[hlct];exact Nat.le_of_ble_eq_true O) (Am (by rw[hlct];rfl)) ?_;intro w hF hE;have hXX:=hXX.store hE (by grind);refine Ea (Ec (Dc (Ua (Ug O (l:=ct) O zQ oZ hlct (hF.cellsAll 0 O)) ?_)));have ho_:Mf x=true:=by simpa using hc0
 refine⟨_,O,?_,hF.same⟩;rw[Ei,ho_]
 ·exact hXX.done
theorem NS(x:Tree)(hsz:Mb x<=1000000000)(S:Nat->Prop)(w0:World)(cs:List Value)(hR:Rep S w0 (Ub x) cs)(hk:H3 x)(hG:Gl w0):NewC 82 #[.agg cs.toArray] (Ub (L7 x)) w0:=by
 have hl:cs.length=4:=hR.length.trans (Xc x);have ho:=hR.one_;refine Ga func82 O ntmps82 Ib (Id _) ?_;have hF:=FR.start w0 [];refine Ia (Js (v:=.agg (List.toArray cs)) (cs:=(List.toArray cs)) hF O O ?_);rintro b1 w hb1 hF -;refine Td (cs:=#[J 0,I [],aQ,aQ]) hF mX O ?_;rintro b2 w hb2 hF -;refine Ea (Ja (Ia (Ma (v:=.agg (List.toArray cs)) (Ya (l:=cs) zQ oZ O hl (hF.cellsAll 1 O)) ?_)));refine Hb hF (Uz x hsz S _ cs (hF.rep hR) hk (hG.ext hF.same)) (Ra NA O O) ?_;intro w hF;refine Ca (Fk O) (Ea ?_);refine Jg O O (λhc0=>?_) (λhc0=>?_);refine Ia (Ma (w':=w) (v:=.agg #[J 0,I [],aQ,aQ]) Ob ?_);refine Pf hF oZ O O Yh ?_;rintro w hF -;refine Ea (Ec (Dc (Ua (Ug O (l:=[J 0,I [],aQ,aQ]) O zQ oZ O (hF.cellsAll 0 O)) ?_)));have ho_:Mf x=false:=by simpa using hc0
 refine⟨_,O,?_,hF.same⟩;rw[L7,ho_];exact Qk _ _;refine Va (Ha (Ia (Ma (v:=.agg (List.toArray cs)) (Ya (l:=cs) zQ oZ O hl (hF.cellsAll 1 O)) ?_)));refine Db (TH x S _ cs (hF.rep hR) hsz (by have:=WH x (Uk (by simpa using hc0));omega)) (Ra ES O O) ?_;rintro _ w ⟨ct,rfl,hRt,hE⟩;have hlct:ct.length=4:=hRt.length.trans (Xc _);have hoct:=hRt.one_;have hXX:=RX.made (ids:=[b2,b1]) hF.same.size (λx hx=>hF.lt_ids (by grind)) hRt;have hF:=hF.ext hE;clear hE hRt;refine Mg 0 (l:=ct) (cs':=(List.toArray ct)) hF (by rw[hlct];exact oZ) O (v:=.agg (List.toArray ct)) O O (hoct) O (by rw[hlct];exact Nat.le_of_ble_eq_true O) (Am (by rw[hlct];rfl)) ?_;intro w hF hE;have hXX:=hXX.store hE (by grind);refine Ea (Ec (Dc (Ua (Ug O (l:=ct) O zQ oZ hlct (hF.cellsAll 0 O)) ?_)));have ho_:Mf x=true:=by simpa using hc0
 refine⟨_,O,?_,hF.same⟩;rw[L7,ho_]
 ·exact hXX.done
theorem getV_c(k:Int)(t:Str)(ks:List Str)(xs:List Tree)(key:Str)(hsz:Mb (.node k t ks xs)<=1000000000)(S:Nat->Prop)(w0:World)(cs:List Value)(hR:Rep S w0 (Ub (.node k t ks xs)) cs)(hk:H3 (.node k t ks xs))(hG:Gl w0):Calls prog 17 #[.agg cs.toArray,I key] w0 (Be λv w'=>∃ct:List Value,v=.tuple #[.agg ct.toArray,.bool (Mu (.node k t ks xs) key).2]/\Rep (Btw w0 w') w' (Ub (Mu (.node k t ks xs) key).1) ct/\Same [] w0 w'):=by
 have hR:=hR.old;obtain⟨A,c,B,e,rfl,-,-,hK,hX⟩:=hR.tree_inv;refine Ga func17 O ntmps17 Ib (Md _ _) ?_;have hF:=FR.start w0 [];refine Ia (Bf hF O ?_);rintro b1 w hb1 hF -;refine Td (cs:=#[J 0,I [],aQ,aQ]) hF mX O ?_;rintro b2 w hb2 hF -;refine Ca (Jc O) (Ea (Ja (Ia (Sc (Of zQ oZ O hF.F 1 O O) ?_))));refine Hb hF (Uz (.node k t ks xs) hsz _ _ _ (hF.rep hR) hk (hG.ext hF.same)) (Ra NA O O) ?_;intro w hF;refine Ca (Fk O) (Ca (Hd O) ?_);refine Zd (d:=11) O (λhg0=>?_) (λhg0=>?_);refine Ka (Ka (Ka (Ca (Kc O O) (Ea (Se O (Ia ?_))))));refine Ma (w':=w) (v:=.agg #[J 0,I [],aQ,aQ]) Ob (Pf hF oZ O O Yh ?_);rintro w hF -;refine Ca (Jc O) (Ea ?_);refine Ec (Dc (Ua (He O (l:=[J 0,I [],aQ,aQ]) O zQ oZ O (hF.cellsAll 0 O) (v:=.bool false) O) ?_));have hg:Mu (.node k t ks xs) key=(zeroT,false):=by rw[Mu,if_neg];rintro⟨h1,h2⟩;rw[Tree.kind]at h2;simp_all
 refine⟨_,by rw[hg],?_,hF.same⟩;rw[hg];exact Qk _ _;refine Ca (Bc Wf O) (Sc (Zq aZ O hF.F 1 O O) (Ca (Bw O O) (Ca (Ld O O) (Ea ?_))));refine Rc O O (λhc0=>?_) (λhc0=>?_);refine Ia (Ma (w':=w) (v:=.agg #[J 0,I [],aQ,aQ]) Ob ?_);refine Pf hF oZ O O Yh ?_;rintro w hF -;refine Ca (Jc O) (Ea ?_);refine Ec (Dc (Ua (He O (l:=[J 0,I [],aQ,aQ]) O zQ oZ O (hF.cellsAll 0 O) (v:=.bool false) O) ?_));have hg:Mu (.node k t ks xs) key=(zeroT,false):=by rw[Mu,if_neg];rintro⟨h1,h2⟩;rw[Tree.kind]at h2;simp_all
 refine⟨_,by rw[hg],?_,hF.same⟩;rw[hg];exact Qk _ _;refine Va (Ha (Ia (Sc (Of zQ oZ O hF.F 1 O O) ?_)));have ho_:Mf (.node k t ks xs)=true:=by simp_all
 have k6:k=6:=by simp_all
 have hnx:=De (Uk ho_);refine Db (Ty k t ks xs (Lo (k6▸hnx.1)).1 (Lo (k6▸hnx.1)).2 _ _ _ (hF.rep hR)) (Ra TR O O) ?_;rintro _ w ⟨m1,l1,rfl,hge,hm1,hk1,hr1,hE⟩;have hF:=hF.cons_ext hE hm1 hge;have hr1:=hr1.back hF.same;clear hE hm1 hge;refine Ca (Dh O) ?_;rcases Iw key hk1 hr1 with ⟨hlk,hlt⟩|⟨cy,y,hlk,hlt,hym,hry⟩
 have hry:=Qk S w;have hkz:Bp zeroT<=8796093022208:=by decide
 have hsz_:Mb zeroT<=1000000000:=by decide
 refine Ma (v:=.tuple #[.agg #[J 0,I [],aQ,aQ],.bool false]) (Wv jX kX mX O O (hF.heap (i:=0) O) (by rw[hlk];rfl) (by rw[hlk];rfl)) ?_;refine Ca (So O) (Ca (Zz O O) (Ca (Tq O O) ?_));refine Qg hF mX oZ O ?_;rintro b3 w hb3 hF -;refine Ca (Jc O) (Lc (Sc (Of zQ oZ O hF.F 0 O O) ?_));refine Db (TH zeroT S _ _ (Qk S _) hsz_ hkz) (Ra ES O O) ?_;rintro _ w ⟨ct,rfl,hRt,hE⟩;have hlct:ct.length=4:=hRt.length.trans (Xc _);have hoct:=hRt.one_;have hXX:=RX.made (ids:=[b1,b2]) hF.same.size (λx hx=>hF.lt_ids (by grind)) hRt;have hF:=hF.ext hE;clear hE hRt;refine Ca (Hd O) ?_;refine Mg 2 (l:=ct) (cs':=(List.toArray ct)) hF (by rw[hlct];exact oZ) O (v:=.agg (List.toArray ct)) O O (hoct) O (by rw[hlct];exact Nat.le_of_ble_eq_true O) (Am (by rw[hlct];rfl)) ?_;intro w hF hE;have hXX:=hXX.store hE (by grind);refine Ca (Jc O) (Ea ?_);refine Ec (Dc (Ua (He O (l:=ct) O zQ oZ hlct (hF.cellsAll 2 O) (v:=.bool false) O) ?_));have hg:Mu (.node k t ks xs) key=(zeroT,false):=by rw[Mu,if_pos ⟨ho_,by rw[Tree.kind];exact k6⟩];show (match Jd ks xs key with|some y=>(y,true)|none=>(zeroT,false))=_;rw[hlt]
 refine⟨_,by rw[hg],?_,hF.same⟩;rw[hg]
 ·exact hXX.done
 have hoy:=hry.one_;have hly:cy.length=4:=hry.length.trans (Xc _);have hsz_:Mb y<=1000000000:=by have:=Yf hym;rw[Mb]at hsz;omega
 have hkz:Bp y<=8796093022208:=by have:=WH y (hnx.2 y hym);omega
 refine Ma (v:=.tuple #[.agg (List.toArray cy),.bool true]) (Wv jX kX mX O O (hF.heap (i:=0) O) (by rw[hlk];rfl) (by rw[hlk];rfl)) ?_;refine Ca (So O) (Ca (Zz O O) (Ca (Tq O O) ?_));refine Kw (l:=cy) hF mX (by rw[hly];exact oZ) (by rw[hly];rfl) (v:=.agg (List.toArray cy)) O O (hoy) O ?_;rintro b4 w hb4 hF -;refine Ca (Jc O) (Lc (Ma (v:=.agg (List.toArray cy)) (Ya (l:=cy) zQ oZ O hly (hF.cellsAll 0 O)) ?_));refine Db (TH y _ _ cy (hF.rep hry) hsz_ hkz) (Ra ES O O) ?_;rintro _ w ⟨ct,rfl,hRt,hE⟩;have hlct:ct.length=4:=hRt.length.trans (Xc _);have hoct:=hRt.one_;have hXX:=RX.made (ids:=[b1,b2]) hF.same.size (λx hx=>hF.lt_ids (by grind)) hRt;have hF:=hF.ext hE;clear hE hRt;refine Ca (Hd O) ?_;refine Mg 2 (l:=ct) (cs':=(List.toArray ct)) hF (by rw[hlct];exact oZ) O (v:=.agg (List.toArray ct)) O O (hoct) O (by rw[hlct];exact Nat.le_of_ble_eq_true O) (Am (by rw[hlct];rfl)) ?_;intro w hF hE;have hXX:=hXX.store hE (by grind);refine Ca (Jc O) (Ea ?_);refine Ec (Dc (Ua (He O (l:=ct) O zQ oZ hlct (hF.cellsAll 2 O) (v:=.bool true) O) ?_));have hg:Mu (.node k t ks xs) key=(y,true):=by rw[Mu,if_pos ⟨ho_,by rw[Tree.kind];exact k6⟩];show (match Jd ks xs key with|some y=>(y,true)|none=>(zeroT,false))=_;rw[hlt]
 refine⟨_,by rw[hg],?_,hF.same⟩;rw[hg]
 ·exact hXX.done
end Go.Scarf
