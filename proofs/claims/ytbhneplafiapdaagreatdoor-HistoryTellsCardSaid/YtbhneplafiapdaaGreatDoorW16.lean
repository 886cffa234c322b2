/- A part of the proof. -/
import Derived.Test.YtbhneplafiapdaaGreatDoorW10
import Derived.Test.YtbhneplafiapdaaGreatDoorIter
set_option linter.all false
set_option maxHeartbeats 8000000
set_option maxRecDepth 10000
namespace Go.Scarf
open Go.RowKit Go.Proofs Go.Proofs.Tryz
mutual
def Jm:Tree->Nat|.node _ _ ks xs=>ks.length+Xm xs
def Xm:List Tree->Nat|[]=>0|x::xs=>Jm x+Xm xs
end
theorem Ks:∀{xs:List Tree}{x:Tree},x∈xs->Jm x<=Xm xs
  | [],_,h=>absurd h Ua
  | y :: ys, x, h => by
    rw[Xm];rcases oQ.1 h with rfl|h
    ·omega
    have:=Ks h;omega
theorem Bx{xs:List Tree}{j:Nat}(h:j<xs.length):Ke (xs.take (j+1))=Ke (xs.take j)++[Fc xs[j]]:=by
  rw[iQ h,Wh,Wh,jQ];rfl
theorem J8{xs:List Tree}{j:Nat}(h:j<xs.length):Ke (xs.drop j)=Fc xs[j]::Ke (xs.drop (j+1)):=by
  rw[List.drop_eq_getElem_cons h];rfl
theorem RepL.lits{S S':Nat->Prop}{w w':World}:∀{ks:List Str}{cs:List Value},RepL S w (ks.map Lp) cs->RepL S' w' (ks.map Lp) cs
  | [],cs,h=>by have:=RepL.nil_inv h;subst this;exact RepL.nil_mk
  | k :: ks, cs, h => by
    obtain⟨c1,c2,rfl,h1,h2⟩:=RepL.cons_inv h;obtain⟨rfl,h3⟩:=Rep.lit_inv h1;exact RepL.cons_mk (Rep.lit_mk h3) (RepL.lits h2)
def Lie(w:World)(A:Option Addr)(n:Nat)(es:List Value):Prop:=n≠0->∃ad,A=some ad/\∀j (hj:j<es.length),w.cell? (ad.add j)=some es[j]
theorem Lie.ext{w w':World}{A:Option Addr}{n:Nat}{es:List Value}(h:Lie w A n es)(hs:Same [] w w'):Lie w' A n es:=λhn=>by
  obtain⟨ad,hA,hc⟩:=h hn;exact⟨ad,hA,λj hj=>((FR.start w []).ext hs).cells0 hc j hj⟩
def Yt(e m n:Nat)(es:List Value)(w0:World)(v:Value)(w':World):Prop :=
  ∃A c sb,v=.slice A n c/\SlB e m A n c es sb/\(∀p∈sb,w'.heap[p.1]? = some p.2/\w0.heap.size<=p.1)/\Same [] w0 w'
theorem Rep.slice_open{S:Nat->Prop}{w:World}{ds:List D}{A:Option Addr}{n c m:Nat}(h:Rep S w (.slice ds) [.slice A n c])(hm:∀d∈ds,Md d=m) :
    ∃es,RepL S w ds es/\es.length=n*m/\Lie w A n es:=by
  have hl:=h.slice_len;obtain⟨A',c',hA,_,_,hr⟩:=Rep.slice_inv h;simp only[List.cons.injEq,Value.slice.injEq,and_true]at hA;obtain⟨rfl,_,_⟩:=hA;have hsz:∀ds:List D,(∀d∈ds,Md d=m)->Md.sizeL ds=ds.length*m:=by
    intro ds
    induction ds with
    | nil=>intro _;simp[Md.sizeL]
    | cons d ds ih=>intro h;rw[Md.sizeL,h d Ua,ih (λx hx=>h x (by simp[hx])),kQ,Nat.add_mul];omega
  by_cases hne:ds=[]
  ·subst hne
   exact⟨[],RepL.nil_mk,by simp[hl.1],λh=>absurd hl.1 (by simpa using h)⟩
  obtain⟨ad, rfl, es, hc, hr⟩ := hr hne;exact⟨es,hr,by rw[hr.length,hsz ds hm,hl.1],λ_=>⟨ad,O,λj hj=>(hc j hj).1⟩⟩
theorem R3(ks:List Str):∀d∈ks.map Lp,Md d=1:=λd hd=>by obtain⟨k,_,rfl⟩:=nQ.1 hd;rfl
theorem XB(xs:List Tree):∀d∈Ke xs,Md d=4:=λd hd=>by rw[Wh]at hd;obtain⟨k,_,rfl⟩:=nQ.1 hd;exact Id k
theorem FR.sbown{w0 w:World}{pre sb post:List (Nat × Obj)}(h:FR w0 [] (pre++(sb++post)) w):∀p∈sb,w.heap[p.1]? = some p.2/\w0.heap.size<=p.1:=λp hp=>by
  have:=h.own p (by simp[hp]);refine⟨this.1,?_⟩;rcases this.2 with h|h
  ·exact h
  cases h
theorem SlB.soft{e m n c:Nat}{A:Option Addr}{es:List Value}{sb:List (Nat × Obj)}{w:World}(h:SlB e m A n c es sb)(hb:∀p∈sb,w.heap[p.1]? = some p.2):∀p∈sb,Soft w p.1:=λp hp=>by
  have h2:∃cur,p=(p.1,.cells cur e):=by
    rcases h.2 with ⟨-,-,rfl⟩|⟨g,cur,-,rfl,-⟩
    ·cases hp
    simp only[pQ]at hp;subst hp;exact⟨cur,rfl⟩
  obtain⟨cur,h2⟩:=h2;have:=hb p hp;rw[h2]at this;exact⟨cur,e,this⟩
theorem SlB.btw{e m n c:Nat}{A:Option Addr}{es:List Value}{sb:List (Nat × Obj)}{w w':World}{ds:List D}(h:SlB e m A n c es sb)(hb:∀p∈sb,w'.heap[p.1]? = some p.2/\w.heap.size<=p.1)(hr:RepL (Btw w w') w' ds es)(hn:ds.length=n):Rep (Btw w w') w' (.slice ds) [.slice A n c] :=
  h.repOf (λp hp=>⟨(hb p hp).1,(hb p hp).2,Wa (hb p hp).1,h.soft (λp hp=>(hb p hp).1) p hp⟩) hr hn
theorem H7{S:Nat->Prop}{w0 w w':World}{ks:List Str}{es:List Value}{v:Value}(h:Yt 9 1 ks.length es w v w')(hr:RepL S w0 (ks.map Lp) es):∃A c,v=.slice A ks.length c/\Rep (Btw w w') w' (Ug ks) [.slice A ks.length c]/\Same [] w w':=by
  obtain⟨A,c,sb,rfl,hS,hb,hE⟩:=h;exact⟨A,c,O,hS.btw hb hr.lits Ua,hE⟩
theorem RF(len:Nat)(A:Option Addr)(c:Nat)(es:List Value)(w0:World)(hel:es.length=len*1)(hcell:Lie w0 A len es)(ho:∀v∈es,one v=true)(hb:len<=8796093022208):Calls prog 75 #[.slice A len c] w0 (Vd λv w'=>Yt 9 1 len es w0 v w'):=by
 refine Ka func75 O ntmps75 Mb (Jc _) ?_;have hF:=FR.start w0 [];refine Ia (Ca (Vh O) (Fa (Ha (Ia (Ca (Kd O) (Ja (v:=.bool ((A).isNone)) (Is pZ O O) (Fa ?_)))))));refine Je O O (λhc0=>?_) (λhc0=>?_);have hA:A=none:=by simpa using hc0
 refine Ia (Ca (Vh O) (Fa ?_));refine Tc (v:=.slice _ _ _) O O ?_;have h0:len=0:=by rcases Nat.eq_zero_or_pos len with h|h;exact h;obtain⟨ad,hh,_⟩:=hcell U;rw[hA]at hh;cases hh
 have hes:es=[]:=List.eq_nil_of_length_eq_zero (by rw[hel,h0,Nat.zero_mul]);subst hes;exact⟨none,0,[],by rw[h0],by rw[h0];exact SlB.nil _ _,by simp,hF.same⟩;refine Ma (Ga (Ia ?_));refine Xi 0 hF (Gh pZ lZ) ?_;rintro b1 w hb1 hF -;have hS0:SlB 9 1 (some ⟨b1,0,none⟩) 0 0 [] [(b1,.cells #[] 9)]:=⟨by simp,.inr ⟨b1,#[],rfl,rfl,gQ _,Nat.zero_le _,by simp,by simp⟩⟩;refine Ca (Kd O) ?_;refine Cu [] [] (news:=es) (len':=0+len) (ys:=[]++es) YE hF hS0 rfl rfl (by rw[hel]) (λhk=>by obtain⟨ad,hA,hc⟩:=hcell hk;exact⟨ad,hA,Xe (hF.cells0 hc)⟩) (Mm ho) (by simp only[maxLen];omega) (rfl) (rfl) U ?_;intro A0 c0 a_0 w hS0_a hF hE hnew;refine Ca (Vh O) (Fa ?_);refine Tc (v:=.slice _ _ _) O O ?_;simp only[Nat.zero_add,List.nil_append]at *;exact⟨_,_,_,O,by assumption,hF.sbown (pre:=[]) (post:=[]),hF.same⟩
theorem YF(len:Nat)(A:Option Addr)(c:Nat)(es:List Value)(w0:World)(hel:es.length=len*4)(hcell:Lie w0 A len es)(ho:∀v∈es,one v=true)(hb:len<=1000000000):Calls prog 76 #[.slice A len c] w0 (Vd λv w'=>Yt 27 4 len es w0 v w'):=by
 refine Ka func76 O ntmps76 Mb (Jc _) ?_;have hF:=FR.start w0 [];refine Ia (Ca (Vh O) (Fa (Ha (Ia (Ca (Kd O) (Ja (v:=.bool ((A).isNone)) (Is qZ O O) (Fa ?_)))))));refine Je O O (λhc0=>?_) (λhc0=>?_);have hA:A=none:=by simpa using hc0
 refine Ia (Ca (Vh O) (Fa ?_));refine Tc (v:=.slice _ _ _) O O ?_;have h0:len=0:=by rcases Nat.eq_zero_or_pos len with h|h;exact h;obtain⟨ad,hh,_⟩:=hcell U;rw[hA]at hh;cases hh
 have hes:es=[]:=List.eq_nil_of_length_eq_zero (by rw[hel,h0,Nat.zero_mul]);subst hes;exact⟨none,0,[],by rw[h0],by rw[h0];exact SlB.nil _ _,by simp,hF.same⟩;refine Ma (Ga (Ia ?_));refine Xi 0 hF (Gh qZ fZ) ?_;rintro b1 w hb1 hF -;have hS0:SlB 27 4 (some ⟨b1,0,none⟩) 0 0 [] [(b1,.cells #[] 27)]:=⟨by simp,.inr ⟨b1,#[],rfl,rfl,gQ _,Nat.zero_le _,by simp,by simp⟩⟩;refine Ca (Kd O) ?_;refine Cu [] [] (news:=es) (len':=0+len) (ys:=[]++es) WR hF hS0 rfl rfl (by rw[hel]) (λhk=>by obtain⟨ad,hA,hc⟩:=hcell hk;exact⟨ad,hA,Xe (hF.cells0 hc)⟩) (Mm ho) (by simp only[maxLen];omega) (rfl) (rfl) U ?_;intro A0 c0 a_0 w hS0_a hF hE hnew;refine Ca (Vh O) (Fa ?_);refine Tc (v:=.slice _ _ _) O O ?_;simp only[Nat.zero_add,List.nil_append]at *;exact⟨_,_,_,O,by assumption,hF.sbown (pre:=[]) (post:=[]),hF.same⟩
def AU(F:Nat)(args:Array Value)(d:D)(w0:World):Prop:=Calls prog F args w0 (Vd λv w'=>∃ct:List Value,v=.agg ct.toArray/\Rep (Btw w0 w') w' d ct/\Same [] w0 w')
def WB(x:Tree):Prop:=∀S w0 cs,Rep S w0 (Fc x) cs->Ub x<=1000000000->(Jm x<=8796093022208)->AU 50 #[.agg cs.toArray] (Fc x) w0
theorem WA(k:Int)(t:Str)(ks:List Str)(xs:List Tree)(ih:∀x,x∈xs->WB x):WB (.node k t ks xs):=by
 intro S w0 cs hR hsz hky;rw[Ub]at hsz;rw[Jm]at hky;have hxn:=Mj xs;obtain⟨A,c,B,e,rfl,hk,ht,hK,hX⟩:=hR.tree_inv;obtain⟨eK,hrK,hKl,hKc⟩:=hK.slice_open (R3 ks);obtain⟨eX,hrX,hXl,hXc⟩:=hX.slice_open (XB xs);refine Ka func50 O ntmps50 Mb (Jc _) ?_;have hF:=FR.start w0 [];refine Ia (Xf hF O ?_);rintro b1 w hb1 hF -;refine Ve (cs:=#[J 0,I [],aQ,aQ]) hF vZ O ?_;rintro b2 w hb2 hF -;refine Fa (Ha ?_);refine Te (zs:=.of [9,7]) (bQ [0,1,3,4] (.act 2 (.free 6 (.act 5 (.act 7 (.free 8 (.act 9 .nil))))))) hF ?_;intro w hF;refine Zc O (Cd Pe O) (Cp O (Mh vQ O C0 1 O O) (Zc O (Cd Rc O) (Cp O (Mh wQ O C0 1 O O) ?_)));refine Tf O (RF ks.length A c eK _ hKl (Lie.ext hKc hF.same) hrK.one_ U) (Va GX O O) ?_;rintro _ w hcl;obtain⟨A1,c1,rfl,hK1,hE⟩:=H7 hcl hrK;have hKX:=RX.made (ids:=[b2,b1]) hF.same.size (λx hx=>hF.lt_ids (by grind)) hK1;have hF:=hF.ext hE;clear hE hcl hK1;refine⟨hF,?_⟩;refine Zc O (Cd Pe O) (Tf O (YF xs.length B e eX _ hXl (Lie.ext hXc hF.same) hrX.one_ U) (Va KX O O) ?_);rintro _ w ⟨A2,c2,sb2,rfl,hS2,hh2,hE⟩;have hKX:=hKX.step (ids':=[b2,b1]++sb2.map (·.1)) hE Ua (λx hx=>by rcases mQ.1 hx with hx|hx;exact .inl hx;obtain⟨p,hp,rfl⟩:=nQ.1 hx;exact .inr (hh2 p hp).2);have hF:=hF.extseg hE hh2 hS2.pw;refine⟨hF.mid 0 2,?_⟩;refine YX (.slice _ _ _) O hF sizeOf24 O O N4.app OX ?_;intro w hF hE;have hKX:=hKX.store hE (by grind);refine Zc O (Cd Rc O) (YX (.slice _ _ _) O hF sizeOf25 O O N4.app KS ?_);intro w hF hE;have hKX:=hKX.store hE (by grind);refine Xd (Ga (Ha (Ia (Ca (Cd Rc O) (Ed (Mh wQ O hF.F 1 O O) (Ca (Rf qZ O) (Ca (Db O) (Fa (Sa ?_)))))))));refine Gc (λμ σ w=>∃(j:Nat),∃(dn:List Value),∃(rs:List Value),∃(sb:List (Nat × Obj)),μ=xs.length-j/\(j<=xs.length)/\(SlB 27 4 A2 xs.length c2 (dn++rs) sb)/\(dn.length=j*4)/\(RepL S w0 (Ke (xs.drop j)) rs)/\(RX w0 ([b2,b1]++sb.map (·.1)) w (Ke (xs.take j)) dn)/\(RX w0 ([b2,b1]++sb.map (·.1)) w [Ug ks] [.slice A1 ks.length c1])/\AllEq σ [(1,V b1),(2,V b2),(14,.slice A2 xs.length c2),(15,J ((xs.length:Nat))),(16,J ((j:Int)))]/\FR w0 [] ([(b2,.cells #[J 0,I [],aQ,aQ] 27),(b1,.cells #[J k,I t,.slice A1 ks.length c1,.slice A2 xs.length c2] 27)]++(sb++[])) w) _ ⟨0,[],eX,sb2,O,(Nat.zero_le _),(hS2),(O),(by simpa using hrX),(RX.nil),(hKX),Ll,hF⟩ ?_
 rintro μ σ w ⟨j,dn,rs,sb,rfl,hj,hS,hd,hrr,hDX,hKX,hs,hF⟩;refine Cg.slots hs ?_;clear hs;intro σ;refine Ia (Ca (Tg O O) (Fa (Ha ?_)));refine Wb O O (λhc0=>?_) (λhc0=>?_);refine Ma (Ga (Ha (Sa (Ia (Ca (Db O) ?_)))));have hjx:j<xs.length:=by omega
 rw[J8 hjx]at hrr;obtain⟨c1_,c2_,rfl,hr1,hr2⟩:=RepL.cons_inv hrr;have hl1:c1_.length=4:=hr1.length.trans (Id _);have ho1:=hr1.one_;obtain⟨ad0,hA0,hk0⟩:=hS.elemMid (pre:=[(b2,.cells #[J 0,I [],aQ,aQ] 27),(b1,.cells #[J k,I t,.slice A1 ks.length c1,.slice A2 xs.length c2] 27)]) (post:=[]) (pr:=dn) (mid:=c1_) (po:=c2_) hF (j:=j) hd hl1 (hjx);refine Ja (v:=.pointer (some (ad0.add (j*4)))) (Qa (i:=(j:Int)) Zh O hA0 O U U) (Ja (v:=.agg (List.toArray c1_)) (Hb (l:=c1_) xQ fZ O hl1 hk0) ?_);refine Ve (cs:=#[J 0,I [],aQ,aQ]) hF vZ O ?_;intro b3 w hb3 hF hE;have hKX:=hKX.alloc hE hb3;have hDX:=hDX.alloc hE hb3;refine Ca (Bc O) ?_;refine Sj 0 (l:=c1_) (cs':=(List.toArray c1_)) hF (by rw[hl1];exact fZ) O (v:=.agg (List.toArray c1_)) O O (ho1) O (by rw[hl1];exact Nat.le_of_ble_eq_true O) (Tl (by rw[hl1];rfl)) ?_;intro w hF hE;have hKX:=hKX.store hE (by grind);have hDX:=hDX.store hE (by grind);refine Fa (Rj (.of [6]) (bQ [0,1,2,3] (.act 4 (.free 5 (.act 6 .nil)))) hF ?_);intro w hF hE;have hKX:=hKX.ext hE;have hDX:=hDX.ext hE;refine⟨λwq=>FR w0 [] [(b3,.cells (List.toArray c1_) 27),(b2,.cells #[J 0,I [],aQ,aQ] 27),(b1,.cells #[J k,I t,.slice A1 ks.length c1,.slice A2 xs.length c2] 27)] wq,hF.mid 0 3,?_⟩;refine Zc O (Cd Rc O) (Cp O (Mh wQ O C0 2 O O) (Zc O (Db O) (Pb O (v:=.agg (List.toArray c1_)) (λw hC=>Hb (l:=c1_) xQ fZ O hl1 (hC.cellsAll 0 O)) ?_)));refine Tf O (ih xs[j] (eQ hjx) S _ c1_ (hF.rep hr1) (by have:=Ef (eQ hjx);omega) (by have:=Ks (eQ hjx);omega)) (Va WS O O) ?_;rintro _ w ⟨ct,rfl,hRt,hE⟩;have hlt:ct.length=4:=hRt.length.trans (Id _);have hot:=hRt.one_;have hYX:=RX.made (ids:=b3::([b2,b1]++sb.map (·.1))) hF.same.size (λx hx=>hF.lt_ids (by grind)) hRt;have hKX:=hKX.ext hE;have hDX:=(hDX.ext hE).append hYX;have hF:=hF.ext hE
 clear hE hYX;refine⟨hF.mid 0 3,?_⟩;obtain⟨ad1,hA1,hk1⟩:=hS.elemMid (pre:=[(b3,.cells (List.toArray c1_) 27),(b2,.cells #[J 0,I [],aQ,aQ] 27),(b1,.cells #[J k,I t,.slice A1 ks.length c1,.slice A2 xs.length c2] 27)]) (post:=[]) (pr:=dn) (mid:=c1_) (po:=c2_) hF (j:=j) hd hl1 (hjx);refine Pb O (v:=.pointer (some (ad1.add (j*4)))) (λw hC=>Qa (i:=(j:Int)) Zh O hA1 O U U) (RH [(b3,.cells (List.toArray c1_) 27),(b2,.cells #[J 0,I [],aQ,aQ] 27),(b1,.cells #[J k,I t,.slice A1 ks.length c1,.slice A2 xs.length c2] 27)] [] O hF (pr:=dn) (mid:=c1_) (po:=c2_) (new:=ct) (j:=j) hS hd hl1 hA1 (hjx) fZ O (v:=.agg (List.toArray ct)) O O hlt hot ?_);intro i_2 w hS2_i hF hE hids;have hKX:=hKX.store hE (by grind);have hDX:=hDX.store hE (by grind);refine Xd (Ib (Ga (Ea (Ca (Lk O O) (Ca (Db O) (Ra ?_))))));refine Za ⟨_,?_,j+1,dn++ct,c2_,i_2,O,(hjx),(by simpa using hS2_i),(by rw[dQ,hd,hlt];omega),(hr2),(by rw[Bx hjx,hids];exact hDX.sub (λx hx=>List.mem_cons_of_mem _ hx)),(by rw[hids];exact hKX.sub (λx hx=>List.mem_cons_of_mem _ hx)),Ll,hF.drop 1⟩;omega;refine Zb (Vb O ?_);refine Ga (Ia (Ed (Ej xQ fZ O hF.F 1 O O) ?_));refine Hh hF fZ O O Cj.app ?_;intro w hF hE;have hKX:=hKX.store hE (by grind);have hDX:=hDX.store hE (by grind);refine Fa (Gb (Fb (Pa (Kp O (l:=[J k,I t,.slice A1 ks.length c1,.slice A2 xs.length c2]) O xQ fZ O (hF.cellsAll 0 O)) ?_)));have ej:j=xs.length:=by omega
 subst ej;rw[List.take_length]at hDX;have e0:rs=[]:=by rw[List.drop_length]at hrr;exact RepL.nil_inv hrr
 subst e0;rw[qQ]at hS;refine⟨_,O,?_,hF.same⟩
 ·exact Rep.tree_mk hk ht hKX.done (hS.rep (pre:=[_,_]) (post:=[]) hF hDX Ua)
theorem KO(x:Tree):WB x:=Tree.ind WA x
mutual
def U1:Tree->Tree
  | .node k t ks xs=>if k=6 then .node k t (T4 ks) ((T4 ks).map λkey=>(Se ks (NA xs) key).getD (.node 0 [] [] [])) else .node k t [] (NA xs)
def NA:List Tree->List Tree
  | []=>[]
  | x::xs=>U1 x::NA xs
end
def Sf:Tree:=.node 0 [] [] []
theorem Qz(S:Nat->Prop)(w:World):Rep S w (Fc Sf) [J 0,I [],aQ,aQ] :=
  Rep.tree_mk ⟨by omega,by omega⟩ Ua (Rep.nil_slice 0 U none) (Rep.nil_slice 0 U none)
def Ny(x:Tree):Tree:=if Zk x then U1 x else Sf
def Fx(x:Tree):Tree:=if Zk x then x else Sf
def JG(x:Tree)(key:Str):Tree × Bool:=if Zk x=true/\x.kind=6 then match Se x.keys x.items key with|some y=>(y,true)|none=>(Sf,false) else (Sf,false)
theorem AA{k:Int}{t:Str}{ks:List Str}{xs:List Tree}(h:nodeB (.node k t ks xs)=true):ks.length<=xs.length:=by
  by_cases h6:k=6
  ·subst h6;have:=(J7 h).2;omega
  have:ks=[]:=by
    simp only[nodeB]at h;by_cases h5:k=5
    ·subst h5;simp at h;exact h.1
    rw[if_neg h5, if_neg h6]at h;cases ks with
    | nil=>rfl
    | cons a l=>simp at h
  subst this;simp
theorem KQ:∀x:Tree,Me nodeB x=true->Jm x+1<=Ub x:=λx=>Tree.ind (Q:=λx=>Me nodeB x=true->Jm x+1<=Ub x) (λk t ks xs ih h=>by
  obtain⟨h1,h2⟩:=Wn h;have h3:=AA h1;have h7:∀ys:List Tree,(∀y∈ys,y∈xs)->ys.length+Xm ys<=Ob ys:=by
    intro ys
    induction ys with
    | nil=>intro _;simp[Xm,Ob]
    | cons y ys ihy =>
      intro hm;have h5:=ihy (λz hz=>hm z (by simp[hz]));have h9:=ih y (hm y Ua) (h2 y (hm y Ua));simp only[Xm,Ob,kQ];omega
  have:=h7 xs (λ_ h=>h);rw[Jm,Ub];omega) x
theorem Qv{key:Str}{y:Tree}:∀{ks:List Str}{xs:List Tree},Se ks xs key=some y->y∈xs
  | [],xs,h=>by cases xs <;> cases h
  | k::ks,[],h=>by cases h
  | k :: ks, x :: xs, h => by
    rw[Se]at h;by_cases he:k=key
    ·rw[if_pos he]at h;injection h with h;simp[h]
    rw[if_neg he]at h;simp[Qv h]
theorem ZC:∀{xs:List Tree},(∀x∈xs,H2 x)->T8 xs
  | [],_=>by rw[T8];trivial
  | x::xs,h=>by rw[T8];exact⟨h x Ua,ZC (λy hy=>h y (by simp[hy]))⟩
theorem Ey(x:Tree)(hsz:Ub x<=1000000000)(S:Nat->Prop)(w0:World)(cs:List Value)(hR:Rep S w0 (Fc x) cs)(hk:H2 x)(hG:Gl w0):AU 32 #[.agg cs.toArray] (Fc (Fx x)) w0:=by
 have hl:cs.length=4:=hR.length.trans (Id x);have ho:=hR.one_;refine Ka func32 O ntmps32 Mb (Jc _) ?_;have hF:=FR.start w0 [];refine Ia (Ip (v:=.agg (List.toArray cs)) (cs:=(List.toArray cs)) hF O O ?_);rintro b1 w hb1 hF -;refine Ve (cs:=#[J 0,I [],aQ,aQ]) hF vZ O ?_;rintro b2 w hb2 hF -;refine Fa (Ha (Ia (Ja (v:=.agg (List.toArray cs)) (Hb (l:=cs) xQ fZ O hl (hF.cellsAll 1 O)) ?_)));refine Ta hF (Z5 x hsz S _ cs (hF.rep hR) hk (hG.ext hF.same)) (Va VC O O) ?_;intro w hF;refine Ca (Bi O) (Fa ?_);refine Je O O (λhc0=>?_) (λhc0=>?_);refine Ia (Ja (w':=w) (v:=.agg #[J 0,I [],aQ,aQ]) Nc ?_);refine Hh hF fZ O O Cj ?_;rintro w hF -;refine Fa (Gb (Fb (Pa (Kp O (l:=[J 0,I [],aQ,aQ]) O xQ fZ O (hF.cellsAll 0 O)) ?_)));have ho_:Zk x=false:=by simpa using hc0
 refine⟨_,O,?_,hF.same⟩;rw[Fx,ho_];exact Qz _ _;refine Ma (Ga (Ia (Ja (v:=.agg (List.toArray cs)) (Hb (l:=cs) xQ fZ O hl (hF.cellsAll 1 O)) ?_)));refine Kc (KO x S _ cs (hF.rep hR) hsz (by have:=KQ x (I1 (by simpa using hc0));omega)) (Va WS O O) ?_;rintro _ w ⟨ct,rfl,hRt,hE⟩;have hlct:ct.length=4:=hRt.length.trans (Id _);have hoct:=hRt.one_;have hXX:=RX.made (ids:=[b2,b1]) hF.same.size (λx hx=>hF.lt_ids (by grind)) hRt;have hF:=hF.ext hE;clear hE hRt;refine Sj 0 (l:=ct) (cs':=(List.toArray ct)) hF (by rw[hlct];exact fZ) O (v:=.agg (List.toArray ct)) O O (hoct) O (by rw[hlct];exact Nat.le_of_ble_eq_true O) (Tl (by rw[hlct];rfl)) ?_;intro w hF hE;have hXX:=hXX.store hE (by grind);refine Fa (Gb (Fb (Pa (Kp O (l:=ct) O xQ fZ hlct (hF.cellsAll 0 O)) ?_)));have ho_:Zk x=true:=by simpa using hc0
 refine⟨_,O,?_,hF.same⟩;rw[Fx,ho_]
 ·exact hXX.done
end Go.Scarf
