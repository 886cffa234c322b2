/- A part of the proof. -/
import Derived.Test.YtgkmigdopohcnaaGreatDoorW4
set_option linter.all false
set_option maxHeartbeats 8000000
set_option maxRecDepth 10000
namespace Go.Scarf
open Go.RowKit Go.Proofs Go.Proofs.Tryz
def MapRep(S:Nat->Prop)(w:World)(xs:List Tree)(l:MapL):Prop:=∀i (h:i<l.length),∃cs:List Value,l[i].2=.agg cs.toArray/\∃h2:i<xs.length,Rep S w (Hb xs[i]) cs
theorem MapRep.nil(S:Nat->Prop)(w:World)(xs:List Tree):MapRep S w xs []:=λi h=>absurd h La
theorem MapRep.snoc{S:Nat->Prop}{w:World}{xs:List Tree}{l:MapL}{k:Str}{cs:List Value}(h:MapRep S w xs l)(hl:l.length<xs.length)(hr:Rep S w (Hb xs[l.length]) cs):MapRep S w xs (l++[(k,.agg cs.toArray)]):=by
  intro i hi;rw[dQ,List.length_singleton]at hi;by_cases he:i<l.length
  ·obtain⟨c, h1, h2, h3⟩ := h i he
   exact⟨c,by rw[List.getElem_append_left he];exact h1,h2,h3⟩
  obtain rfl : i = l.length := by omega
  exact⟨cs,by simp,hl,hr⟩
theorem II{l:MapL}{ks:List Str}{j:Nat}(h:j<ks.length)(hl:l.map (·.1)=ks.take j)(hn:ks.Nodup):Yf l ks[j]=none:=by
  have hnot:¬ks[j]∈ks.take j:=λhm=>Fx h hm hn;rw[<-hl]at hnot;unfold Yf;rw[Option.map_eq_none_iff,List.find?_eq_none];intro x hx he;exact hnot (nQ.2 ⟨x,hx,by simpa using he⟩)
theorem OO{l:MapL}{ks:List Str}{j:Nat}{v:Value}(h:j<ks.length)(hl:l.map (·.1)=ks.take j):(l++[(ks[j],v)]).map (·.1)=ks.take (j+1):=by
  rw[jQ,hl,iQ h];rfl
theorem BT{l:MapL}{ks:List Str}{j:Nat}(h:j<=ks.length)(hl:l.map (·.1)=ks.take j):l.length=j:=by
  have:=congrArg List.length hl;rw[rQ,List.length_take]at this;omega
theorem PL(k:Int)(t:Str)(ks:List Str)(xs:List Tree)(hn:ks.Nodup)(hlen:ks.length=xs.length)(S:Nat->Prop)(w0:World)(cs:List Value)(hR:Rep S w0 (Hb (.node k t ks xs)) cs):Calls prog 87 #[.agg cs.toArray] w0 (Pc λv w'=>∃(b:Nat)(l:MapL),v=.map (some b)/\w0.heap.size<=b/\w'.heap[b]? = some (Xg l)/\l.map (·.1)=ks/\MapRep S w' xs l/\Same [] w0 w'):=by
 obtain⟨A,c,B,e,rfl,-,-,hK,hX⟩:=hR.tree_inv;have hXl:=hX.slice_len;have hKl:=hK.slice_len;refine Ea func87 O ntmps87 Db (Rb _) ?_;have hF:=FR.start w0 [];refine Da (Le hF O ?_);rintro b1 w hb1 hF -;refine Aa (Px) (Qb (Aa (Ob Zd O) (Tb (Ff yQ O hF.F 0 O O) (Aa (Ug xZ O) ?_))));refine Ax (v:=λb=>.map (some b)) hF (E6 underlying123 O) ?_;rintro b2 w hb2 hF -;refine Aa (Px) (Ca (Fa (Da (Aa (Ob Zd O) (Tb (Ff yQ O hF.F 1 O O) (Aa (Ug xZ O) (Aa (Gb O) (Ca (Va ?_)))))))));refine Tc (λμ σ w=>∃(j:Nat),∃(l:MapL),μ=ks.length-j/\(j<=ks.length)/\(l.map (·.1)=ks.take j)/\(MapRep S w0 xs l)/\AllEq σ [(1,V b1),(3,.map (some b2)),(11,.slice A ks.length c),(12,J ((ks.length:Nat))),(13,J ((j:Int)))]/\FR w0 [] [(b2,Xg (l)),(b1,.cells #[J k,I t,.slice A ks.length c,.slice B xs.length e] 25)] w) _ ⟨0,[],O,(Nat.zero_le _),La,(MapRep.nil _ _ _),T8,hF⟩ ?_;rintro μ σ w ⟨j,l,rfl,hj,hl,hr,hs,hF⟩;refine Cg.slots hs ?_;clear hs;intro σ;have hll:=BT hj hl;refine Da (Aa (Sl O O) (Ca (Fa ?_)));refine Pb O O (λhc0=>?_) (λhc0=>?_);refine Na (Ga (Fa (Va (Da (Aa (Gb O) ?_)))));obtain⟨ad0,hA0,hk0,hx0⟩:=hK.str_elem (i:=j) Ba;refine Ja (v:=.pointer (some (ad0.add (j*1)))) (Sa (i:=(j:Int)) Wt O hA0 O Ba Ba) (Ja (v:=I (ks[j])) (Ad iZ O (hF.cell0 hk0)) (Aa (Lb O) (Aa (Rf O) (Ca (Ha (Aa (Pr) (Aa (Md O) (Aa (Ob Ub O) (Tb (Ff zQ O hF.F 1 O O) (Aa (Gb O) ?_))))))))));obtain⟨ad1,cs1,hA1,hl1,hk1,hx1⟩:=hX.tree_elem (i:=j) Ba;have ho1:=hx1.one_;refine Ja (v:=.pointer (some (ad1.add (j*4)))) (Sa (i:=(j:Int)) Mg O hA1 O Ba Ba) (Ja (v:=.agg (List.toArray cs1)) (Xa (l:=cs1) aZ mZ O hl1 (hF.cells0 hk1)) ?_);refine Oy 0 (v:=.agg (List.toArray cs1)) hF underlying123 iX O O O O (II Ba hl hn) ?_;rintro w hF -;have hF:FR w0 [] [(b2,Xg (l++[(ks[j],.agg (List.toArray cs1))])),(b1,.cells #[J k,I t,.slice A ks.length c,.slice B xs.length e] 25)] w:=hF
 refine Ua (Cb (Ga (Ha (Aa (Il O O) (Aa (Gb O) (Ua ?_))))));refine Xb ⟨_,?_,j+1,l++[(ks[j],.agg (List.toArray cs1))],O,Ba,(OO Ba hl),(hr.snoc Ba (by simpa only[hll]using hx1)),T8,hF⟩;omega;refine Kc (Ec O ?_);refine Ga (Da (Aa (Pr) (Aa (Px) (Ca ?_))));refine Hc (v:=.map (some b2)) O O ?_;refine⟨b2,l,O,by have:=hF.ge (i:=0) O;exact this,hF.heap (i:=0) O,?_,?_,hF.same⟩;rw[hl];exact List.take_of_length_le Ba;intro i hi;obtain⟨cs,h1,h2,h3⟩:=hr i hi;exact⟨cs,h1,h2,hF.rep h3⟩
def Lf:List Str->List Tree->Str->Option Tree
  | k::ks,x::xs,key=>if k=key then some x else Lf ks xs key
  | _,_,_=>none
theorem MapRep.tail{S:Nat->Prop}{w:World}{x:Tree}{xs:List Tree}{p:Str × Value}{l:MapL}(h:MapRep S w (x::xs) (p::l)):MapRep S w xs l:=by
  intro i hi;obtain⟨cs,h1,h2,h3⟩:=h (i+1) (by simpa using hi);exact⟨cs,by simpa using h1,by simpa using h2,by simpa using h3⟩
theorem B3{S:Nat->Prop}{w:World}(key:Str):∀{ks:List Str}{xs:List Tree}{l:MapL},l.map (·.1)=ks->MapRep S w xs l ->
    (Yf l key=none/\Lf ks xs key=none)\/∃(cs:List Value)(y:Tree),Yf l key=some (.agg cs.toArray)/\Lf ks xs key=some y/\y∈xs/\Rep S w (Hb y) cs
  | ks, xs, [], hk, _ => by
    left;simp only[List.map_nil]at hk;subst hk;exact⟨O,by cases xs <;> rfl⟩
  | ks, [], p :: l, hk, hm => by
    obtain⟨cs,h1,h2,h3⟩:=hm 0 La;simp at h2
  | ks, x :: xs, p :: l, hk, hm => by
    rw[List.map_cons]at hk;subst hk;by_cases h:p.1=key
    ·right
     obtain⟨cs,h1,h2,h3⟩:=hm 0 La;refine⟨cs,x,?_,by simp[Lf,h],by simp,h3⟩;simp only[List.getElem_cons_zero]at h1;simp[Yf,h,h1]
    have e1 : Yf (p :: l) key = Yf l key := by simp[Yf, h]
    have e2:Lf (p.1::l.map (·.1)) (x::xs) key=Lf (l.map (·.1)) xs key:=by simp[Lf,h]
    rw[e1,e2];rcases B3 key rfl hm.tail with h|⟨cs,y,h1,h2,h3,h4⟩
    ·exact .inl h
    exact .inr ⟨cs,y,h1,h2,by simp[h3],h4⟩
def BothC(w0:World)(g:Nat)(xs ys:List Tree)(q:Tree->Tree->Bool):Prop:=∀x,x∈xs->∀y,y∈ys->∀S S' w cs ct,Same [] w0 w->Rep S w (Hb x) cs->Rep S' w (Hb y) ct->Calls prog g #[.agg cs.toArray,.agg ct.toArray] w (Pc λv w'=>v=.bool (q x y)/\Same [] w w')
theorem BothC.ext{w0 w:World}{g:Nat}{xs ys:List Tree}{q:Tree->Tree->Bool}(h:BothC w0 g xs ys q)(hs:Same [] w0 w):BothC w g xs ys q:=λx hx y hy S S' w' cs ct hw=>h x hx y hy S S' w' cs ct (hs.trans hw)
theorem MapRep.ext{S:Nat->Prop}{w w':World}{xs:List Tree}{l:MapL}(h:MapRep S w xs l)(hs:Same [] w w'):MapRep S w' xs l:=λi hi=>by
  obtain⟨cs,h1,h2,h3⟩:=h i hi;exact⟨cs,h1,h2,h3.ext hs⟩
theorem Same.heap{w w':World}{b:Nat}{o:Obj}(hs:Same [] w w')(h:w.heap[b]? = some o):w'.heap[b]? = some o:=(hs.block b (Kb h) La).trans h
theorem U5{q:Tree->Bool}:∀{xs:List Tree},Np q xs=true->∀x∈xs,Td q x=true
  | [],_,_,h=>absurd h La
  | y :: ys, h, x, hx => by
    rw[Np,Bool.and_eq_true]at h;rcases oQ.1 hx with rfl|hx
    ·exact h.1
    exact U5 h.2 x hx
theorem Tf{q:Tree->Bool}{k:Int}{t:Str}{ks:List Str}{xs:List Tree}(h:Td q (.node k t ks xs)=true):q (.node k t ks xs)=true/\∀x∈xs,Td q x=true:=by
  rw[Td,Bool.and_eq_true]at h;exact⟨h.1,U5 h.2⟩
theorem Cu{t:Str}{ks:List Str}{xs:List Tree}(h:nodeB (.node 6 t ks xs)=true):ks.Nodup/\ks.length=xs.length:=by
  simp only[nodeB,Qn]at h;simp at h;exact⟨h.1.1.1,by omega⟩
def Li{α:Type}(f:α->α->Int):List α->List α->Int
  | [],[]=>0
  | [],_::_=>-1
  | _::_,[]=>1
  | x::xs,y::ys=>if f x y≠0 then f x y else Li f xs ys
theorem Y5{α:Type}{f:α->α->Int}{xs ys:List α}{j:Nat}(h:j<xs.length)(h2:j<ys.length)(hq:f xs[j] ys[j]=0):Li f (xs.drop j) (ys.drop j)=Li f (xs.drop (j+1)) (ys.drop (j+1)):=by
  rw[List.drop_eq_getElem_cons h,List.drop_eq_getElem_cons h2,Li,if_neg (by simpa using hq)]
theorem DJ{α:Type}{f:α->α->Int}{xs ys:List α}{j:Nat}(h:j<xs.length)(h2:j<ys.length)(hq:f xs[j] ys[j]≠0):Li f (xs.drop j) (ys.drop j)=f xs[j] ys[j]:=by
  rw[List.drop_eq_getElem_cons h,List.drop_eq_getElem_cons h2,Li,if_pos hq]
theorem I5{α:Type}{f:α->α->Int}{xs ys:List α}{j:Nat}(h:j<xs.length)(h2:ys.length<=j):Li f (xs.drop j) (ys.drop j)=1:=by
  rw[List.drop_eq_getElem_cons h,List.drop_eq_nil_of_le h2,Li]
theorem O6{α:Type}{f:α->α->Int}{xs ys:List α}{j:Nat}(h:xs.length<=j)(h2:j<ys.length):Li f (xs.drop j) (ys.drop j) = -1:=by
  rw[List.drop_eq_getElem_cons h2,List.drop_eq_nil_of_le h,Li]
theorem AE{α:Type}{f:α->α->Int}{xs ys:List α}{j:Nat}(h:xs.length<=j)(h2:ys.length<=j):Li f (xs.drop j) (ys.drop j)=0:=by
  rw[List.drop_eq_nil_of_le h2,List.drop_eq_nil_of_le h,Li]
def BothI(w0:World)(g:Nat)(xs ys:List Tree)(q:Tree->Tree->Int):Prop:=∀x,x∈xs->∀y,y∈ys->∀S S' w cs ct,Same [] w0 w->Rep S w (Hb x) cs->Rep S' w (Hb y) ct->Calls prog g #[.agg cs.toArray,.agg ct.toArray] w (Pc λv w'=>v=J (q x y)/\Same [] w w')
theorem BothI.ext{w0 w:World}{g:Nat}{xs ys:List Tree}{q:Tree->Tree->Int}(h:BothI w0 g xs ys q)(hs:Same [] w0 w):BothI w g xs ys q:=λx hx y hy S S' w' cs ct hw=>h x hx y hy S S' w' cs ct (hs.trans hw)
theorem M2(q:Tree->Tree->Int)(xs ys:List Tree)(B B':Option Addr)(e e':Nat)(S S':Nat->Prop)(w0:World)(hX:Rep S w0 (.slice (Qd xs)) [.slice B xs.length e])(hY:Rep S' w0 (.slice (Qd ys)) [.slice B' ys.length e'])(hq:BothI w0 52 xs ys q):Calls prog 131 #[.slice B xs.length e,.slice B' ys.length e',.func (.func 52) #[] #[]] w0 (Pc λv w'=>v=J (Li q xs ys)/\Same [] w0 w'):=by
 have hXl:=hX.slice_len;have hYl:=hY.slice_len;refine Ea func131 O ntmps131 Db (Fk _ _ _) ?_;have hF:=FR.start w0 [];refine Da (Aa (Lb O) (Ca (Fa (Da (Aa (Wd O) (Aa (Ug yZ O) (Aa (Gb O) (Ca (Va ?_)))))))));refine Tc (λμ σ w=>∃(j:Nat),μ=xs.length-j/\(j<=xs.length)/\(j<=ys.length)/\(Li q xs ys=Li q (xs.drop j) (ys.drop j))/\AllEq σ [(0,.slice B xs.length e),(1,.slice B' ys.length e'),(2,.func (.func 52) #[] #[]),(11,.slice B xs.length e),(12,J ((xs.length:Nat))),(13,J ((j:Int)))]/\FR w0 [] [] w) _ ⟨0,O,(Nat.zero_le _),(Nat.zero_le _),La,U_,hF⟩ ?_;rintro μ σ w ⟨j,rfl,hj,hj2,hc,hs,hF⟩;refine Cg.slots hs ?_;clear hs;intro σ;refine Da (Aa (Sl O O) (Ca (Fa ?_)));refine Pb O O (λhc0=>?_) (λhc0=>?_);refine Na (Ga (Fa (Va (Da (Aa (Gb O) ?_)))));obtain⟨ad0,cs0,hA0,hl0,hk0,hx0⟩:=hX.tree_elem (i:=j) Ba;have ho0:=hx0.one_;refine Ja (v:=.pointer (some (ad0.add (j*4)))) (Sa (i:=(j:Int)) Mg O hA0 O Ba Ba) (Ja (v:=.agg (List.toArray cs0)) (Xa (l:=cs0) aZ mZ O hl0 (hF.cells0 hk0)) ?_);refine Jc (cs:=#[J 0,I [],aQ,aQ]) hF kX O ?_;rintro b1 w hb1 hF -;refine Aa (Lb O) ?_;refine Eh 0 (l:=cs0) (cs':=(List.toArray cs0)) hF (by rw[hl0];exact mZ) O (v:=.agg (List.toArray cs0)) O O (ho0) O (by rw[hl0];exact Nat.le_of_ble_eq_true O) (Bm (by rw[hl0];rfl)) ?_;rintro w hF -;refine Ca (Fa (Da (Aa (Gb O) (Aa (Wd O) (Aa (Ug yZ O) (Aa (T6 O O) (Ca ?_)))))));refine Pb O O (λhc1=>?_) (λhc1=>?_);refine Da (Aa (Lb O) (Ca ?_));refine Hc (v:=J 1) O O ?_;exact⟨congrArg (Value.int .i64) (by rw[hc,I5 Ba Ba]),hF.same⟩;refine Na (Ga (Da (Aa (Wd O) (Aa (Gb O) ?_))));obtain⟨ad1,cs1,hA1,hl1,hk1,hx1⟩:=hY.tree_elem (i:=j) Ba;have ho1:=hx1.one_;refine Ja (v:=.pointer (some (ad1.add (j*4)))) (Sa (i:=(j:Int)) Mg O hA1 O Ba Ba) (Ja (v:=.agg (List.toArray cs1)) (Xa (l:=cs1) aZ mZ O hl1 (hF.cells0 hk1)) ?_)
 refine My (l:=cs1) hF kX (by rw[hl1];exact mZ) (by rw[hl1];rfl) (v:=.agg (List.toArray cs1)) O O (ho1) O ?_;rintro b2 w hb2 hF -;refine Qb (Aa (Pr) (Ja (v:=.agg (List.toArray cs0)) (Xa (l:=cs0) aZ mZ O hl0 (hF.cellsAll 1 O)) (Ja (v:=.agg (List.toArray cs1)) (Xa (l:=cs1) aZ mZ O hl1 (hF.cellsAll 0 O)) ?_)));refine Oa hF (hq _ (List.getElem_mem (l:=xs) (n:=j) Ba) _ (List.getElem_mem (l:=ys) (n:=j) Ba) _ _ _ _ _ hF.same (hF.rep hx0) (hF.rep hx1)) (Wh O en_52 O O O) ?_;intro w hF;refine Aa (Lb O) (Qb (Aa (Gb O) (Aa (Om O O) (Ca ?_))));refine Pb O O (λhc2=>?_) (λhc2=>?_);refine Da (Aa (Gb O) (Aa (Lb O) (Ca ?_)));refine Hc (v:=J (q xs[j] ys[j])) O O ?_;exact⟨congrArg (Value.int .i64) (by rw[hc,DJ Ba Ba (by simpa using hc2)]),hF.same⟩;refine Na (Cb (Ga (Ha (Aa (Il O O) (Aa (Gb O) (Ua ?_))))));refine Xb ⟨_,?_,j+1,O,Ba,Ba,(hc.trans (Y5 Ba Ba (by simpa using hc2))),U_,hF.drop 2⟩;omega;refine Kc (Ec O ?_);refine Ga (Fa (Da (Aa (Wd O) (Aa (Ug yZ O) (Aa (Wd O) (Aa (Ug yZ O) (Aa (Sl O O) (Ca ?_))))))));refine Pb O O (λhc3=>?_) (λhc3=>?_);refine Da (Aa (Lb O) (Ca ?_));refine Hc (v:=J ((-1))) O O ?_;exact⟨congrArg (Value.int .i64) (by rw[hc,O6 Ba Ba]),hF.same⟩;refine Na (Ga (Da (Aa (Lb O) (Ca ?_))));refine Hc (v:=J 0) O O ?_;exact⟨congrArg (Value.int .i64) (by rw[hc,AE Ba Ba]),hF.same⟩
theorem X4(xs ys:List Str)(A A':Option Addr)(c c':Nat)(S S':Nat->Prop)(w0:World)(hX:Rep S w0 (Lh xs) [.slice A xs.length c])(hY:Rep S' w0 (Lh ys) [.slice A' ys.length c']):Calls prog 130 #[.slice A xs.length c,.slice A' ys.length c',.func (.func 65) #[] #[]] w0 (Pc λv w'=>v=J (Li Lib.compareBytes xs ys)/\Same [] w0 w'):=by
 have hXl:=hX.slice_len;have hYl:=hY.slice_len;refine Ea func130 O ntmps130 Db (Fk _ _ _) ?_;have hF:=FR.start w0 [];refine Da (Aa (Lb O) (Ca (Fa (Da (Aa (Wd O) (Aa (Ug xZ O) (Aa (Gb O) (Ca (Va ?_)))))))));refine Tc (λμ σ w=>∃(j:Nat),μ=xs.length-j/\(j<=xs.length)/\(j<=ys.length)/\(Li Lib.compareBytes xs ys=Li Lib.compareBytes (xs.drop j) (ys.drop j))/\AllEq σ [(0,.slice A xs.length c),(1,.slice A' ys.length c'),(2,.func (.func 65) #[] #[]),(11,.slice A xs.length c),(12,J ((xs.length:Nat))),(13,J ((j:Int)))]/\FR w0 [] [] w) _ ⟨0,O,(Nat.zero_le _),(Nat.zero_le _),La,U_,hF⟩ ?_;rintro μ σ w ⟨j,rfl,hj,hj2,hc,hs,hF⟩;refine Cg.slots hs ?_;clear hs;intro σ;refine Da (Aa (Sl O O) (Ca (Fa ?_)));refine Pb O O (λhc0=>?_) (λhc0=>?_);refine Na (Ga (Fa (Va (Da (Aa (Gb O) ?_)))));obtain⟨ad0,hA0,hk0,hx0⟩:=hX.str_elem (i:=j) Ba;refine Ja (v:=.pointer (some (ad0.add (j*1)))) (Sa (i:=(j:Int)) Wt O hA0 O Ba Ba) (Ja (v:=I (xs[j])) (Ad iZ O (hF.cell0 hk0)) (Aa (Lb O) (Aa (Rf O) (Ca (Fa (Da (Aa (Gb O) (Aa (Wd O) (Aa (Ug xZ O) (Aa (T6 O O) (Ua ?_)))))))))));refine Ga (Pb O O (λhc1=>?_) (λhc1=>?_));refine Da (Aa (Lb O) (Ca ?_));refine Hc (v:=J 1) O O ?_;exact⟨congrArg (Value.int .i64) (by rw[hc,I5 Ba Ba]),hF.same⟩;refine Na (Ga (Da (Aa (Wd O) (Aa (Gb O) ?_))));obtain⟨ad1,hA1,hk1,hx1⟩:=hY.str_elem (i:=j) Ba;refine Ja (v:=.pointer (some (ad1.add (j*1)))) (Sa (i:=(j:Int)) Wt O hA1 O Ba Ba) (Ja (v:=I (ys[j])) (Ad iZ O (hF.cell0 hk1)) (Aa (Rf O) (Qb (Aa (Pr) (Aa (Md O) (Aa (Md O) ?_))))));refine Oa hF (Ao xs[j] ys[j] _) (Wh O OB O O O) ?_;intro w hF;refine Aa (Lb O) (Qb (Aa (Gb O) (Aa (Om O O) (Ca ?_))));refine Pb O O (λhc2=>?_) (λhc2=>?_);refine Da (Aa (Gb O) (Aa (Lb O) (Ca ?_)));refine Hc (v:=J (Lib.compareBytes xs[j] ys[j])) O O ?_;exact⟨congrArg (Value.int .i64) (by rw[hc,DJ Ba Ba (by simpa using hc2)]),hF.same⟩
 refine Na (Cb (Ga (Ha (Aa (Il O O) (Aa (Gb O) (Ua ?_))))));refine Xb ⟨_,?_,j+1,O,Ba,Ba,(hc.trans (Y5 Ba Ba (by simpa using hc2))),U_,hF⟩;omega;refine Kc (Ec O ?_);refine Ga (Fa (Da (Aa (Wd O) (Aa (Ug xZ O) (Aa (Wd O) (Aa (Ug xZ O) (Aa (Sl O O) (Ca ?_))))))));refine Pb O O (λhc3=>?_) (λhc3=>?_);refine Da (Aa (Lb O) (Ca ?_));refine Hc (v:=J ((-1))) O O ?_;exact⟨congrArg (Value.int .i64) (by rw[hc,O6 Ba Ba]),hF.same⟩;refine Na (Ga (Da (Aa (Lb O) (Ca ?_))));refine Hc (v:=J 0) O O ?_;exact⟨congrArg (Value.int .i64) (by rw[hc,AE Ba Ba]),hF.same⟩
theorem FL(xs ys:List Str)(A A':Option Addr)(c c':Nat)(S S':Nat->Prop)(w0:World)(hX:Rep S w0 (Lh xs) [.slice A xs.length c])(hY:Rep S' w0 (Lh ys) [.slice A' ys.length c']):Calls prog 85 #[.slice A xs.length c,.slice A' ys.length c',.func (.func 65) #[] #[]] w0 (Pc λv w'=>v=J (Li Lib.compareBytes xs ys)/\Same [] w0 w'):=by
 refine Ea func85 O ntmps85 Db (Fk _ _ _) ?_;have hF:=FR.start w0 [];refine Da (Aa (Lb O) (Qb (Aa (Wd O) (Aa (Wd O) (Aa (Pr) ?_)))));refine Oa hF (X4 xs ys A A' c c' S S' _ (hF.rep hX) (hF.rep hY)) (Te en_130 O O O O) ?_;intro w hF;refine Aa (Lb O) (Ca ?_);refine Hc (v:=J (Li Lib.compareBytes xs ys)) O O ?_;exact⟨O,hF.same⟩
theorem YI(q:Tree->Tree->Int)(xs ys:List Tree)(B B':Option Addr)(e e':Nat)(S S':Nat->Prop)(w0:World)(hX:Rep S w0 (.slice (Qd xs)) [.slice B xs.length e])(hY:Rep S' w0 (.slice (Qd ys)) [.slice B' ys.length e'])(hq:BothI w0 52 xs ys q):Calls prog 86 #[.slice B xs.length e,.slice B' ys.length e',.func (.func 52) #[] #[]] w0 (Pc λv w'=>v=J (Li q xs ys)/\Same [] w0 w'):=by
 refine Ea func86 O ntmps86 Db (Fk _ _ _) ?_;have hF:=FR.start w0 [];refine Da (Aa (Lb O) (Qb (Aa (Wd O) (Aa (Wd O) (Aa (Pr) ?_)))));refine Oa hF (M2 q xs ys B B' e e' S S' _ (hF.rep hX) (hF.rep hY) (hq.ext hF.same)) (Te en_131 O O O O) ?_;intro w hF;refine Aa (Lb O) (Ca ?_);refine Hc (v:=J (Li q xs ys)) O O ?_;exact⟨O,hF.same⟩
mutual
def Bk:Tree->Tree->Int
  | .node k t ks xs, .node k' t' ks' ys => if k = 3 /\ k' = 3 then Rv (Oc t).1 (Oc t').1 else
    if IK [Lib.compareInt k k',Lib.compareBytes t t',Li Lib.compareBytes ks ks']≠0 then IK [Lib.compareInt k k',Lib.compareBytes t t',Li Lib.compareBytes ks ks'] else Mu xs ys
def Mu:List Tree->List Tree->Int
  | [],[]=>0
  | [],_::_=>-1
  | _::_,[]=>1
  | x::xs,y::ys=>if Bk x y≠0 then Bk x y else Mu xs ys
end
theorem Rh:∀xs ys:List Tree,Li Bk xs ys=Mu xs ys
  | [],[]=>by rw[Li,Mu]
  | [],_::_=>by rw[Li,Mu]
  | _::_,[]=>by rw[Li,Mu]
  | x::xs,y::ys=>by rw[Li,Mu,Rh xs ys]
def SH(x:Tree):Prop:=∀y S S' w0 cs ct,Rep S w0 (Hb x) cs->Rep S' w0 (Hb y) ct->Co x->Co y->Gl w0->Calls prog 52 #[.agg cs.toArray,.agg ct.toArray] w0 (Pc λv w'=>v=J (Bk x y)/\Same [] w0 w')
theorem VH(k:Int)(t:Str)(ks:List Str)(xs:List Tree)(ih:∀x,x∈xs->SH x):SH (.node k t ks xs):=by
 rintro⟨k',t',ks',ys⟩ S S' w0 cs ct hR hR' hk hk' hG;rw[Co]at hk;rw[Co]at hk';obtain⟨A,c,B,e,rfl,-,-,hK,hX⟩:=hR.tree_inv;obtain⟨A',c',B',e',rfl,-,-,hK',hY⟩:=hR'.tree_inv;refine Ea func52 O ntmps52 Db (Lc _ _) ?_;have hF:=FR.start w0 [];refine Da (Le hF O ?_);rintro b1 w hb1 hF -;refine Le hF O ?_;rintro b2 w hb2 hF -;refine Aa (Lb O) (Ca (Fa (Da (Aa (Ob Se O) (Tb (Yi dZ O hF.F 1 O O) (Aa (Yh O O) (Aa (Dc O) ?_)))))));refine Wb (d:=13) O (λhg0=>?_) (λhg0=>?_);refine Aa (Ob Se O) (Tb (Yi dZ O hF.F 0 O O) (Aa (Yh O O) (Aa (Yb O O) (Ca ?_))));refine Pb O O (λhc0=>?_) (λhc0=>?_);refine Da (Aa (Ob Re O) (Tb (Rm iZ O hF.F 1 O O) ?_));refine Oa hF (Qt t hk.1 _ (hG.ext hF.same)) (Ma NJ O O) ?_;intro w hF;refine Aa (Ri O) (Aa (Dq O O) (Aa (Jl O O) ?_));refine Ye hF pX qZ O ?_;rintro b3 w hb3 hF -;refine Aa (Jb O) (Qb (Aa (Ob Re O) (Tb (Rm iZ O hF.F 1 O O) ?_)));refine Oa hF (Qt t' hk'.1 _ (hG.ext hF.same)) (Ma NJ O O) ?_;intro w hF;refine Aa (Ri O) (Aa (Dq O O) (Aa (Jl O O) ?_));refine Ye hF pX qZ O ?_;rintro b4 w hb4 hF -;refine Aa (Jb O) (Qb (Tb (He gZ qZ O hF.F 1 O O) (Tb (He gZ qZ O hF.F 0 O O) ?_)));refine Oa hF (U7 (Oc t).1 (Oc t').1 (by have:=Wi t;omega) (by have:=Wi t';omega) _) (Ra en_82 O O O) ?_;intro w hF;refine Aa (Lb O) (Ca ?_);refine Hc (v:=J (Rv (Oc t).1 (Oc t').1)) O O ⟨congrArg (Value.int .i64) ?_,hF.same⟩;rw[Bk];clear hF hR hR' hX hY hK hK' ih hk hk'
 ·first|(simp_all[Rh];done)|(simp_all[Rh];omega)
 refine Na (Ga (Fa ?_));refine Zc (zs:=.of []) (bQ [0,1,2,3,5,6,7,8,10,11,12,13] (cQ [4,9,14,15,16] (.free 17 .nil))) hF ?_;intro w hF;refine Fb O (Ob Se O) (Sf O (Yi dZ O C0 1 O O) (Fb O (Ob Se O) (Sf O (Yi dZ O C0 0 O O) (Fb O (Ob Re O) (Sf O (Rm iZ O C0 1 O O) (Fb O (Ob Re O) (Sf O (Rm iZ O C0 0 O O) (Fb O (Ob Zd O) (Sf O (Ff yQ O C0 1 O O) (Fb O (Ob Zd O) (Sf O (Ff yQ O C0 0 O O) ?_)))))))))));refine Sc hF (Ts k k' _) O (Ra OD O O O) ?_;intro w hF;refine⟨hF,?_⟩;refine Sc hF (Ao t t' _) O (Ra OB O O O) ?_;intro w hF;refine⟨hF,?_⟩;refine Sc hF (FL ks ks' A A' c c' S S' _ (hF.rep hK) (hF.rep hK')) O (Te TZ O O O O) ?_;intro w hF;refine⟨hF,?_⟩;refine Nf 3 O hF (Eb (cs:=#[J (Lib.compareInt k k'),J (Lib.compareBytes t t'),J (Li Lib.compareBytes ks ks')]) fX sizeOf3 mX Ta Ta Ib) ?_;rintro b5 w hb5 hF -;refine⟨hF.drop 1,?_⟩;refine Sc hF (or_c [Lib.compareInt k k',Lib.compareBytes t t',Li Lib.compareBytes ks ks'] _ 3 La _ (N5 (hF.cellsAll 0 O))) O (Ma EU O O) ?_;intro w hF;refine⟨hF.drop 1,?_⟩;refine Fb O (Lb O) (Ac (Ga (Fa (Da (Aa (Gb O) (Aa (Om O O) (Ca ?_)))))));refine Pb O O (λhc1=>?_) (λhc1=>?_);refine Da (Aa (Gb O) (Aa (Lb O) (Ca ?_)));refine Hc (v:=J (IK [Lib.compareInt k k',Lib.compareBytes t t',Li Lib.compareBytes ks ks'])) O O ⟨congrArg (Value.int .i64) ?_,hF.same⟩;rw[Bk];clear hF hR hR' hX hY hK hK' ih hk hk'
 ·first|(simp_all[Rh];done)|(simp_all[Rh];omega)
 refine Na (Ga (Da (Aa (Ob Ub O) (Tb (Ff zQ O hF.F 2 O O) (Aa (Ob Ub O) (Tb (Ff zQ O hF.F 1 O O) ?_))))));refine Oa hF (YI Bk xs ys B B' e e' S S' _ (hF.rep hX) (hF.rep hY) (λx hx y hy S1 S2 w1 cs1 ct1 hs h1 h2=>ih x hx y S1 S2 w1 cs1 ct1 h1 h2 (Pj hk.2.2 x hx) (Pj hk'.2.2 y hy) ((hG.ext hF.same).ext hs))) (Te GZ O O O O) ?_;intro w hF;refine Aa (Lb O) (Ca ?_);refine Hc (v:=J (Li Bk xs ys)) O O ⟨congrArg (Value.int .i64) ?_,hF.same⟩;rw[Bk];clear hF hR hR' hX hY hK hK' ih hk hk'
 ·first|(simp_all[Rh];done)|(simp_all[Rh];omega)
 refine Ia (Ia (Ia (Aa (Bc O O) (Ca (Kz O (Fa ?_))))));refine Zc (zs:=.of []) (bQ [0,1,2,3,5,6,7,8,10,11,12,13] (cQ [4,9,14,15,16] (.free 17 .nil))) hF ?_;intro w hF;refine Fb O (Ob Se O) (Sf O (Yi dZ O C0 1 O O) (Fb O (Ob Se O) (Sf O (Yi dZ O C0 0 O O) (Fb O (Ob Re O) (Sf O (Rm iZ O C0 1 O O) (Fb O (Ob Re O) (Sf O (Rm iZ O C0 0 O O) (Fb O (Ob Zd O) (Sf O (Ff yQ O C0 1 O O) (Fb O (Ob Zd O) (Sf O (Ff yQ O C0 0 O O) ?_)))))))))));refine Sc hF (Ts k k' _) O (Ra OD O O O) ?_;intro w hF;refine⟨hF,?_⟩;refine Sc hF (Ao t t' _) O (Ra OB O O O) ?_;intro w hF;refine⟨hF,?_⟩;refine Sc hF (FL ks ks' A A' c c' S S' _ (hF.rep hK) (hF.rep hK')) O (Te TZ O O O O) ?_;intro w hF;refine⟨hF,?_⟩;refine Nf 3 O hF (Eb (cs:=#[J (Lib.compareInt k k'),J (Lib.compareBytes t t'),J (Li Lib.compareBytes ks ks')]) fX sizeOf3 mX Ta Ta Ib) ?_;rintro b6 w hb6 hF -;refine⟨hF.drop 1,?_⟩;refine Sc hF (or_c [Lib.compareInt k k',Lib.compareBytes t t',Li Lib.compareBytes ks ks'] _ 3 La _ (N5 (hF.cellsAll 0 O))) O (Ma EU O O) ?_;intro w hF;refine⟨hF.drop 1,?_⟩;refine Fb O (Lb O) (Ac (Ga (Fa (Da (Aa (Gb O) (Aa (Om O O) (Ca ?_)))))));refine Pb O O (λhc1=>?_) (λhc1=>?_);refine Da (Aa (Gb O) (Aa (Lb O) (Ca ?_)));refine Hc (v:=J (IK [Lib.compareInt k k',Lib.compareBytes t t',Li Lib.compareBytes ks ks'])) O O ⟨congrArg (Value.int .i64) ?_,hF.same⟩;rw[Bk];clear hF hR hR' hX hY hK hK' ih hk hk'
 ·first|(simp_all[Rh];done)|(simp_all[Rh];omega)
 refine Na (Ga (Da (Aa (Ob Ub O) (Tb (Ff zQ O hF.F 2 O O) (Aa (Ob Ub O) (Tb (Ff zQ O hF.F 1 O O) ?_))))));refine Oa hF (YI Bk xs ys B B' e e' S S' _ (hF.rep hX) (hF.rep hY) (λx hx y hy S1 S2 w1 cs1 ct1 hs h1 h2=>ih x hx y S1 S2 w1 cs1 ct1 h1 h2 (Pj hk.2.2 x hx) (Pj hk'.2.2 y hy) ((hG.ext hF.same).ext hs))) (Te GZ O O O O) ?_;intro w hF;refine Aa (Lb O) (Ca ?_);refine Hc (v:=J (Li Bk xs ys)) O O ⟨congrArg (Value.int .i64) ?_,hF.same⟩;rw[Bk];clear hF hR hR' hX hY hK hK' ih hk hk'
 ·first|(simp_all[Rh];done)|(simp_all[Rh];omega)
theorem TX(x:Tree):SH x:=Tree.ind VH x
theorem Sk{x:Tree}(h:Kg x=true):Td nodeB x=true:=by unfold Kg at h;rw[Bool.and_eq_true]at h;exact h.2
theorem of_c(s:Str)(w0:World):Calls prog 33 #[I s] w0 (Pc λv w'=>v=.agg #[J 4,I s,aQ,aQ]/\Same [] w0 w'):=by
 refine Ea func33 O ntmps33 Db (Rb _) ?_;have hF:=FR.start w0 [];refine Da (Jc (cs:=#[J 0,I [],aQ,aQ]) hF kX O ?_);rintro b1 w hb1 hF -;refine Qb (Aa (Md O) ?_);refine Ja (w':=w) (v:=.agg #[J 4,I s,aQ,aQ]) Ib (Xd hF mZ O O Qg ?_);rintro w hF -;refine Ca (Ab (Za (Ka (Uh O (l:=[J 4,I s,aQ,aQ]) O aZ mZ O (hF.cellsAll 0 O)) ?_)));exact⟨O,hF.same⟩
theorem T5(n:Int)(h1:-9223372036854775808<=n)(h2:n<=9223372036854775807)(w0:World)(hG:Gl w0):Calls prog 21 #[J n] w0 (Pc λv w'=>v=.agg #[J 3,I (Qh (M4 n)),aQ,aQ]/\Same [] w0 w'):=by
 refine Ea func21 O ntmps21 Db (Rb _) ?_;have hF:=FR.start w0 [];refine Da (Jc (cs:=#[J 0,I [],aQ,aQ]) hF kX O ?_);rintro b1 w hb1 hF -;refine Qb (Aa (Gb O) ?_);refine Oa hF (KI n h1 h2 _ (hG.ext hF.same)) (Ma NZ O O) ?_;intro w hF;refine Oa hF (Y8 (M4 n) (by have:=Wi (Lib.itoa n);exact fQ this Ta) _ (hG.ext hF.same)) (Ma OK O O) ?_;intro w hF;refine Ja (w':=w) (v:=.agg #[J 3,I (Qh (M4 n)),aQ,aQ]) Ib (Xd hF mZ O O Qg ?_);rintro w hF -;refine Ca (Ab (Za (Ka (Uh O (l:=[J 3,I (Qh (M4 n)),aQ,aQ]) O aZ mZ O (hF.cellsAll 0 O)) ?_)));exact⟨O,hF.same⟩
end Go.Scarf
