/- A part of the proof. -/
import Derived.Test.YtidlkjpohhbbcaaGreatDoorW4
set_option linter.all false
set_option maxHeartbeats 8000000
set_option maxRecDepth 10000
namespace Go.Scarf
open Go.RowKit Go.Proofs Go.Proofs.Tryz
def MapRep(S:Nat->Prop)(w:World)(xs:List Tree)(l:MapL):Prop:=∀i (h:i<l.length),∃cs:List Value,l[i].2=.agg cs.toArray/\∃h2:i<xs.length,Rep S w (Jb xs[i]) cs
theorem MapRep.nil(S:Nat->Prop)(w:World)(xs:List Tree):MapRep S w xs []:=λi h=>absurd h La
theorem MapRep.snoc{S:Nat->Prop}{w:World}{xs:List Tree}{l:MapL}{k:Str}{cs:List Value}(h:MapRep S w xs l)(hl:l.length<xs.length)(hr:Rep S w (Jb xs[l.length]) cs):MapRep S w xs (l++[(k,.agg cs.toArray)]):=by
  intro i hi;rw[dQ,List.length_singleton]at hi;by_cases he:i<l.length
  ·obtain⟨c, h1, h2, h3⟩ := h i he
   exact⟨c,by rw[List.getElem_append_left he];exact h1,h2,h3⟩
  obtain rfl : i = l.length := by omega
  exact⟨cs,by simp,hl,hr⟩
theorem QN{l:MapL}{ks:List Str}{j:Nat}(h:j<ks.length)(hl:l.map (·.1)=ks.take j)(hn:ks.Nodup):Mf l ks[j]=none:=by
  have hnot:¬ks[j]∈ks.take j:=λhm=>Jz h hm hn;rw[<-hl]at hnot;unfold Mf;rw[Option.map_eq_none_iff,List.find?_eq_none];intro x hx he;exact hnot (nQ.2 ⟨x,hx,by simpa using he⟩)
theorem GU{l:MapL}{ks:List Str}{j:Nat}{v:Value}(h:j<ks.length)(hl:l.map (·.1)=ks.take j):(l++[(ks[j],v)]).map (·.1)=ks.take (j+1):=by
  rw[jQ,hl,iQ h];rfl
theorem MW{l:MapL}{ks:List Str}{j:Nat}(h:j<=ks.length)(hl:l.map (·.1)=ks.take j):l.length=j:=by
  have:=congrArg List.length hl;rw[rQ,List.length_take]at this;omega
theorem GS(k:Int)(t:Str)(ks:List Str)(xs:List Tree)(hn:ks.Nodup)(hlen:ks.length=xs.length)(S:Nat->Prop)(w0:World)(cs:List Value)(hR:Rep S w0 (Jb (.node k t ks xs)) cs):Calls prog 137 #[.agg cs.toArray] w0 (Oc λv w'=>∃(b:Nat)(l:MapL),v=.map (some b)/\w0.heap.size<=b/\w'.heap[b]? = some (Ee l)/\l.map (·.1)=ks/\MapRep S w' xs l/\Same [] w0 w'):=by
 obtain⟨A,c,B,e,rfl,-,-,hK,hX⟩:=hR.tree_inv;have hXl:=hX.slice_len;have hKl:=hK.slice_len;refine Ea func137 O ntmps137 Bb (Tb _) ?_;have hF:=FR.start w0 [];refine Da (Df hF O ?_);rintro b1 w hb1 hF -;refine Ba (Yr) (Ob (Ba (Rb Oe O) (Yb (Ff yQ O hF.F 0 O O) (Ba (Qg iX O) ?_))));refine Tt (v:=λb=>.map (some b)) hF (NA underlying166 O) ?_;rintro b2 w hb2 hF -;refine Ba (Yr) (Ca (Fa (Da (Ba (Rb Oe O) (Yb (Ff yQ O hF.F 1 O O) (Ba (Qg iX O) (Ba (Cb O) (Ca (Sa ?_)))))))));refine Rc (λμ σ w=>∃(j:Nat),∃(l:MapL),μ=ks.length-j/\(j<=ks.length)/\(l.map (·.1)=ks.take j)/\(MapRep S w0 xs l)/\AllEq σ [(1,V b1),(3,.map (some b2)),(11,.slice A ks.length c),(12,J ((ks.length:Nat))),(13,J ((j:Int)))]/\FR w0 [] [(b2,Ee (l)),(b1,.cells #[J k,I t,.slice A ks.length c,.slice B xs.length e] 36)] w) _ ⟨0,[],O,(Nat.zero_le _),La,(MapRep.nil _ _ _),U7,hF⟩ ?_;rintro μ σ w ⟨j,l,rfl,hj,hl,hr,hs,hF⟩;refine Cg.slots hs ?_;clear hs;intro σ;have hll:=MW hj hl;refine Da (Ba (Dl O O) (Ca (Fa ?_)));refine Lb O O (λhc0=>?_) (λhc0=>?_);refine Na (Ga (Fa (Sa (Da (Ba (Cb O) ?_)))));obtain⟨ad0,hA0,hk0,hx0⟩:=hK.str_elem (i:=j) Aa;refine Ia (v:=.pointer (some (ad0.add (j*1)))) (Ra (i:=(j:Int)) Jw O hA0 O Aa Aa) (Ia (v:=I (ks[j])) (Yc fZ O (hF.cell0 hk0)) (Ba (Gb O) (Ba (Xf O) (Ca (Ja (Ba (Vp) (Ba (Pd O) (Ba (Rb Xb O) (Yb (Ff zQ O hF.F 1 O O) (Ba (Cb O) ?_))))))))));obtain⟨ad1,cs1,hA1,hl1,hk1,hx1⟩:=hX.tree_elem (i:=j) Aa;have ho1:=hx1.one_;refine Ia (v:=.pointer (some (ad1.add (j*4)))) (Ra (i:=(j:Int)) Tg O hA1 O Aa Aa) (Ia (v:=.agg (List.toArray cs1)) (Za (l:=cs1) aZ oZ O hl1 (hF.cells0 hk1)) ?_);refine Ku 0 (v:=.agg (List.toArray cs1)) hF underlying166 oX O O O O (QN Aa hl hn) ?_;rintro w hF -;have hF:FR w0 [] [(b2,Ee (l++[(ks[j],.agg (List.toArray cs1))])),(b1,.cells #[J k,I t,.slice A ks.length c,.slice B xs.length e] 36)] w:=hF
 refine Eb (Wa (Ga (Ja (Ba (Fm O O) (Ba (Cb O) (Eb ?_))))));refine Qb ⟨_,?_,j+1,l++[(ks[j],.agg (List.toArray cs1))],O,Aa,(GU Aa hl),(hr.snoc Aa (by simpa only[hll]using hx1)),U7,hF⟩;omega;refine Ic (Ec O ?_);refine Ga (Da (Ba (Vp) (Ba (Yr) (Ca ?_))));refine Lc (v:=.map (some b2)) O O ?_;refine⟨b2,l,O,by have:=hF.ge (i:=0) O;exact this,hF.heap (i:=0) O,?_,?_,hF.same⟩;rw[hl];exact List.take_of_length_le Aa;intro i hi;obtain⟨cs,h1,h2,h3⟩:=hr i hi;exact⟨cs,h1,h2,hF.rep h3⟩
def Bg:List Str->List Tree->Str->Option Tree
  | k::ks,x::xs,key=>if k=key then some x else Bg ks xs key
  | _,_,_=>none
theorem MapRep.tail{S:Nat->Prop}{w:World}{x:Tree}{xs:List Tree}{p:Str × Value}{l:MapL}(h:MapRep S w (x::xs) (p::l)):MapRep S w xs l:=by
  intro i hi;obtain⟨cs,h1,h2,h3⟩:=h (i+1) (by simpa using hi);exact⟨cs,by simpa using h1,by simpa using h2,by simpa using h3⟩
theorem O5{S:Nat->Prop}{w:World}(key:Str):∀{ks:List Str}{xs:List Tree}{l:MapL},l.map (·.1)=ks->MapRep S w xs l ->
    (Mf l key=none/\Bg ks xs key=none)\/∃(cs:List Value)(y:Tree),Mf l key=some (.agg cs.toArray)/\Bg ks xs key=some y/\y∈xs/\Rep S w (Jb y) cs
  | ks, xs, [], hk, _ => by
    left;simp only[List.map_nil]at hk;subst hk;exact⟨O,by cases xs <;> rfl⟩
  | ks, [], p :: l, hk, hm => by
    obtain⟨cs,h1,h2,h3⟩:=hm 0 La;simp at h2
  | ks, x :: xs, p :: l, hk, hm => by
    rw[List.map_cons]at hk;subst hk;by_cases h:p.1=key
    ·right
     obtain⟨cs,h1,h2,h3⟩:=hm 0 La;refine⟨cs,x,?_,by simp[Bg,h],by simp,h3⟩;simp only[List.getElem_cons_zero]at h1;simp[Mf,h,h1]
    have e1 : Mf (p :: l) key = Mf l key := by simp[Mf, h]
    have e2:Bg (p.1::l.map (·.1)) (x::xs) key=Bg (l.map (·.1)) xs key:=by simp[Bg,h]
    rw[e1,e2];rcases O5 key rfl hm.tail with h|⟨cs,y,h1,h2,h3,h4⟩
    ·exact .inl h
    exact .inr ⟨cs,y,h1,h2,by simp[h3],h4⟩
def BothC(w0:World)(g:Nat)(xs ys:List Tree)(q:Tree->Tree->Bool):Prop:=∀x,x∈xs->∀y,y∈ys->∀S S' w cs ct,Same [] w0 w->Rep S w (Jb x) cs->Rep S' w (Jb y) ct->Calls prog g #[.agg cs.toArray,.agg ct.toArray] w (Oc λv w'=>v=.bool (q x y)/\Same [] w w')
theorem BothC.ext{w0 w:World}{g:Nat}{xs ys:List Tree}{q:Tree->Tree->Bool}(h:BothC w0 g xs ys q)(hs:Same [] w0 w):BothC w g xs ys q:=λx hx y hy S S' w' cs ct hw=>h x hx y hy S S' w' cs ct (hs.trans hw)
theorem MapRep.ext{S:Nat->Prop}{w w':World}{xs:List Tree}{l:MapL}(h:MapRep S w xs l)(hs:Same [] w w'):MapRep S w' xs l:=λi hi=>by
  obtain⟨cs,h1,h2,h3⟩:=h i hi;exact⟨cs,h1,h2,h3.ext hs⟩
theorem Same.heap{w w':World}{b:Nat}{o:Obj}(hs:Same [] w w')(h:w.heap[b]? = some o):w'.heap[b]? = some o:=(hs.block b (Mb h) La).trans h
theorem N9{q:Tree->Bool}:∀{xs:List Tree},Ir q xs=true->∀x∈xs,Zd q x=true
  | [],_,_,h=>absurd h La
  | y :: ys, h, x, hx => by
    rw[Ir,Bool.and_eq_true]at h;rcases oQ.1 hx with rfl|hx
    ·exact h.1
    exact N9 h.2 x hx
theorem Zg{q:Tree->Bool}{k:Int}{t:Str}{ks:List Str}{xs:List Tree}(h:Zd q (.node k t ks xs)=true):q (.node k t ks xs)=true/\∀x∈xs,Zd q x=true:=by
  rw[Zd,Bool.and_eq_true]at h;exact⟨h.1,N9 h.2⟩
theorem Iw{t:Str}{ks:List Str}{xs:List Tree}(h:nodeB (.node 6 t ks xs)=true):ks.Nodup/\ks.length=xs.length:=by
  simp only[nodeB,So]at h;simp at h;exact⟨h.1.1.1,by omega⟩
def Ej{α:Type}(f:α->α->Int):List α->List α->Int
  | [],[]=>0
  | [],_::_=>-1
  | _::_,[]=>1
  | x::xs,y::ys=>if f x y≠0 then f x y else Ej f xs ys
theorem X_{α:Type}{f:α->α->Int}{xs ys:List α}{j:Nat}(h:j<xs.length)(h2:j<ys.length)(hq:f xs[j] ys[j]=0):Ej f (xs.drop j) (ys.drop j)=Ej f (xs.drop (j+1)) (ys.drop (j+1)):=by
  rw[List.drop_eq_getElem_cons h,List.drop_eq_getElem_cons h2,Ej,if_neg (by simpa using hq)]
theorem GQ{α:Type}{f:α->α->Int}{xs ys:List α}{j:Nat}(h:j<xs.length)(h2:j<ys.length)(hq:f xs[j] ys[j]≠0):Ej f (xs.drop j) (ys.drop j)=f xs[j] ys[j]:=by
  rw[List.drop_eq_getElem_cons h,List.drop_eq_getElem_cons h2,Ej,if_pos hq]
theorem W_{α:Type}{f:α->α->Int}{xs ys:List α}{j:Nat}(h:j<xs.length)(h2:ys.length<=j):Ej f (xs.drop j) (ys.drop j)=1:=by
  rw[List.drop_eq_getElem_cons h,List.drop_eq_nil_of_le h2,Ej]
theorem XA{α:Type}{f:α->α->Int}{xs ys:List α}{j:Nat}(h:xs.length<=j)(h2:j<ys.length):Ej f (xs.drop j) (ys.drop j) = -1:=by
  rw[List.drop_eq_getElem_cons h2,List.drop_eq_nil_of_le h,Ej]
theorem OI{α:Type}{f:α->α->Int}{xs ys:List α}{j:Nat}(h:xs.length<=j)(h2:ys.length<=j):Ej f (xs.drop j) (ys.drop j)=0:=by
  rw[List.drop_eq_nil_of_le h2,List.drop_eq_nil_of_le h,Ej]
def BothI(w0:World)(g:Nat)(xs ys:List Tree)(q:Tree->Tree->Int):Prop:=∀x,x∈xs->∀y,y∈ys->∀S S' w cs ct,Same [] w0 w->Rep S w (Jb x) cs->Rep S' w (Jb y) ct->Calls prog g #[.agg cs.toArray,.agg ct.toArray] w (Oc λv w'=>v=J (q x y)/\Same [] w w')
theorem BothI.ext{w0 w:World}{g:Nat}{xs ys:List Tree}{q:Tree->Tree->Int}(h:BothI w0 g xs ys q)(hs:Same [] w0 w):BothI w g xs ys q:=λx hx y hy S S' w' cs ct hw=>h x hx y hy S S' w' cs ct (hs.trans hw)
theorem T7(q:Tree->Tree->Int)(xs ys:List Tree)(B B':Option Addr)(e e':Nat)(S S':Nat->Prop)(w0:World)(hX:Rep S w0 (.slice (Ie xs)) [.slice B xs.length e])(hY:Rep S' w0 (.slice (Ie ys)) [.slice B' ys.length e'])(hq:BothI w0 82 xs ys q):Calls prog 200 #[.slice B xs.length e,.slice B' ys.length e',.func (.func 82) #[] #[]] w0 (Oc λv w'=>v=J (Ej q xs ys)/\Same [] w0 w'):=by
 have hXl:=hX.slice_len;have hYl:=hY.slice_len;refine Ea func200 O ntmps200 Bb (Li _ _ _) ?_;have hF:=FR.start w0 [];refine Da (Ba (Gb O) (Ca (Fa (Da (Ba (Qe O) (Ba (Qg jX O) (Ba (Cb O) (Ca (Sa ?_)))))))));refine Rc (λμ σ w=>∃(j:Nat),μ=xs.length-j/\(j<=xs.length)/\(j<=ys.length)/\(Ej q xs ys=Ej q (xs.drop j) (ys.drop j))/\AllEq σ [(0,.slice B xs.length e),(1,.slice B' ys.length e'),(2,.func (.func 82) #[] #[]),(11,.slice B xs.length e),(12,J ((xs.length:Nat))),(13,J ((j:Int)))]/\FR w0 [] [] w) _ ⟨0,O,(Nat.zero_le _),(Nat.zero_le _),La,I9,hF⟩ ?_;rintro μ σ w ⟨j,rfl,hj,hj2,hc,hs,hF⟩;refine Cg.slots hs ?_;clear hs;intro σ;refine Da (Ba (Dl O O) (Ca (Fa ?_)));refine Lb O O (λhc0=>?_) (λhc0=>?_);refine Na (Ga (Fa (Sa (Da (Ba (Cb O) ?_)))));obtain⟨ad0,cs0,hA0,hl0,hk0,hx0⟩:=hX.tree_elem (i:=j) Aa;have ho0:=hx0.one_;refine Ia (v:=.pointer (some (ad0.add (j*4)))) (Ra (i:=(j:Int)) Tg O hA0 O Aa Aa) (Ia (v:=.agg (List.toArray cs0)) (Za (l:=cs0) aZ oZ O hl0 (hF.cells0 hk0)) ?_);refine Gc (cs:=#[J 0,I [],aQ,aQ]) hF sX O ?_;rintro b1 w hb1 hF -;refine Ba (Gb O) ?_;refine Gh 0 (l:=cs0) (cs':=(List.toArray cs0)) hF (by rw[hl0];exact oZ) O (v:=.agg (List.toArray cs0)) O O (ho0) O (by rw[hl0];exact Nat.le_of_ble_eq_true O) (Gn (by rw[hl0];rfl)) ?_;rintro w hF -;refine Ca (Fa (Da (Ba (Cb O) (Ba (Qe O) (Ba (Qg jX O) (Ba (V2 O O) (Ca ?_)))))));refine Lb O O (λhc1=>?_) (λhc1=>?_);refine Da (Ba (Gb O) (Ca ?_));refine Lc (v:=J 1) O O ?_;exact⟨congrArg (Value.int .i64) (by rw[hc,W_ Aa Aa]),hF.same⟩;refine Na (Ga (Da (Ba (Qe O) (Ba (Cb O) ?_))));obtain⟨ad1,cs1,hA1,hl1,hk1,hx1⟩:=hY.tree_elem (i:=j) Aa;have ho1:=hx1.one_;refine Ia (v:=.pointer (some (ad1.add (j*4)))) (Ra (i:=(j:Int)) Tg O hA1 O Aa Aa) (Ia (v:=.agg (List.toArray cs1)) (Za (l:=cs1) aZ oZ O hl1 (hF.cells0 hk1)) ?_)
 refine Gw (l:=cs1) hF sX (by rw[hl1];exact oZ) (by rw[hl1];rfl) (v:=.agg (List.toArray cs1)) O O (ho1) O ?_;rintro b2 w hb2 hF -;refine Ob (Ba (Vp) (Ia (v:=.agg (List.toArray cs0)) (Za (l:=cs0) aZ oZ O hl0 (hF.cellsAll 1 O)) (Ia (v:=.agg (List.toArray cs1)) (Za (l:=cs1) aZ oZ O hl1 (hF.cellsAll 0 O)) ?_)));refine Qa hF (hq _ (List.getElem_mem (l:=xs) (n:=j) Aa) _ (List.getElem_mem (l:=ys) (n:=j) Aa) _ _ _ _ _ hF.same (hF.rep hx0) (hF.rep hx1)) (Ki O en_82 O O O) ?_;intro w hF;refine Ba (Gb O) (Ob (Ba (Cb O) (Ba (Sn O O) (Ca ?_))));refine Lb O O (λhc2=>?_) (λhc2=>?_);refine Da (Ba (Cb O) (Ba (Gb O) (Ca ?_)));refine Lc (v:=J (q xs[j] ys[j])) O O ?_;exact⟨congrArg (Value.int .i64) (by rw[hc,GQ Aa Aa (by simpa using hc2)]),hF.same⟩;refine Na (Wa (Ga (Ja (Ba (Fm O O) (Ba (Cb O) (Eb ?_))))));refine Qb ⟨_,?_,j+1,O,Aa,Aa,(hc.trans (X_ Aa Aa (by simpa using hc2))),I9,hF.drop 2⟩;omega;refine Ic (Ec O ?_);refine Ga (Fa (Da (Ba (Qe O) (Ba (Qg jX O) (Ba (Qe O) (Ba (Qg jX O) (Ba (Dl O O) (Ca ?_))))))));refine Lb O O (λhc3=>?_) (λhc3=>?_);refine Da (Ba (Gb O) (Ca ?_));refine Lc (v:=J ((-1))) O O ?_;exact⟨congrArg (Value.int .i64) (by rw[hc,XA Aa Aa]),hF.same⟩;refine Na (Ga (Da (Ba (Gb O) (Ca ?_))));refine Lc (v:=J 0) O O ?_;exact⟨congrArg (Value.int .i64) (by rw[hc,OI Aa Aa]),hF.same⟩
theorem R8(xs ys:List Str)(A A':Option Addr)(c c':Nat)(S S':Nat->Prop)(w0:World)(hX:Rep S w0 (Ci xs) [.slice A xs.length c])(hY:Rep S' w0 (Ci ys) [.slice A' ys.length c']):Calls prog 199 #[.slice A xs.length c,.slice A' ys.length c',.func (.func 92) #[] #[]] w0 (Oc λv w'=>v=J (Ej Lib.compareBytes xs ys)/\Same [] w0 w'):=by
 have hXl:=hX.slice_len;have hYl:=hY.slice_len;refine Ea func199 O ntmps199 Bb (Li _ _ _) ?_;have hF:=FR.start w0 [];refine Da (Ba (Gb O) (Ca (Fa (Da (Ba (Qe O) (Ba (Qg iX O) (Ba (Cb O) (Ca (Sa ?_)))))))));refine Rc (λμ σ w=>∃(j:Nat),μ=xs.length-j/\(j<=xs.length)/\(j<=ys.length)/\(Ej Lib.compareBytes xs ys=Ej Lib.compareBytes (xs.drop j) (ys.drop j))/\AllEq σ [(0,.slice A xs.length c),(1,.slice A' ys.length c'),(2,.func (.func 92) #[] #[]),(11,.slice A xs.length c),(12,J ((xs.length:Nat))),(13,J ((j:Int)))]/\FR w0 [] [] w) _ ⟨0,O,(Nat.zero_le _),(Nat.zero_le _),La,I9,hF⟩ ?_;rintro μ σ w ⟨j,rfl,hj,hj2,hc,hs,hF⟩;refine Cg.slots hs ?_;clear hs;intro σ;refine Da (Ba (Dl O O) (Ca (Fa ?_)));refine Lb O O (λhc0=>?_) (λhc0=>?_);refine Na (Ga (Fa (Sa (Da (Ba (Cb O) ?_)))));obtain⟨ad0,hA0,hk0,hx0⟩:=hX.str_elem (i:=j) Aa;refine Ia (v:=.pointer (some (ad0.add (j*1)))) (Ra (i:=(j:Int)) Jw O hA0 O Aa Aa) (Ia (v:=I (xs[j])) (Yc fZ O (hF.cell0 hk0)) (Ba (Gb O) (Ba (Xf O) (Ca (Fa (Da (Ba (Cb O) (Ba (Qe O) (Ba (Qg iX O) (Ba (V2 O O) (Eb ?_)))))))))));refine Ga (Lb O O (λhc1=>?_) (λhc1=>?_));refine Da (Ba (Gb O) (Ca ?_));refine Lc (v:=J 1) O O ?_;exact⟨congrArg (Value.int .i64) (by rw[hc,W_ Aa Aa]),hF.same⟩;refine Na (Ga (Da (Ba (Qe O) (Ba (Cb O) ?_))));obtain⟨ad1,hA1,hk1,hx1⟩:=hY.str_elem (i:=j) Aa;refine Ia (v:=.pointer (some (ad1.add (j*1)))) (Ra (i:=(j:Int)) Jw O hA1 O Aa Aa) (Ia (v:=I (ys[j])) (Yc fZ O (hF.cell0 hk1)) (Ba (Xf O) (Ob (Ba (Vp) (Ba (Pd O) (Ba (Pd O) ?_))))));refine Qa hF (Cp xs[j] ys[j] _) (Ki O ZF O O O) ?_;intro w hF;refine Ba (Gb O) (Ob (Ba (Cb O) (Ba (Sn O O) (Ca ?_))));refine Lb O O (λhc2=>?_) (λhc2=>?_);refine Da (Ba (Cb O) (Ba (Gb O) (Ca ?_)));refine Lc (v:=J (Lib.compareBytes xs[j] ys[j])) O O ?_;exact⟨congrArg (Value.int .i64) (by rw[hc,GQ Aa Aa (by simpa using hc2)]),hF.same⟩
 refine Na (Wa (Ga (Ja (Ba (Fm O O) (Ba (Cb O) (Eb ?_))))));refine Qb ⟨_,?_,j+1,O,Aa,Aa,(hc.trans (X_ Aa Aa (by simpa using hc2))),I9,hF⟩;omega;refine Ic (Ec O ?_);refine Ga (Fa (Da (Ba (Qe O) (Ba (Qg iX O) (Ba (Qe O) (Ba (Qg iX O) (Ba (Dl O O) (Ca ?_))))))));refine Lb O O (λhc3=>?_) (λhc3=>?_);refine Da (Ba (Gb O) (Ca ?_));refine Lc (v:=J ((-1))) O O ?_;exact⟨congrArg (Value.int .i64) (by rw[hc,XA Aa Aa]),hF.same⟩;refine Na (Ga (Da (Ba (Gb O) (Ca ?_))));refine Lc (v:=J 0) O O ?_;exact⟨congrArg (Value.int .i64) (by rw[hc,OI Aa Aa]),hF.same⟩
theorem GO(xs ys:List Str)(A A':Option Addr)(c c':Nat)(S S':Nat->Prop)(w0:World)(hX:Rep S w0 (Ci xs) [.slice A xs.length c])(hY:Rep S' w0 (Ci ys) [.slice A' ys.length c']):Calls prog 135 #[.slice A xs.length c,.slice A' ys.length c',.func (.func 92) #[] #[]] w0 (Oc λv w'=>v=J (Ej Lib.compareBytes xs ys)/\Same [] w0 w'):=by
 refine Ea func135 O ntmps135 Bb (Li _ _ _) ?_;have hF:=FR.start w0 [];refine Da (Ba (Gb O) (Ob (Ba (Qe O) (Ba (Qe O) (Ba (Vp) ?_)))));refine Qa hF (R8 xs ys A A' c c' S S' _ (hF.rep hX) (hF.rep hY)) (De en_199 O O O O) ?_;intro w hF;refine Ba (Gb O) (Ca ?_);refine Lc (v:=J (Ej Lib.compareBytes xs ys)) O O ?_;exact⟨O,hF.same⟩
theorem YN(q:Tree->Tree->Int)(xs ys:List Tree)(B B':Option Addr)(e e':Nat)(S S':Nat->Prop)(w0:World)(hX:Rep S w0 (.slice (Ie xs)) [.slice B xs.length e])(hY:Rep S' w0 (.slice (Ie ys)) [.slice B' ys.length e'])(hq:BothI w0 82 xs ys q):Calls prog 136 #[.slice B xs.length e,.slice B' ys.length e',.func (.func 82) #[] #[]] w0 (Oc λv w'=>v=J (Ej q xs ys)/\Same [] w0 w'):=by
 refine Ea func136 O ntmps136 Bb (Li _ _ _) ?_;have hF:=FR.start w0 [];refine Da (Ba (Gb O) (Ob (Ba (Qe O) (Ba (Qe O) (Ba (Vp) ?_)))));refine Qa hF (T7 q xs ys B B' e e' S S' _ (hF.rep hX) (hF.rep hY) (hq.ext hF.same)) (De en_200 O O O O) ?_;intro w hF;refine Ba (Gb O) (Ca ?_);refine Lc (v:=J (Ej q xs ys)) O O ?_;exact⟨O,hF.same⟩
mutual
def Al:Tree->Tree->Int
  | .node k t ks xs, .node k' t' ks' ys => if k = 3 /\ k' = 3 then VE (Uc t).1 (Uc t').1 else
    if VO [Lib.compareInt k k',Lib.compareBytes t t',Ej Lib.compareBytes ks ks']≠0 then VO [Lib.compareInt k k',Lib.compareBytes t t',Ej Lib.compareBytes ks ks'] else Xw xs ys
def Xw:List Tree->List Tree->Int
  | [],[]=>0
  | [],_::_=>-1
  | _::_,[]=>1
  | x::xs,y::ys=>if Al x y≠0 then Al x y else Xw xs ys
end
theorem Ji:∀xs ys:List Tree,Ej Al xs ys=Xw xs ys
  | [],[]=>by rw[Ej,Xw]
  | [],_::_=>by rw[Ej,Xw]
  | _::_,[]=>by rw[Ej,Xw]
  | x::xs,y::ys=>by rw[Ej,Xw,Ji xs ys]
def JK(x:Tree):Prop:=∀y S S' w0 cs ct,Rep S w0 (Jb x) cs->Rep S' w0 (Jb y) ct->Wp x->Wp y->Gl w0->Calls prog 82 #[.agg cs.toArray,.agg ct.toArray] w0 (Oc λv w'=>v=J (Al x y)/\Same [] w0 w')
theorem OM(k:Int)(t:Str)(ks:List Str)(xs:List Tree)(ih:∀x,x∈xs->JK x):JK (.node k t ks xs):=by
 rintro⟨k',t',ks',ys⟩ S S' w0 cs ct hR hR' hk hk' hG;rw[Wp]at hk;rw[Wp]at hk';obtain⟨A,c,B,e,rfl,-,-,hK,hX⟩:=hR.tree_inv;obtain⟨A',c',B',e',rfl,-,-,hK',hY⟩:=hR'.tree_inv;refine Ea func82 O ntmps82 Bb (Nc _ _) ?_;have hF:=FR.start w0 [];refine Da (Df hF O ?_);rintro b1 w hb1 hF -;refine Df hF O ?_;rintro b2 w hb2 hF -;refine Ba (Gb O) (Ca (Fa (Da (Ba (Rb Ve O) (Yb (Pi xQ O hF.F 1 O O) (Ba (Xh O O) (Ba (Sc O) ?_)))))));refine Wb (d:=13) O (λhg0=>?_) (λhg0=>?_);refine Ba (Rb Ve O) (Yb (Pi xQ O hF.F 0 O O) (Ba (Xh O O) (Ba (Fc O O) (Ca ?_))));refine Lb O O (λhc0=>?_) (λhc0=>?_);refine Da (Ba (Rb Bf O) (Yb (Tn fZ O hF.F 1 O O) ?_));refine Qa hF (Dv t hk.1 _ (hG.ext hF.same)) (Ma XC O O) ?_;intro w hF;refine Ba (Aj O) (Ba (Ru O O) (Ba (Xn O O) ?_));refine Hf hF wX tZ O ?_;rintro b3 w hb3 hF -;refine Ba (Kb O) (Ob (Ba (Rb Bf O) (Yb (Tn fZ O hF.F 1 O O) ?_)));refine Qa hF (Dv t' hk'.1 _ (hG.ext hF.same)) (Ma XC O O) ?_;intro w hF;refine Ba (Aj O) (Ba (Ru O O) (Ba (Xn O O) ?_));refine Hf hF wX tZ O ?_;rintro b4 w hb4 hF -;refine Ba (Kb O) (Ob (Yb (Ig gZ tZ O hF.F 1 O O) (Yb (Ig gZ tZ O hF.F 0 O O) ?_)));refine Qa hF (FE (Uc t).1 (Uc t').1 (by have:=Ij t;omega) (by have:=Ij t';omega) _) (Ua en_132 O O O) ?_;intro w hF;refine Ba (Gb O) (Ca ?_);refine Lc (v:=J (VE (Uc t).1 (Uc t').1)) O O ⟨congrArg (Value.int .i64) ?_,hF.same⟩;rw[Al];clear hF hR hR' hX hY hK hK' ih hk hk'
 ·first|(simp_all[Ji];done)|(simp_all[Ji];omega)
 refine Na (Ga (Fa ?_));refine Be (zs:=.of []) (bQ [0,1,2,3,5,6,7,8,10,11,12,13] (cQ [4,9,14,15,16] (.free 17 .nil))) hF ?_;intro w hF;refine Hb O (Rb Ve O) (Nf O (Pi xQ O C0 1 O O) (Hb O (Rb Ve O) (Nf O (Pi xQ O C0 0 O O) (Hb O (Rb Bf O) (Nf O (Tn fZ O C0 1 O O) (Hb O (Rb Bf O) (Nf O (Tn fZ O C0 0 O O) (Hb O (Rb Oe O) (Nf O (Ff yQ O C0 1 O O) (Hb O (Rb Oe O) (Nf O (Ff yQ O C0 0 O O) ?_)))))))))));refine Vd hF (Yy k k' _) O (Ua CE O O O) ?_;intro w hF;refine⟨hF,?_⟩;refine Vd hF (Cp t t' _) O (Ua ZF O O O) ?_;intro w hF;refine⟨hF,?_⟩;refine Vd hF (GO ks ks' A A' c c' S S' _ (hF.rep hK) (hF.rep hK')) O (De en_135 O O O O) ?_;intro w hF;refine⟨hF,?_⟩;refine Of 3 O hF (Fb (cs:=#[J (Lib.compareInt k k'),J (Lib.compareBytes t t'),J (Ej Lib.compareBytes ks ks')]) lX sizeOf3 rX Oa Oa Ib) ?_;rintro b5 w hb5 hF -;refine⟨hF.drop 1,?_⟩;refine Vd hF (or_c [Lib.compareInt k k',Lib.compareBytes t t',Ej Lib.compareBytes ks ks'] _ 3 La _ (K9 (hF.cellsAll 0 O))) O (Ma QK O O) ?_;intro w hF;refine⟨hF.drop 1,?_⟩;refine Hb O (Gb O) (d_nil (Ga (Fa (Da (Ba (Cb O) (Ba (Sn O O) (Ca ?_)))))));refine Lb O O (λhc1=>?_) (λhc1=>?_);refine Da (Ba (Cb O) (Ba (Gb O) (Ca ?_)));refine Lc (v:=J (VO [Lib.compareInt k k',Lib.compareBytes t t',Ej Lib.compareBytes ks ks'])) O O ⟨congrArg (Value.int .i64) ?_,hF.same⟩;rw[Al];clear hF hR hR' hX hY hK hK' ih hk hk'
 ·first|(simp_all[Ji];done)|(simp_all[Ji];omega)
 refine Na (Ga (Da (Ba (Rb Xb O) (Yb (Ff zQ O hF.F 2 O O) (Ba (Rb Xb O) (Yb (Ff zQ O hF.F 1 O O) ?_))))));refine Qa hF (YN Al xs ys B B' e e' S S' _ (hF.rep hX) (hF.rep hY) (λx hx y hy S1 S2 w1 cs1 ct1 hs h1 h2=>ih x hx y S1 S2 w1 cs1 ct1 h1 h2 (Nk hk.2.2 x hx) (Nk hk'.2.2 y hy) ((hG.ext hF.same).ext hs))) (De en_136 O O O O) ?_;intro w hF;refine Ba (Gb O) (Ca ?_);refine Lc (v:=J (Ej Al xs ys)) O O ⟨congrArg (Value.int .i64) ?_,hF.same⟩;rw[Al];clear hF hR hR' hX hY hK hK' ih hk hk'
 ·first|(simp_all[Ji];done)|(simp_all[Ji];omega)
 refine Ha (Ha (Ha (Ba (Pc O O) (Ca (Dr O (Fa ?_))))));refine Be (zs:=.of []) (bQ [0,1,2,3,5,6,7,8,10,11,12,13] (cQ [4,9,14,15,16] (.free 17 .nil))) hF ?_;intro w hF;refine Hb O (Rb Ve O) (Nf O (Pi xQ O C0 1 O O) (Hb O (Rb Ve O) (Nf O (Pi xQ O C0 0 O O) (Hb O (Rb Bf O) (Nf O (Tn fZ O C0 1 O O) (Hb O (Rb Bf O) (Nf O (Tn fZ O C0 0 O O) (Hb O (Rb Oe O) (Nf O (Ff yQ O C0 1 O O) (Hb O (Rb Oe O) (Nf O (Ff yQ O C0 0 O O) ?_)))))))))));refine Vd hF (Yy k k' _) O (Ua CE O O O) ?_;intro w hF;refine⟨hF,?_⟩;refine Vd hF (Cp t t' _) O (Ua ZF O O O) ?_;intro w hF;refine⟨hF,?_⟩;refine Vd hF (GO ks ks' A A' c c' S S' _ (hF.rep hK) (hF.rep hK')) O (De en_135 O O O O) ?_;intro w hF;refine⟨hF,?_⟩;refine Of 3 O hF (Fb (cs:=#[J (Lib.compareInt k k'),J (Lib.compareBytes t t'),J (Ej Lib.compareBytes ks ks')]) lX sizeOf3 rX Oa Oa Ib) ?_;rintro b6 w hb6 hF -;refine⟨hF.drop 1,?_⟩;refine Vd hF (or_c [Lib.compareInt k k',Lib.compareBytes t t',Ej Lib.compareBytes ks ks'] _ 3 La _ (K9 (hF.cellsAll 0 O))) O (Ma QK O O) ?_;intro w hF;refine⟨hF.drop 1,?_⟩;refine Hb O (Gb O) (d_nil (Ga (Fa (Da (Ba (Cb O) (Ba (Sn O O) (Ca ?_)))))));refine Lb O O (λhc1=>?_) (λhc1=>?_);refine Da (Ba (Cb O) (Ba (Gb O) (Ca ?_)));refine Lc (v:=J (VO [Lib.compareInt k k',Lib.compareBytes t t',Ej Lib.compareBytes ks ks'])) O O ⟨congrArg (Value.int .i64) ?_,hF.same⟩;rw[Al];clear hF hR hR' hX hY hK hK' ih hk hk'
 ·first|(simp_all[Ji];done)|(simp_all[Ji];omega)
 refine Na (Ga (Da (Ba (Rb Xb O) (Yb (Ff zQ O hF.F 2 O O) (Ba (Rb Xb O) (Yb (Ff zQ O hF.F 1 O O) ?_))))));refine Qa hF (YN Al xs ys B B' e e' S S' _ (hF.rep hX) (hF.rep hY) (λx hx y hy S1 S2 w1 cs1 ct1 hs h1 h2=>ih x hx y S1 S2 w1 cs1 ct1 h1 h2 (Nk hk.2.2 x hx) (Nk hk'.2.2 y hy) ((hG.ext hF.same).ext hs))) (De en_136 O O O O) ?_;intro w hF;refine Ba (Gb O) (Ca ?_);refine Lc (v:=J (Ej Al xs ys)) O O ⟨congrArg (Value.int .i64) ?_,hF.same⟩;rw[Al];clear hF hR hR' hX hY hK hK' ih hk hk'
 ·first|(simp_all[Ji];done)|(simp_all[Ji];omega)
theorem order_c(x:Tree):JK x:=Tree.ind OM x
theorem Nl{x:Tree}(h:Ag x=true):Zd nodeB x=true:=by unfold Ag at h;rw[Bool.and_eq_true]at h;exact h.2
theorem of_c(s:Str)(w0:World):Calls prog 36 #[I s] w0 (Oc λv w'=>v=.agg #[J 4,I s,aQ,aQ]/\Same [] w0 w'):=by
 refine Ea func36 O ntmps36 Bb (Tb _) ?_;have hF:=FR.start w0 [];refine Da (Gc (cs:=#[J 0,I [],aQ,aQ]) hF sX O ?_);rintro b1 w hb1 hF -;refine Ob (Ba (Pd O) ?_);refine Ia (w':=w) (v:=.agg #[J 4,I s,aQ,aQ]) Ib (Ke hF oZ O O Oi ?_);rintro w hF -;refine Ca (Xa (Va (Ka (Ni O (l:=[J 4,I s,aQ,aQ]) O aZ oZ O (hF.cellsAll 0 O)) ?_)));exact⟨O,hF.same⟩
theorem W9(n:Int)(h1:-9223372036854775808<=n)(h2:n<=9223372036854775807)(w0:World)(hG:Gl w0):Calls prog 30 #[J n] w0 (Oc λv w'=>v=.agg #[J 3,I (Gi (Q8 n)),aQ,aQ]/\Same [] w0 w'):=by
 refine Ea func30 O ntmps30 Bb (Tb _) ?_;have hF:=FR.start w0 [];refine Da (Gc (cs:=#[J 0,I [],aQ,aQ]) hF sX O ?_);rintro b1 w hb1 hF -;refine Ob (Ba (Cb O) ?_);refine Qa hF (ZP n h1 h2 _ (hG.ext hF.same)) (Ma en_66 O O) ?_;intro w hF;refine Qa hF (IC (Q8 n) (by have:=Ij (Lib.itoa n);exact fQ this Oa) _ (hG.ext hF.same)) (Ma NO O O) ?_;intro w hF;refine Ia (w':=w) (v:=.agg #[J 3,I (Gi (Q8 n)),aQ,aQ]) Ib (Ke hF oZ O O Oi ?_);rintro w hF -;refine Ca (Xa (Va (Ka (Ni O (l:=[J 3,I (Gi (Q8 n)),aQ,aQ]) O aZ oZ O (hF.cellsAll 0 O)) ?_)));exact⟨O,hF.same⟩
end Go.Scarf
