/- A part of the proof. -/
import Derived.Test.YtidlkjpohhbbcaaGreatDoorW4
set_option linter.all false
set_option maxHeartbeats 8000000
set_option maxRecDepth 10000
namespace Go.Scarf
open Go.RowKit Go.Proofs Go.Proofs.Tryz
def MapRep(S:Nat->Prop)(w:World)(xs:List Tree)(l:MapL):Prop:=∀i (h:i<l.length),∃cs:List Value,l[i].2=.agg cs.toArray/\∃h2:i<xs.length,Rep S w (Ob xs[i]) cs
theorem MapRep.nil(S:Nat->Prop)(w:World)(xs:List Tree):MapRep S w xs []:=λi h=>absurd h Oa
theorem MapRep.snoc{S:Nat->Prop}{w:World}{xs:List Tree}{l:MapL}{k:Str}{cs:List Value}(h:MapRep S w xs l)(hl:l.length<xs.length)(hr:Rep S w (Ob xs[l.length]) cs):MapRep S w xs (l++[(k,.agg cs.toArray)]):=by
  intro i hi;rw[dQ,List.length_singleton]at hi;by_cases he:i<l.length
  ·obtain⟨c, h1, h2, h3⟩ := h i he
   exact⟨c,by rw[List.getElem_append_left he];exact h1,h2,h3⟩
  obtain rfl : i = l.length := by omega
  exact⟨cs,by simp,hl,hr⟩
theorem VO{l:MapL}{ks:List Str}{j:Nat}(h:j<ks.length)(hl:l.map (·.1)=ks.take j)(hn:ks.Nodup):Wh l ks[j]=none:=by
  have hnot:¬ks[j]∈ks.take j:=λhm=>Et h hm hn;rw[<-hl]at hnot;unfold Wh;rw[Option.map_eq_none_iff,List.find?_eq_none];intro x hx he;exact hnot (nQ.2 ⟨x,hx,by simpa using he⟩)
theorem YU{l:MapL}{ks:List Str}{j:Nat}{v:Value}(h:j<ks.length)(hl:l.map (·.1)=ks.take j):(l++[(ks[j],v)]).map (·.1)=ks.take (j+1):=by
  rw[jQ,hl,iQ h];rfl
theorem keys_len{l:MapL}{ks:List Str}{j:Nat}(h:j<=ks.length)(hl:l.map (·.1)=ks.take j):l.length=j:=by
  have:=congrArg List.length hl;rw[rQ,List.length_take]at this;omega
theorem WV(k:Int)(t:Str)(ks:List Str)(xs:List Tree)(hn:ks.Nodup)(hlen:ks.length=xs.length)(S:Nat->Prop)(w0:World)(cs:List Value)(hR:Rep S w0 (Ob (.node k t ks xs)) cs):Calls prog 137 #[.agg cs.toArray] w0 (Yc λv w'=>∃(b:Nat)(l:MapL),v=.map (some b)/\w0.heap.size<=b/\w'.heap[b]? = some (Si l)/\l.map (·.1)=ks/\MapRep S w' xs l/\Same [] w0 w'):=by
 obtain⟨A,c,B,e,rfl,-,-,hK,hX⟩:=hR.tree_inv;have hXl:=hX.slice_len;have hKl:=hK.slice_len;refine Fa func137 O ntmps137 Ab (Wb _) ?_;have hF:=FR.start w0 [];refine Ea (Ce hF O ?_);rintro b1 w hb1 hF -;refine Ba (O2) (Lb (Ba (Mb Tc O) (Xb (Ie yQ O hF.F 0 O O) (Ba (Nf cX O) ?_))));refine Nx (v:=λb=>.map (some b)) hF (QB underlying166 O) ?_;rintro b2 w hb2 hF -;refine Ba (O2) (Da (Ga (Ea (Ba (Mb Tc O) (Xb (Ie yQ O hF.F 1 O O) (Ba (Nf cX O) (Ba (Za O) (Da (Qa ?_)))))))));refine Fc (λμ σ w=>∃(j:Nat),∃(l:MapL),μ=ks.length-j/\(j<=ks.length)/\(l.map (·.1)=ks.take j)/\(MapRep S w0 xs l)/\AllEq σ [(1,V b1),(3,.map (some b2)),(11,.slice A ks.length c),(12,J ((ks.length:Nat))),(13,J ((j:Int)))]/\FR w0 [] [(b2,Si (l)),(b1,.cells #[J k,I t,.slice A ks.length c,.slice B xs.length e] 36)] w) _ ⟨0,[],O,(Nat.zero_le _),Oa,(MapRep.nil _ _ _),Uq,hF⟩ ?_;rintro μ σ w ⟨j,l,rfl,hj,hl,hr,hs,hF⟩;refine Cg.slots hs ?_;clear hs;intro σ;have hll:=keys_len hj hl;refine Ea (Ba (Pg O O) (Da (Ga ?_)));refine Jb O O (λhc0=>?_) (λhc0=>?_);refine Ka (Ha (Ga (Qa (Ea (Ba (Za O) ?_)))));obtain⟨ad0,hA0,hk0,hx0⟩:=hK.str_elem (i:=j) Aa;refine Ia (v:=.pointer (some (ad0.add (j*1)))) (Na (i:=(j:Int)) Pk O hA0 O Aa Aa) (Ia (v:=I (ks[j])) (Nc iZ O (hF.cell0 hk0)) (Ba (Fb O) (Ba (He O) (Da (Ja (Ba (Pu) (Ba (Ad O) (Ba (Mb Tb O) (Xb (Ie zQ O hF.F 1 O O) (Ba (Za O) ?_))))))))));obtain⟨ad1,cs1,hA1,hl1,hk1,hx1⟩:=hX.tree_elem (i:=j) Aa;have ho1:=hx1.one_;refine Ia (v:=.pointer (some (ad1.add (j*4)))) (Na (i:=(j:Int)) Wf O hA1 O Aa Aa) (Ia (v:=.agg (List.toArray cs1)) (Wa (l:=cs1) aZ nZ O hl1 (hF.cells0 hk1)) ?_);refine Z4 0 (v:=.agg (List.toArray cs1)) hF underlying166 kX O O O O (VO Aa hl hn) ?_;rintro w hF -;have hF:FR w0 [] [(b2,Si (l++[(ks[j],.agg (List.toArray cs1))])),(b1,.cells #[J k,I t,.slice A ks.length c,.slice B xs.length e] 36)] w:=hF
 refine Va (Ya (Ha (Ja (Ba (Cl O O) (Ba (Za O) (Va ?_))))));refine Ta ⟨_,?_,j+1,l++[(ks[j],.agg (List.toArray cs1))],O,Aa,(YU Aa hl),(hr.snoc Aa (by simpa only[hll]using hx1)),Uq,hF⟩;omega;refine Bc (Yb O ?_);refine Ha (Ea (Ba (Pu) (Ba (O2) (Da ?_))));refine Gc (v:=.map (some b2)) O O ?_;refine⟨b2,l,O,by have:=hF.ge (i:=0) O;exact this,hF.heap (i:=0) O,?_,?_,hF.same⟩;rw[hl];exact List.take_of_length_le Aa;intro i hi;obtain⟨cs,h1,h2,h3⟩:=hr i hi;exact⟨cs,h1,h2,hF.rep h3⟩
def Ig:List Str->List Tree->Str->Option Tree
  | k::ks,x::xs,key=>if k=key then some x else Ig ks xs key
  | _,_,_=>none
theorem MapRep.tail{S:Nat->Prop}{w:World}{x:Tree}{xs:List Tree}{p:Str × Value}{l:MapL}(h:MapRep S w (x::xs) (p::l)):MapRep S w xs l:=by
  intro i hi;obtain⟨cs,h1,h2,h3⟩:=h (i+1) (by simpa using hi);exact⟨cs,by simpa using h1,by simpa using h2,by simpa using h3⟩
theorem D7{S:Nat->Prop}{w:World}(key:Str):∀{ks:List Str}{xs:List Tree}{l:MapL},l.map (·.1)=ks->MapRep S w xs l ->
    (Wh l key=none/\Ig ks xs key=none)\/∃(cs:List Value)(y:Tree),Wh l key=some (.agg cs.toArray)/\Ig ks xs key=some y/\y∈xs/\Rep S w (Ob y) cs
  | ks, xs, [], hk, _ => by
    left;simp only[List.map_nil]at hk;subst hk;exact⟨O,by cases xs <;> rfl⟩
  | ks, [], p :: l, hk, hm => by
    obtain⟨cs,h1,h2,h3⟩:=hm 0 Oa;simp at h2
  | ks, x :: xs, p :: l, hk, hm => by
    rw[List.map_cons]at hk;subst hk;by_cases h:p.1=key
    ·right
     obtain⟨cs,h1,h2,h3⟩:=hm 0 Oa;refine⟨cs,x,?_,by simp[Ig,h],by simp,h3⟩;simp only[List.getElem_cons_zero]at h1;simp[Wh,h,h1]
    have e1 : Wh (p :: l) key = Wh l key := by simp[Wh, h]
    have e2:Ig (p.1::l.map (·.1)) (x::xs) key=Ig (l.map (·.1)) xs key:=by simp[Ig,h]
    rw[e1,e2];rcases D7 key rfl hm.tail with h|⟨cs,y,h1,h2,h3,h4⟩
    ·exact .inl h
    exact .inr ⟨cs,y,h1,h2,by simp[h3],h4⟩
def BothC(w0:World)(g:Nat)(xs ys:List Tree)(q:Tree->Tree->Bool):Prop:=∀x,x∈xs->∀y,y∈ys->∀S S' w cs ct,Same [] w0 w->Rep S w (Ob x) cs->Rep S' w (Ob y) ct->Calls prog g #[.agg cs.toArray,.agg ct.toArray] w (Yc λv w'=>v=.bool (q x y)/\Same [] w w')
theorem BothC.ext{w0 w:World}{g:Nat}{xs ys:List Tree}{q:Tree->Tree->Bool}(h:BothC w0 g xs ys q)(hs:Same [] w0 w):BothC w g xs ys q:=λx hx y hy S S' w' cs ct hw=>h x hx y hy S S' w' cs ct (hs.trans hw)
theorem MapRep.ext{S:Nat->Prop}{w w':World}{xs:List Tree}{l:MapL}(h:MapRep S w xs l)(hs:Same [] w w'):MapRep S w' xs l:=λi hi=>by
  obtain⟨cs,h1,h2,h3⟩:=h i hi;exact⟨cs,h1,h2,h3.ext hs⟩
theorem Same.heap{w w':World}{b:Nat}{o:Obj}(hs:Same [] w w')(h:w.heap[b]? = some o):w'.heap[b]? = some o:=(hs.block b (Ac h) Oa).trans h
theorem QC{q:Tree->Bool}:∀{xs:List Tree},Gs q xs=true->∀x∈xs,Me q x=true
  | [],_,_,h=>absurd h Oa
  | y :: ys, h, x, hx => by
    rw[Gs,Bool.and_eq_true]at h;rcases oQ.1 hx with rfl|hx
    ·exact h.1
    exact QC h.2 x hx
theorem Bh{q:Tree->Bool}{k:Int}{t:Str}{ks:List Str}{xs:List Tree}(h:Me q (.node k t ks xs)=true):q (.node k t ks xs)=true/\∀x∈xs,Me q x=true:=by
  rw[Me,Bool.and_eq_true]at h;exact⟨h.1,QC h.2⟩
theorem Wv{t:Str}{ks:List Str}{xs:List Tree}(h:nodeB (.node 6 t ks xs)=true):ks.Nodup/\ks.length=xs.length:=by
  simp only[nodeB,Om]at h;simp at h;exact⟨h.1.1.1,by omega⟩
def Tg{α:Type}(f:α->α->Int):List α->List α->Int
  | [],[]=>0
  | [],_::_=>-1
  | _::_,[]=>1
  | x::xs,y::ys=>if f x y≠0 then f x y else Tg f xs ys
theorem H2{α:Type}{f:α->α->Int}{xs ys:List α}{j:Nat}(h:j<xs.length)(h2:j<ys.length)(hq:f xs[j] ys[j]=0):Tg f (xs.drop j) (ys.drop j)=Tg f (xs.drop (j+1)) (ys.drop (j+1)):=by
  rw[List.drop_eq_getElem_cons h,List.drop_eq_getElem_cons h2,Tg,if_neg (by simpa using hq)]
theorem EF{α:Type}{f:α->α->Int}{xs ys:List α}{j:Nat}(h:j<xs.length)(h2:j<ys.length)(hq:f xs[j] ys[j]≠0):Tg f (xs.drop j) (ys.drop j)=f xs[j] ys[j]:=by
  rw[List.drop_eq_getElem_cons h,List.drop_eq_getElem_cons h2,Tg,if_pos hq]
theorem L3{α:Type}{f:α->α->Int}{xs ys:List α}{j:Nat}(h:j<xs.length)(h2:ys.length<=j):Tg f (xs.drop j) (ys.drop j)=1:=by
  rw[List.drop_eq_getElem_cons h,List.drop_eq_nil_of_le h2,Tg]
theorem W2{α:Type}{f:α->α->Int}{xs ys:List α}{j:Nat}(h:xs.length<=j)(h2:j<ys.length):Tg f (xs.drop j) (ys.drop j) = -1:=by
  rw[List.drop_eq_getElem_cons h2,List.drop_eq_nil_of_le h,Tg]
theorem Q9{α:Type}{f:α->α->Int}{xs ys:List α}{j:Nat}(h:xs.length<=j)(h2:ys.length<=j):Tg f (xs.drop j) (ys.drop j)=0:=by
  rw[List.drop_eq_nil_of_le h2,List.drop_eq_nil_of_le h,Tg]
def BothI(w0:World)(g:Nat)(xs ys:List Tree)(q:Tree->Tree->Int):Prop:=∀x,x∈xs->∀y,y∈ys->∀S S' w cs ct,Same [] w0 w->Rep S w (Ob x) cs->Rep S' w (Ob y) ct->Calls prog g #[.agg cs.toArray,.agg ct.toArray] w (Yc λv w'=>v=J (q x y)/\Same [] w w')
theorem BothI.ext{w0 w:World}{g:Nat}{xs ys:List Tree}{q:Tree->Tree->Int}(h:BothI w0 g xs ys q)(hs:Same [] w0 w):BothI w g xs ys q:=λx hx y hy S S' w' cs ct hw=>h x hx y hy S S' w' cs ct (hs.trans hw)
theorem U7(q:Tree->Tree->Int)(xs ys:List Tree)(B B':Option Addr)(e e':Nat)(S S':Nat->Prop)(w0:World)(hX:Rep S w0 (.slice (Fe xs)) [.slice B xs.length e])(hY:Rep S' w0 (.slice (Fe ys)) [.slice B' ys.length e'])(hq:BothI w0 82 xs ys q):Calls prog 200 #[.slice B xs.length e,.slice B' ys.length e',.func (.func 82) #[] #[]] w0 (Yc λv w'=>v=J (Tg q xs ys)/\Same [] w0 w'):=by
 have hXl:=hX.slice_len;have hYl:=hY.slice_len;refine Fa func200 O ntmps200 Ab (Ik _ _ _) ?_;have hF:=FR.start w0 [];refine Ea (Ba (Fb O) (Da (Ga (Ea (Ba (Hd O) (Ba (Nf dX O) (Ba (Za O) (Da (Qa ?_)))))))));refine Fc (λμ σ w=>∃(j:Nat),μ=xs.length-j/\(j<=xs.length)/\(j<=ys.length)/\(Tg q xs ys=Tg q (xs.drop j) (ys.drop j))/\AllEq σ [(0,.slice B xs.length e),(1,.slice B' ys.length e'),(2,.func (.func 82) #[] #[]),(11,.slice B xs.length e),(12,J ((xs.length:Nat))),(13,J ((j:Int)))]/\FR w0 [] [] w) _ ⟨0,O,(Nat.zero_le _),(Nat.zero_le _),Oa,Du,hF⟩ ?_;rintro μ σ w ⟨j,rfl,hj,hj2,hc,hs,hF⟩;refine Cg.slots hs ?_;clear hs;intro σ;refine Ea (Ba (Pg O O) (Da (Ga ?_)));refine Jb O O (λhc0=>?_) (λhc0=>?_);refine Ka (Ha (Ga (Qa (Ea (Ba (Za O) ?_)))));obtain⟨ad0,cs0,hA0,hl0,hk0,hx0⟩:=hX.tree_elem (i:=j) Aa;have ho0:=hx0.one_;refine Ia (v:=.pointer (some (ad0.add (j*4)))) (Na (i:=(j:Int)) Wf O hA0 O Aa Aa) (Ia (v:=.agg (List.toArray cs0)) (Wa (l:=cs0) aZ nZ O hl0 (hF.cells0 hk0)) ?_);refine Pc (cs:=#[J 0,I [],aQ,aQ]) hF oX O ?_;rintro b1 w hb1 hF -;refine Ba (Fb O) ?_;refine Fg 0 (l:=cs0) (cs':=(List.toArray cs0)) hF (by rw[hl0];exact nZ) O (v:=.agg (List.toArray cs0)) O O (ho0) O (by rw[hl0];exact Nat.le_of_ble_eq_true O) (Gn (by rw[hl0];rfl)) ?_;rintro w hF -;refine Da (Ga (Ea (Ba (Za O) (Ba (Hd O) (Ba (Nf dX O) (Ba (Vx O O) (Da ?_)))))));refine Jb O O (λhc1=>?_) (λhc1=>?_);refine Ea (Ba (Fb O) (Da ?_));refine Gc (v:=J 1) O O ?_;exact⟨congrArg (Value.int .i64) (by rw[hc,L3 Aa Aa]),hF.same⟩;refine Ka (Ha (Ea (Ba (Hd O) (Ba (Za O) ?_))));obtain⟨ad1,cs1,hA1,hl1,hk1,hx1⟩:=hY.tree_elem (i:=j) Aa;have ho1:=hx1.one_;refine Ia (v:=.pointer (some (ad1.add (j*4)))) (Na (i:=(j:Int)) Wf O hA1 O Aa Aa) (Ia (v:=.agg (List.toArray cs1)) (Wa (l:=cs1) aZ nZ O hl1 (hF.cells0 hk1)) ?_)
 refine J4 (l:=cs1) hF oX (by rw[hl1];exact nZ) (by rw[hl1];rfl) (v:=.agg (List.toArray cs1)) O O (ho1) O ?_;rintro b2 w hb2 hF -;refine Lb (Ba (Pu) (Ia (v:=.agg (List.toArray cs0)) (Wa (l:=cs0) aZ nZ O hl0 (hF.cellsAll 1 O)) (Ia (v:=.agg (List.toArray cs1)) (Wa (l:=cs1) aZ nZ O hl1 (hF.cellsAll 0 O)) ?_)));refine Pa hF (hq _ (List.getElem_mem (l:=xs) (n:=j) Aa) _ (List.getElem_mem (l:=ys) (n:=j) Aa) _ _ _ _ _ hF.same (hF.rep hx0) (hF.rep hx1)) (Nj O en_82 O O O) ?_;intro w hF;refine Ba (Fb O) (Lb (Ba (Za O) (Ba (Wm O O) (Da ?_))));refine Jb O O (λhc2=>?_) (λhc2=>?_);refine Ea (Ba (Za O) (Ba (Fb O) (Da ?_)));refine Gc (v:=J (q xs[j] ys[j])) O O ?_;exact⟨congrArg (Value.int .i64) (by rw[hc,EF Aa Aa (by simpa using hc2)]),hF.same⟩;refine Ka (Ya (Ha (Ja (Ba (Cl O O) (Ba (Za O) (Va ?_))))));refine Ta ⟨_,?_,j+1,O,Aa,Aa,(hc.trans (H2 Aa Aa (by simpa using hc2))),Du,hF.drop 2⟩;omega;refine Bc (Yb O ?_);refine Ha (Ga (Ea (Ba (Hd O) (Ba (Nf dX O) (Ba (Hd O) (Ba (Nf dX O) (Ba (Pg O O) (Da ?_))))))));refine Jb O O (λhc3=>?_) (λhc3=>?_);refine Ea (Ba (Fb O) (Da ?_));refine Gc (v:=J ((-1))) O O ?_;exact⟨congrArg (Value.int .i64) (by rw[hc,W2 Aa Aa]),hF.same⟩;refine Ka (Ha (Ea (Ba (Fb O) (Da ?_))));refine Gc (v:=J 0) O O ?_;exact⟨congrArg (Value.int .i64) (by rw[hc,Q9 Aa Aa]),hF.same⟩
theorem AA(xs ys:List Str)(A A':Option Addr)(c c':Nat)(S S':Nat->Prop)(w0:World)(hX:Rep S w0 (Oh xs) [.slice A xs.length c])(hY:Rep S' w0 (Oh ys) [.slice A' ys.length c']):Calls prog 199 #[.slice A xs.length c,.slice A' ys.length c',.func (.func 92) #[] #[]] w0 (Yc λv w'=>v=J (Tg Lib.compareBytes xs ys)/\Same [] w0 w'):=by
 have hXl:=hX.slice_len;have hYl:=hY.slice_len;refine Fa func199 O ntmps199 Ab (Ik _ _ _) ?_;have hF:=FR.start w0 [];refine Ea (Ba (Fb O) (Da (Ga (Ea (Ba (Hd O) (Ba (Nf cX O) (Ba (Za O) (Da (Qa ?_)))))))));refine Fc (λμ σ w=>∃(j:Nat),μ=xs.length-j/\(j<=xs.length)/\(j<=ys.length)/\(Tg Lib.compareBytes xs ys=Tg Lib.compareBytes (xs.drop j) (ys.drop j))/\AllEq σ [(0,.slice A xs.length c),(1,.slice A' ys.length c'),(2,.func (.func 92) #[] #[]),(11,.slice A xs.length c),(12,J ((xs.length:Nat))),(13,J ((j:Int)))]/\FR w0 [] [] w) _ ⟨0,O,(Nat.zero_le _),(Nat.zero_le _),Oa,Du,hF⟩ ?_;rintro μ σ w ⟨j,rfl,hj,hj2,hc,hs,hF⟩;refine Cg.slots hs ?_;clear hs;intro σ;refine Ea (Ba (Pg O O) (Da (Ga ?_)));refine Jb O O (λhc0=>?_) (λhc0=>?_);refine Ka (Ha (Ga (Qa (Ea (Ba (Za O) ?_)))));obtain⟨ad0,hA0,hk0,hx0⟩:=hX.str_elem (i:=j) Aa;refine Ia (v:=.pointer (some (ad0.add (j*1)))) (Na (i:=(j:Int)) Pk O hA0 O Aa Aa) (Ia (v:=I (xs[j])) (Nc iZ O (hF.cell0 hk0)) (Ba (Fb O) (Ba (He O) (Da (Ga (Ea (Ba (Za O) (Ba (Hd O) (Ba (Nf cX O) (Ba (Vx O O) (Va ?_)))))))))));refine Ha (Jb O O (λhc1=>?_) (λhc1=>?_));refine Ea (Ba (Fb O) (Da ?_));refine Gc (v:=J 1) O O ?_;exact⟨congrArg (Value.int .i64) (by rw[hc,L3 Aa Aa]),hF.same⟩;refine Ka (Ha (Ea (Ba (Hd O) (Ba (Za O) ?_))));obtain⟨ad1,hA1,hk1,hx1⟩:=hY.str_elem (i:=j) Aa;refine Ia (v:=.pointer (some (ad1.add (j*1)))) (Na (i:=(j:Int)) Pk O hA1 O Aa Aa) (Ia (v:=I (ys[j])) (Nc iZ O (hF.cell0 hk1)) (Ba (He O) (Lb (Ba (Pu) (Ba (Ad O) (Ba (Ad O) ?_))))));refine Pa hF (Dq xs[j] ys[j] _) (Nj O GK O O O) ?_;intro w hF;refine Ba (Fb O) (Lb (Ba (Za O) (Ba (Wm O O) (Da ?_))));refine Jb O O (λhc2=>?_) (λhc2=>?_);refine Ea (Ba (Za O) (Ba (Fb O) (Da ?_)));refine Gc (v:=J (Lib.compareBytes xs[j] ys[j])) O O ?_;exact⟨congrArg (Value.int .i64) (by rw[hc,EF Aa Aa (by simpa using hc2)]),hF.same⟩
 refine Ka (Ya (Ha (Ja (Ba (Cl O O) (Ba (Za O) (Va ?_))))));refine Ta ⟨_,?_,j+1,O,Aa,Aa,(hc.trans (H2 Aa Aa (by simpa using hc2))),Du,hF⟩;omega;refine Bc (Yb O ?_);refine Ha (Ga (Ea (Ba (Hd O) (Ba (Nf cX O) (Ba (Hd O) (Ba (Nf cX O) (Ba (Pg O O) (Da ?_))))))));refine Jb O O (λhc3=>?_) (λhc3=>?_);refine Ea (Ba (Fb O) (Da ?_));refine Gc (v:=J ((-1))) O O ?_;exact⟨congrArg (Value.int .i64) (by rw[hc,W2 Aa Aa]),hF.same⟩;refine Ka (Ha (Ea (Ba (Fb O) (Da ?_))));refine Gc (v:=J 0) O O ?_;exact⟨congrArg (Value.int .i64) (by rw[hc,Q9 Aa Aa]),hF.same⟩
theorem KU(xs ys:List Str)(A A':Option Addr)(c c':Nat)(S S':Nat->Prop)(w0:World)(hX:Rep S w0 (Oh xs) [.slice A xs.length c])(hY:Rep S' w0 (Oh ys) [.slice A' ys.length c']):Calls prog 135 #[.slice A xs.length c,.slice A' ys.length c',.func (.func 92) #[] #[]] w0 (Yc λv w'=>v=J (Tg Lib.compareBytes xs ys)/\Same [] w0 w'):=by
 refine Fa func135 O ntmps135 Ab (Ik _ _ _) ?_;have hF:=FR.start w0 [];refine Ea (Ba (Fb O) (Lb (Ba (Hd O) (Ba (Hd O) (Ba (Pu) ?_)))));refine Pa hF (AA xs ys A A' c c' S S' _ (hF.rep hX) (hF.rep hY)) (Af en_199 O O O O) ?_;intro w hF;refine Ba (Fb O) (Da ?_);refine Gc (v:=J (Tg Lib.compareBytes xs ys)) O O ?_;exact⟨O,hF.same⟩
theorem ST(q:Tree->Tree->Int)(xs ys:List Tree)(B B':Option Addr)(e e':Nat)(S S':Nat->Prop)(w0:World)(hX:Rep S w0 (.slice (Fe xs)) [.slice B xs.length e])(hY:Rep S' w0 (.slice (Fe ys)) [.slice B' ys.length e'])(hq:BothI w0 82 xs ys q):Calls prog 136 #[.slice B xs.length e,.slice B' ys.length e',.func (.func 82) #[] #[]] w0 (Yc λv w'=>v=J (Tg q xs ys)/\Same [] w0 w'):=by
 refine Fa func136 O ntmps136 Ab (Ik _ _ _) ?_;have hF:=FR.start w0 [];refine Ea (Ba (Fb O) (Lb (Ba (Hd O) (Ba (Hd O) (Ba (Pu) ?_)))));refine Pa hF (U7 q xs ys B B' e e' S S' _ (hF.rep hX) (hF.rep hY) (hq.ext hF.same)) (Af en_200 O O O O) ?_;intro w hF;refine Ba (Fb O) (Da ?_);refine Gc (v:=J (Tg q xs ys)) O O ?_;exact⟨O,hF.same⟩
mutual
def Kg:Tree->Tree->Int
  | .node k t ks xs, .node k' t' ks' ys => if k = 3 /\ k' = 3 then So (Kc t).1 (Kc t').1 else
    if X5 [Lib.compareInt k k',Lib.compareBytes t t',Tg Lib.compareBytes ks ks']≠0 then X5 [Lib.compareInt k k',Lib.compareBytes t t',Tg Lib.compareBytes ks ks'] else Vy xs ys
def Vy:List Tree->List Tree->Int
  | [],[]=>0
  | [],_::_=>-1
  | _::_,[]=>1
  | x::xs,y::ys=>if Kg x y≠0 then Kg x y else Vy xs ys
end
theorem Ti:∀xs ys:List Tree,Tg Kg xs ys=Vy xs ys
  | [],[]=>by rw[Tg,Vy]
  | [],_::_=>by rw[Tg,Vy]
  | _::_,[]=>by rw[Tg,Vy]
  | x::xs,y::ys=>by rw[Tg,Vy,Ti xs ys]
def JP(x:Tree):Prop:=∀y S S' w0 cs ct,Rep S w0 (Ob x) cs->Rep S' w0 (Ob y) ct->Tq x->Tq y->Gl w0->Calls prog 82 #[.agg cs.toArray,.agg ct.toArray] w0 (Yc λv w'=>v=J (Kg x y)/\Same [] w0 w')
theorem EO(k:Int)(t:Str)(ks:List Str)(xs:List Tree)(ih:∀x,x∈xs->JP x):JP (.node k t ks xs):=by
 rintro⟨k',t',ks',ys⟩ S S' w0 cs ct hR hR' hk hk' hG;rw[Tq]at hk;rw[Tq]at hk';obtain⟨A,c,B,e,rfl,-,-,hK,hX⟩:=hR.tree_inv;obtain⟨A',c',B',e',rfl,-,-,hK',hY⟩:=hR'.tree_inv;refine Fa func82 O ntmps82 Ab (Uc _ _) ?_;have hF:=FR.start w0 [];refine Ea (Ce hF O ?_);rintro b1 w hb1 hF -;refine Ce hF O ?_;rintro b2 w hb2 hF -;refine Ba (Fb O) (Da (Ga (Ea (Ba (Mb Xc O) (Xb (Zg xQ O hF.F 1 O O) (Ba (Of O O) (Ba (Dc O) ?_)))))));refine Bb (d:=13) O (λhg0=>?_) (λhg0=>?_);refine Ba (Mb Xc O) (Xb (Zg xQ O hF.F 0 O O) (Ba (Of O O) (Ba (Rb O O) (Da ?_))));refine Jb O O (λhc0=>?_) (λhc0=>?_);refine Ea (Ba (Mb Id O) (Xb (Ej iZ O hF.F 1 O O) ?_));refine Pa hF (Vw t hk.1 _ (hG.ext hF.same)) (Ma SD O O) ?_;intro w hF;refine Ba (Mj O) (Ba (Gt O O) (Ba (Ym O O) ?_));refine If hF tX tZ O ?_;rintro b3 w hb3 hF -;refine Ba (Kb O) (Lb (Ba (Mb Id O) (Xb (Ej iZ O hF.F 1 O O) ?_)));refine Pa hF (Vw t' hk'.1 _ (hG.ext hF.same)) (Ma SD O O) ?_;intro w hF;refine Ba (Mj O) (Ba (Gt O O) (Ba (Ym O O) ?_));refine If hF tX tZ O ?_;rintro b4 w hb4 hF -;refine Ba (Kb O) (Lb (Xb (Bf jZ tZ O hF.F 1 O O) (Xb (Bf jZ tZ O hF.F 0 O O) ?_)));refine Pa hF (GF (Kc t).1 (Kc t').1 (by have:=Ah t;omega) (by have:=Ah t';omega) _) (Xa en_132 O O O) ?_;intro w hF;refine Ba (Fb O) (Da ?_);refine Gc (v:=J (So (Kc t).1 (Kc t').1)) O O ⟨congrArg (Value.int .i64) ?_,hF.same⟩;rw[Kg];clear hF hR hR' hX hY hK hK' ih hk hk'
 ·first|(simp_all[Ti];done)|(simp_all[Ti];omega)
 refine Ka (Ha (Ga ?_));refine De (zs:=.of []) (bQ [0,1,2,3,5,6,7,8,10,11,12,13] (cQ [4,9,14,15,16] (.free 17 .nil))) hF ?_;intro w hF;refine Ib O (Mb Xc O) (Ng O (Zg xQ O C0 1 O O) (Ib O (Mb Xc O) (Ng O (Zg xQ O C0 0 O O) (Ib O (Mb Id O) (Ng O (Ej iZ O C0 1 O O) (Ib O (Mb Id O) (Ng O (Ej iZ O C0 0 O O) (Ib O (Mb Tc O) (Ng O (Ie yQ O C0 1 O O) (Ib O (Mb Tc O) (Ng O (Ie yQ O C0 0 O O) ?_)))))))))));refine Vd hF (Mz k k' _) O (Xa ZE O O O) ?_;intro w hF;refine⟨hF,?_⟩;refine Vd hF (Dq t t' _) O (Xa GK O O O) ?_;intro w hF;refine⟨hF,?_⟩;refine Vd hF (KU ks ks' A A' c c' S S' _ (hF.rep hK) (hF.rep hK')) O (Af WY O O O O) ?_;intro w hF;refine⟨hF,?_⟩;refine Jf 3 O hF (Gb (cs:=#[J (Lib.compareInt k k'),J (Lib.compareBytes t t'),J (Tg Lib.compareBytes ks ks')]) iX sizeOf3 mX Ua Ua Qb) ?_;rintro b5 w hb5 hF -;refine⟨hF.drop 1,?_⟩;refine Vd hF (or_c [Lib.compareInt k k',Lib.compareBytes t t',Tg Lib.compareBytes ks ks'] _ 3 Oa _ (PC (hF.cellsAll 0 O))) O (Ma JQ O O) ?_;intro w hF;refine⟨hF.drop 1,?_⟩;refine Ib O (Fb O) (Ic (Ha (Ga (Ea (Ba (Za O) (Ba (Wm O O) (Da ?_)))))));refine Jb O O (λhc1=>?_) (λhc1=>?_);refine Ea (Ba (Za O) (Ba (Fb O) (Da ?_)));refine Gc (v:=J (X5 [Lib.compareInt k k',Lib.compareBytes t t',Tg Lib.compareBytes ks ks'])) O O ⟨congrArg (Value.int .i64) ?_,hF.same⟩;rw[Kg];clear hF hR hR' hX hY hK hK' ih hk hk'
 ·first|(simp_all[Ti];done)|(simp_all[Ti];omega)
 refine Ka (Ha (Ea (Ba (Mb Tb O) (Xb (Ie zQ O hF.F 2 O O) (Ba (Mb Tb O) (Xb (Ie zQ O hF.F 1 O O) ?_))))));refine Pa hF (ST Kg xs ys B B' e e' S S' _ (hF.rep hX) (hF.rep hY) (λx hx y hy S1 S2 w1 cs1 ct1 hs h1 h2=>ih x hx y S1 S2 w1 cs1 ct1 h1 h2 (Xl hk.2.2 x hx) (Xl hk'.2.2 y hy) ((hG.ext hF.same).ext hs))) (Af en_136 O O O O) ?_;intro w hF;refine Ba (Fb O) (Da ?_);refine Gc (v:=J (Tg Kg xs ys)) O O ⟨congrArg (Value.int .i64) ?_,hF.same⟩;rw[Kg];clear hF hR hR' hX hY hK hK' ih hk hk'
 ·first|(simp_all[Ti];done)|(simp_all[Ti];omega)
 refine Ca (Ca (Ca (Ba (Pb O O) (Da (R0 O (Ga ?_))))));refine De (zs:=.of []) (bQ [0,1,2,3,5,6,7,8,10,11,12,13] (cQ [4,9,14,15,16] (.free 17 .nil))) hF ?_;intro w hF;refine Ib O (Mb Xc O) (Ng O (Zg xQ O C0 1 O O) (Ib O (Mb Xc O) (Ng O (Zg xQ O C0 0 O O) (Ib O (Mb Id O) (Ng O (Ej iZ O C0 1 O O) (Ib O (Mb Id O) (Ng O (Ej iZ O C0 0 O O) (Ib O (Mb Tc O) (Ng O (Ie yQ O C0 1 O O) (Ib O (Mb Tc O) (Ng O (Ie yQ O C0 0 O O) ?_)))))))))));refine Vd hF (Mz k k' _) O (Xa ZE O O O) ?_;intro w hF;refine⟨hF,?_⟩;refine Vd hF (Dq t t' _) O (Xa GK O O O) ?_;intro w hF;refine⟨hF,?_⟩;refine Vd hF (KU ks ks' A A' c c' S S' _ (hF.rep hK) (hF.rep hK')) O (Af WY O O O O) ?_;intro w hF;refine⟨hF,?_⟩;refine Jf 3 O hF (Gb (cs:=#[J (Lib.compareInt k k'),J (Lib.compareBytes t t'),J (Tg Lib.compareBytes ks ks')]) iX sizeOf3 mX Ua Ua Qb) ?_;rintro b6 w hb6 hF -;refine⟨hF.drop 1,?_⟩;refine Vd hF (or_c [Lib.compareInt k k',Lib.compareBytes t t',Tg Lib.compareBytes ks ks'] _ 3 Oa _ (PC (hF.cellsAll 0 O))) O (Ma JQ O O) ?_;intro w hF;refine⟨hF.drop 1,?_⟩;refine Ib O (Fb O) (Ic (Ha (Ga (Ea (Ba (Za O) (Ba (Wm O O) (Da ?_)))))));refine Jb O O (λhc1=>?_) (λhc1=>?_);refine Ea (Ba (Za O) (Ba (Fb O) (Da ?_)));refine Gc (v:=J (X5 [Lib.compareInt k k',Lib.compareBytes t t',Tg Lib.compareBytes ks ks'])) O O ⟨congrArg (Value.int .i64) ?_,hF.same⟩;rw[Kg];clear hF hR hR' hX hY hK hK' ih hk hk'
 ·first|(simp_all[Ti];done)|(simp_all[Ti];omega)
 refine Ka (Ha (Ea (Ba (Mb Tb O) (Xb (Ie zQ O hF.F 2 O O) (Ba (Mb Tb O) (Xb (Ie zQ O hF.F 1 O O) ?_))))));refine Pa hF (ST Kg xs ys B B' e e' S S' _ (hF.rep hX) (hF.rep hY) (λx hx y hy S1 S2 w1 cs1 ct1 hs h1 h2=>ih x hx y S1 S2 w1 cs1 ct1 h1 h2 (Xl hk.2.2 x hx) (Xl hk'.2.2 y hy) ((hG.ext hF.same).ext hs))) (Af en_136 O O O O) ?_;intro w hF;refine Ba (Fb O) (Da ?_);refine Gc (v:=J (Tg Kg xs ys)) O O ⟨congrArg (Value.int .i64) ?_,hF.same⟩;rw[Kg];clear hF hR hR' hX hY hK hK' ih hk hk'
 ·first|(simp_all[Ti];done)|(simp_all[Ti];omega)
theorem order_c(x:Tree):JP x:=Tree.ind EO x
theorem Hk{x:Tree}(h:Qg x=true):Me nodeB x=true:=by unfold Qg at h;rw[Bool.and_eq_true]at h;exact h.2
theorem of_c(s:Str)(w0:World):Calls prog 36 #[I s] w0 (Yc λv w'=>v=.agg #[J 4,I s,aQ,aQ]/\Same [] w0 w'):=by
 refine Fa func36 O ntmps36 Ab (Wb _) ?_;have hF:=FR.start w0 [];refine Ea (Pc (cs:=#[J 0,I [],aQ,aQ]) hF oX O ?_);rintro b1 w hb1 hF -;refine Lb (Ba (Ad O) ?_);refine Ia (w':=w) (v:=.agg #[J 4,I s,aQ,aQ]) Qb (Ge hF nZ O O Pi ?_);rintro w hF -;refine Da (Db (Cb (La (Mg O (l:=[J 4,I s,aQ,aQ]) O aZ nZ O (hF.cellsAll 0 O)) ?_)));exact⟨O,hF.same⟩
theorem GC(n:Int)(h1:-9223372036854775808<=n)(h2:n<=9223372036854775807)(w0:World)(hG:Gl w0):Calls prog 30 #[J n] w0 (Yc λv w'=>v=.agg #[J 3,I (Rg (Kw n)),aQ,aQ]/\Same [] w0 w'):=by
 refine Fa func30 O ntmps30 Ab (Wb _) ?_;have hF:=FR.start w0 [];refine Ea (Pc (cs:=#[J 0,I [],aQ,aQ]) hF oX O ?_);rintro b1 w hb1 hF -;refine Lb (Ba (Za O) ?_);refine Pa hF (SS n h1 h2 _ (hG.ext hF.same)) (Ma en_66 O O) ?_;intro w hF;refine Pa hF (WE (Kw n) (by have:=Ah (Lib.itoa n);exact fQ this Ua) _ (hG.ext hF.same)) (Ma US O O) ?_;intro w hF;refine Ia (w':=w) (v:=.agg #[J 3,I (Rg (Kw n)),aQ,aQ]) Qb (Ge hF nZ O O Pi ?_);rintro w hF -;refine Da (Db (Cb (La (Mg O (l:=[J 3,I (Rg (Kw n)),aQ,aQ]) O aZ nZ O (hF.cellsAll 0 O)) ?_)));exact⟨O,hF.same⟩
end Go.Scarf
