/- A part of the proof. -/
import Derived.Test.YtgkmigdopohcnaaGreatDoorW4
set_option linter.all false
set_option maxHeartbeats 8000000
set_option maxRecDepth 10000
namespace Go.Scarf
open Go.RowKit Go.Proofs Go.Proofs.Tryz
def MapRep(S:Nat->Prop)(w:World)(xs:List Tree)(l:MapL):Prop:=∀i (h:i<l.length),∃cs:List Value,l[i].2=.agg cs.toArray/\∃h2:i<xs.length,Rep S w (Pb xs[i]) cs
theorem MapRep.nil(S:Nat->Prop)(w:World)(xs:List Tree):MapRep S w xs []:=λi h=>absurd h Ma
theorem MapRep.snoc{S:Nat->Prop}{w:World}{xs:List Tree}{l:MapL}{k:Str}{cs:List Value}(h:MapRep S w xs l)(hl:l.length<xs.length)(hr:Rep S w (Pb xs[l.length]) cs):MapRep S w xs (l++[(k,.agg cs.toArray)]):=by
  intro i hi;rw[dQ,List.length_singleton]at hi;by_cases he:i<l.length
  ·obtain⟨c, h1, h2, h3⟩ := h i he
   exact⟨c,by rw[List.getElem_append_left he];exact h1,h2,h3⟩
  obtain rfl : i = l.length := by omega
  exact⟨cs,by simp,hl,hr⟩
theorem QJ{l:MapL}{ks:List Str}{j:Nat}(h:j<ks.length)(hl:l.map (·.1)=ks.take j)(hn:ks.Nodup):Ah l ks[j]=none:=by
  have hnot:¬ks[j]∈ks.take j:=λhm=>Fs h hm hn;rw[<-hl]at hnot;unfold Ah;rw[Option.map_eq_none_iff,List.find?_eq_none];intro x hx he;exact hnot (nQ.2 ⟨x,hx,by simpa using he⟩)
theorem JQ{l:MapL}{ks:List Str}{j:Nat}{v:Value}(h:j<ks.length)(hl:l.map (·.1)=ks.take j):(l++[(ks[j],v)]).map (·.1)=ks.take (j+1):=by
  rw[jQ,hl,iQ h];rfl
theorem SZ{l:MapL}{ks:List Str}{j:Nat}(h:j<=ks.length)(hl:l.map (·.1)=ks.take j):l.length=j:=by
  have:=congrArg List.length hl;rw[rQ,List.length_take]at this;omega
theorem CR(k:Int)(t:Str)(ks:List Str)(xs:List Tree)(hn:ks.Nodup)(hlen:ks.length=xs.length)(S:Nat->Prop)(w0:World)(cs:List Value)(hR:Rep S w0 (Pb (.node k t ks xs)) cs):Calls prog 87 #[.agg cs.toArray] w0 (Dd λv w'=>∃(b:Nat)(l:MapL),v=.map (some b)/\w0.heap.size<=b/\w'.heap[b]? = some (Vh l)/\l.map (·.1)=ks/\MapRep S w' xs l/\Same [] w0 w'):=by
 obtain⟨A,c,B,e,rfl,-,-,hK,hX⟩:=hR.tree_inv;have hXl:=hX.slice_len;have hKl:=hK.slice_len;refine Ia func87 O ntmps87 Eb (Yb _) ?_;have hF:=FR.start w0 [];refine Ea (Oe hF O ?_);rintro b1 w hb1 hF -;refine Ba (T0) (Rb (Ba (Ob Td O) (Zb (Xe yQ O hF.F 0 O O) (Ba (Ch yZ O) ?_))));refine My (v:=λb=>.map (some b)) hF (V8 underlying123 O) ?_;rintro b2 w hb2 hF -;refine Ba (T0) (Da (Ga (Ea (Ba (Ob Td O) (Zb (Xe yQ O hF.F 1 O O) (Ba (Ch yZ O) (Ba (Za O) (Da (Qa ?_)))))))));refine Jc (λμ σ w=>∃(j:Nat),∃(l:MapL),μ=ks.length-j/\(j<=ks.length)/\(l.map (·.1)=ks.take j)/\(MapRep S w0 xs l)/\AllEq σ [(1,V b1),(3,.map (some b2)),(11,.slice A ks.length c),(12,J ((ks.length:Nat))),(13,J ((j:Int)))]/\FR w0 [] [(b2,Vh (l)),(b1,.cells #[J k,I t,.slice A ks.length c,.slice B xs.length e] 25)] w) _ ⟨0,[],O,(Nat.zero_le _),Ma,(MapRep.nil _ _ _),Bp,hF⟩ ?_;rintro μ σ w ⟨j,l,rfl,hj,hl,hr,hs,hF⟩;refine Cg.slots hs ?_;clear hs;intro σ;have hll:=SZ hj hl;refine Ea (Ba (Di O O) (Da (Ga ?_)));refine Ib O O (λhc0=>?_) (λhc0=>?_);refine La (Fa (Ga (Qa (Ea (Ba (Za O) ?_)))));obtain⟨ad0,hA0,hk0,hx0⟩:=hK.str_elem (i:=j) Aa;refine Ka (v:=.pointer (some (ad0.add (j*1)))) (Sa (i:=(j:Int)) Ip O hA0 O Aa Aa) (Ka (v:=I (ks[j])) (Qd jZ O (hF.cell0 hk0)) (Ba (Gb O) (Ba (Fd O) (Da (Ha (Ba (Nt) (Ba (Bc O) (Ba (Ob Xb O) (Zb (Xe zQ O hF.F 1 O O) (Ba (Za O) ?_))))))))));obtain⟨ad1,cs1,hA1,hl1,hk1,hx1⟩:=hX.tree_elem (i:=j) Aa;have ho1:=hx1.one_;refine Ka (v:=.pointer (some (ad1.add (j*4)))) (Sa (i:=(j:Int)) Hg O hA1 O Aa Aa) (Ka (v:=.agg (List.toArray cs1)) (Wa (l:=cs1) aZ nZ O hl1 (hF.cells0 hk1)) ?_);refine K3 0 (v:=.agg (List.toArray cs1)) hF underlying123 jX O O O O (QJ Aa hl hn) ?_;rintro w hF -;have hF:FR w0 [] [(b2,Vh (l++[(ks[j],.agg (List.toArray cs1))])),(b1,.cells #[J k,I t,.slice A ks.length c,.slice B xs.length e] 25)] w:=hF
 refine Ta (Bb (Fa (Ha (Ba (Nl O O) (Ba (Za O) (Ta ?_))))));refine Hb ⟨_,?_,j+1,l++[(ks[j],.agg (List.toArray cs1))],O,Aa,(JQ Aa hl),(hr.snoc Aa (by simpa only[hll]using hx1)),Bp,hF⟩;omega;refine Ec (Ac O ?_);refine Fa (Ea (Ba (Nt) (Ba (T0) (Da ?_))));refine Gc (v:=.map (some b2)) O O ?_;refine⟨b2,l,O,by have:=hF.ge (i:=0) O;exact this,hF.heap (i:=0) O,?_,?_,hF.same⟩;rw[hl];exact List.take_of_length_le Aa;intro i hi;obtain⟨cs,h1,h2,h3⟩:=hr i hi;exact⟨cs,h1,h2,hF.rep h3⟩
def Mf:List Str->List Tree->Str->Option Tree
  | k::ks,x::xs,key=>if k=key then some x else Mf ks xs key
  | _,_,_=>none
theorem MapRep.tail{S:Nat->Prop}{w:World}{x:Tree}{xs:List Tree}{p:Str × Value}{l:MapL}(h:MapRep S w (x::xs) (p::l)):MapRep S w xs l:=by
  intro i hi;obtain⟨cs,h1,h2,h3⟩:=h (i+1) (by simpa using hi);exact⟨cs,by simpa using h1,by simpa using h2,by simpa using h3⟩
theorem K5{S:Nat->Prop}{w:World}(key:Str):∀{ks:List Str}{xs:List Tree}{l:MapL},l.map (·.1)=ks->MapRep S w xs l ->
    (Ah l key=none/\Mf ks xs key=none)\/∃(cs:List Value)(y:Tree),Ah l key=some (.agg cs.toArray)/\Mf ks xs key=some y/\y∈xs/\Rep S w (Pb y) cs
  | ks, xs, [], hk, _ => by
    left;simp only[List.map_nil]at hk;subst hk;exact⟨O,by cases xs <;> rfl⟩
  | ks, [], p :: l, hk, hm => by
    obtain⟨cs,h1,h2,h3⟩:=hm 0 Ma;simp at h2
  | ks, x :: xs, p :: l, hk, hm => by
    rw[List.map_cons]at hk;subst hk;by_cases h:p.1=key
    ·right
     obtain⟨cs,h1,h2,h3⟩:=hm 0 Ma;refine⟨cs,x,?_,by simp[Mf,h],by simp,h3⟩;simp only[List.getElem_cons_zero]at h1;simp[Ah,h,h1]
    have e1 : Ah (p :: l) key = Ah l key := by simp[Ah, h]
    have e2:Mf (p.1::l.map (·.1)) (x::xs) key=Mf (l.map (·.1)) xs key:=by simp[Mf,h]
    rw[e1,e2];rcases K5 key rfl hm.tail with h|⟨cs,y,h1,h2,h3,h4⟩
    ·exact .inl h
    exact .inr ⟨cs,y,h1,h2,by simp[h3],h4⟩
def BothC(w0:World)(g:Nat)(xs ys:List Tree)(q:Tree->Tree->Bool):Prop:=∀x,x∈xs->∀y,y∈ys->∀S S' w cs ct,Same [] w0 w->Rep S w (Pb x) cs->Rep S' w (Pb y) ct->Calls prog g #[.agg cs.toArray,.agg ct.toArray] w (Dd λv w'=>v=.bool (q x y)/\Same [] w w')
theorem BothC.ext{w0 w:World}{g:Nat}{xs ys:List Tree}{q:Tree->Tree->Bool}(h:BothC w0 g xs ys q)(hs:Same [] w0 w):BothC w g xs ys q:=λx hx y hy S S' w' cs ct hw=>h x hx y hy S S' w' cs ct (hs.trans hw)
mutual
def Cm:Tree->Tree->Bool
  | .node k t ks xs,.node k' t' ks' ys=>decide (k=k')&&decide (t=t')&&decide (xs.length=ys.length)&&(if k≠6 then Q2 xs ys else decide (ks.length=ks'.length)&&VE xs ks ks' ys)
def Q2:List Tree->List Tree->Bool
  | x::xs,y::ys=>Cm x y&&Q2 xs ys
  | _,_=>true
def VE:List Tree->List Str->List Str->List Tree->Bool
  | x::xs,k::ks,ks',ys=>(match Mf ks' ys k with|some y=>Cm x y|none=>false)&&VE xs ks ks' ys
  | _,_,_,_=>true
end
theorem MapRep.ext{S:Nat->Prop}{w w':World}{xs:List Tree}{l:MapL}(h:MapRep S w xs l)(hs:Same [] w w'):MapRep S w' xs l:=λi hi=>by
  obtain⟨cs,h1,h2,h3⟩:=h i hi;exact⟨cs,h1,h2,h3.ext hs⟩
theorem Same.heap{w w':World}{b:Nat}{o:Obj}(hs:Same [] w w')(h:w.heap[b]? = some o):w'.heap[b]? = some o:=(hs.block b (Wb h) Ma).trans h
theorem J_{q:Tree->Bool}:∀{xs:List Tree},Yq q xs=true->∀x∈xs,Xc q x=true
  | [],_,_,h=>absurd h Ma
  | y :: ys, h, x, hx => by
    rw[Yq,Bool.and_eq_true]at h;rcases oQ.1 hx with rfl|hx
    ·exact h.1
    exact J_ h.2 x hx
theorem Ee{q:Tree->Bool}{k:Int}{t:Str}{ks:List Str}{xs:List Tree}(h:Xc q (.node k t ks xs)=true):q (.node k t ks xs)=true/\∀x∈xs,Xc q x=true:=by
  rw[Xc,Bool.and_eq_true]at h;exact⟨h.1,J_ h.2⟩
theorem Gr{t:Str}{ks:List Str}{xs:List Tree}(h:nodeB (.node 6 t ks xs)=true):ks.Nodup/\ks.length=xs.length:=by
  simp only[nodeB,Sl]at h;simp at h;exact⟨h.1.1.1,by omega⟩
def Nf{α:Type}(f:α->α->Int):List α->List α->Int
  | [],[]=>0
  | [],_::_=>-1
  | _::_,[]=>1
  | x::xs,y::ys=>if f x y≠0 then f x y else Nf f xs ys
theorem Z8{α:Type}{f:α->α->Int}{xs ys:List α}{j:Nat}(h:j<xs.length)(h2:j<ys.length)(hq:f xs[j] ys[j]=0):Nf f (xs.drop j) (ys.drop j)=Nf f (xs.drop (j+1)) (ys.drop (j+1)):=by
  rw[List.drop_eq_getElem_cons h,List.drop_eq_getElem_cons h2,Nf,if_neg (by simpa using hq)]
theorem JO{α:Type}{f:α->α->Int}{xs ys:List α}{j:Nat}(h:j<xs.length)(h2:j<ys.length)(hq:f xs[j] ys[j]≠0):Nf f (xs.drop j) (ys.drop j)=f xs[j] ys[j]:=by
  rw[List.drop_eq_getElem_cons h,List.drop_eq_getElem_cons h2,Nf,if_pos hq]
theorem E9{α:Type}{f:α->α->Int}{xs ys:List α}{j:Nat}(h:j<xs.length)(h2:ys.length<=j):Nf f (xs.drop j) (ys.drop j)=1:=by
  rw[List.drop_eq_getElem_cons h,List.drop_eq_nil_of_le h2,Nf]
theorem R_{α:Type}{f:α->α->Int}{xs ys:List α}{j:Nat}(h:xs.length<=j)(h2:j<ys.length):Nf f (xs.drop j) (ys.drop j) = -1:=by
  rw[List.drop_eq_getElem_cons h2,List.drop_eq_nil_of_le h,Nf]
theorem IE{α:Type}{f:α->α->Int}{xs ys:List α}{j:Nat}(h:xs.length<=j)(h2:ys.length<=j):Nf f (xs.drop j) (ys.drop j)=0:=by
  rw[List.drop_eq_nil_of_le h2,List.drop_eq_nil_of_le h,Nf]
def BothI(w0:World)(g:Nat)(xs ys:List Tree)(q:Tree->Tree->Int):Prop:=∀x,x∈xs->∀y,y∈ys->∀S S' w cs ct,Same [] w0 w->Rep S w (Pb x) cs->Rep S' w (Pb y) ct->Calls prog g #[.agg cs.toArray,.agg ct.toArray] w (Dd λv w'=>v=J (q x y)/\Same [] w w')
theorem BothI.ext{w0 w:World}{g:Nat}{xs ys:List Tree}{q:Tree->Tree->Int}(h:BothI w0 g xs ys q)(hs:Same [] w0 w):BothI w g xs ys q:=λx hx y hy S S' w' cs ct hw=>h x hx y hy S S' w' cs ct (hs.trans hw)
theorem I6(q:Tree->Tree->Int)(xs ys:List Tree)(B B':Option Addr)(e e':Nat)(S S':Nat->Prop)(w0:World)(hX:Rep S w0 (.slice (Pe xs)) [.slice B xs.length e])(hY:Rep S' w0 (.slice (Pe ys)) [.slice B' ys.length e'])(hq:BothI w0 52 xs ys q):Calls prog 131 #[.slice B xs.length e,.slice B' ys.length e',.func (.func 52) #[] #[]] w0 (Dd λv w'=>v=J (Nf q xs ys)/\Same [] w0 w'):=by
 have hXl:=hX.slice_len;have hYl:=hY.slice_len;refine Ia func131 O ntmps131 Eb (Km _ _ _) ?_;have hF:=FR.start w0 [];refine Ea (Ba (Gb O) (Da (Ga (Ea (Ba (Sf O) (Ba (Ch zZ O) (Ba (Za O) (Da (Qa ?_)))))))));refine Jc (λμ σ w=>∃(j:Nat),μ=xs.length-j/\(j<=xs.length)/\(j<=ys.length)/\(Nf q xs ys=Nf q (xs.drop j) (ys.drop j))/\AllEq σ [(0,.slice B xs.length e),(1,.slice B' ys.length e'),(2,.func (.func 52) #[] #[]),(11,.slice B xs.length e),(12,J ((xs.length:Nat))),(13,J ((j:Int)))]/\FR w0 [] [] w) _ ⟨0,O,(Nat.zero_le _),(Nat.zero_le _),Ma,U7,hF⟩ ?_;rintro μ σ w ⟨j,rfl,hj,hj2,hc,hs,hF⟩;refine Cg.slots hs ?_;clear hs;intro σ;refine Ea (Ba (Di O O) (Da (Ga ?_)));refine Ib O O (λhc0=>?_) (λhc0=>?_);refine La (Fa (Ga (Qa (Ea (Ba (Za O) ?_)))));obtain⟨ad0,cs0,hA0,hl0,hk0,hx0⟩:=hX.tree_elem (i:=j) Aa;have ho0:=hx0.one_;refine Ka (v:=.pointer (some (ad0.add (j*4)))) (Sa (i:=(j:Int)) Hg O hA0 O Aa Aa) (Ka (v:=.agg (List.toArray cs0)) (Wa (l:=cs0) aZ nZ O hl0 (hF.cells0 hk0)) ?_);refine Wc (cs:=#[J 0,I [],aQ,aQ]) hF lX O ?_;rintro b1 w hb1 hF -;refine Ba (Gb O) ?_;refine Ci 0 (l:=cs0) (cs':=(List.toArray cs0)) hF (by rw[hl0];exact nZ) O (v:=.agg (List.toArray cs0)) O O (ho0) O (by rw[hl0];exact Nat.le_of_ble_eq_true O) (Xn (by rw[hl0];rfl)) ?_;rintro w hF -;refine Da (Ga (Ea (Ba (Za O) (Ba (Sf O) (Ba (Ch zZ O) (Ba (Nw O O) (Da ?_)))))));refine Ib O O (λhc1=>?_) (λhc1=>?_);refine Ea (Ba (Gb O) (Da ?_));refine Gc (v:=J 1) O O ?_;exact⟨congrArg (Value.int .i64) (by rw[hc,E9 Aa Aa]),hF.same⟩;refine La (Fa (Ea (Ba (Sf O) (Ba (Za O) ?_))));obtain⟨ad1,cs1,hA1,hl1,hk1,hx1⟩:=hY.tree_elem (i:=j) Aa;have ho1:=hx1.one_;refine Ka (v:=.pointer (some (ad1.add (j*4)))) (Sa (i:=(j:Int)) Hg O hA1 O Aa Aa) (Ka (v:=.agg (List.toArray cs1)) (Wa (l:=cs1) aZ nZ O hl1 (hF.cells0 hk1)) ?_)
 refine W2 (l:=cs1) hF lX (by rw[hl1];exact nZ) (by rw[hl1];rfl) (v:=.agg (List.toArray cs1)) O O (ho1) O ?_;rintro b2 w hb2 hF -;refine Rb (Ba (Nt) (Ka (v:=.agg (List.toArray cs0)) (Wa (l:=cs0) aZ nZ O hl0 (hF.cellsAll 1 O)) (Ka (v:=.agg (List.toArray cs1)) (Wa (l:=cs1) aZ nZ O hl1 (hF.cellsAll 0 O)) ?_)));refine Oa hF (hq _ (List.getElem_mem (l:=xs) (n:=j) Aa) _ (List.getElem_mem (l:=ys) (n:=j) Aa) _ _ _ _ _ hF.same (hF.rep hx0) (hF.rep hx1)) (Wi O en_52 O O O) ?_;intro w hF;refine Ba (Gb O) (Rb (Ba (Za O) (Ba (Vk O O) (Da ?_))));refine Ib O O (λhc2=>?_) (λhc2=>?_);refine Ea (Ba (Za O) (Ba (Gb O) (Da ?_)));refine Gc (v:=J (q xs[j] ys[j])) O O ?_;exact⟨congrArg (Value.int .i64) (by rw[hc,JO Aa Aa (by simpa using hc2)]),hF.same⟩;refine La (Bb (Fa (Ha (Ba (Nl O O) (Ba (Za O) (Ta ?_))))));refine Hb ⟨_,?_,j+1,O,Aa,Aa,(hc.trans (Z8 Aa Aa (by simpa using hc2))),U7,hF.drop 2⟩;omega;refine Ec (Ac O ?_);refine Fa (Ga (Ea (Ba (Sf O) (Ba (Ch zZ O) (Ba (Sf O) (Ba (Ch zZ O) (Ba (Di O O) (Da ?_))))))));refine Ib O O (λhc3=>?_) (λhc3=>?_);refine Ea (Ba (Gb O) (Da ?_));refine Gc (v:=J ((-1))) O O ?_;exact⟨congrArg (Value.int .i64) (by rw[hc,R_ Aa Aa]),hF.same⟩;refine La (Fa (Ea (Ba (Gb O) (Da ?_))));refine Gc (v:=J 0) O O ?_;exact⟨congrArg (Value.int .i64) (by rw[hc,IE Aa Aa]),hF.same⟩
theorem E8(xs ys:List Str)(A A':Option Addr)(c c':Nat)(S S':Nat->Prop)(w0:World)(hX:Rep S w0 (Ni xs) [.slice A xs.length c])(hY:Rep S' w0 (Ni ys) [.slice A' ys.length c']):Calls prog 130 #[.slice A xs.length c,.slice A' ys.length c',.func (.func 65) #[] #[]] w0 (Dd λv w'=>v=J (Nf Lib.compareBytes xs ys)/\Same [] w0 w'):=by
 have hXl:=hX.slice_len;have hYl:=hY.slice_len;refine Ia func130 O ntmps130 Eb (Km _ _ _) ?_;have hF:=FR.start w0 [];refine Ea (Ba (Gb O) (Da (Ga (Ea (Ba (Sf O) (Ba (Ch yZ O) (Ba (Za O) (Da (Qa ?_)))))))));refine Jc (λμ σ w=>∃(j:Nat),μ=xs.length-j/\(j<=xs.length)/\(j<=ys.length)/\(Nf Lib.compareBytes xs ys=Nf Lib.compareBytes (xs.drop j) (ys.drop j))/\AllEq σ [(0,.slice A xs.length c),(1,.slice A' ys.length c'),(2,.func (.func 65) #[] #[]),(11,.slice A xs.length c),(12,J ((xs.length:Nat))),(13,J ((j:Int)))]/\FR w0 [] [] w) _ ⟨0,O,(Nat.zero_le _),(Nat.zero_le _),Ma,U7,hF⟩ ?_;rintro μ σ w ⟨j,rfl,hj,hj2,hc,hs,hF⟩;refine Cg.slots hs ?_;clear hs;intro σ;refine Ea (Ba (Di O O) (Da (Ga ?_)));refine Ib O O (λhc0=>?_) (λhc0=>?_);refine La (Fa (Ga (Qa (Ea (Ba (Za O) ?_)))));obtain⟨ad0,hA0,hk0,hx0⟩:=hX.str_elem (i:=j) Aa;refine Ka (v:=.pointer (some (ad0.add (j*1)))) (Sa (i:=(j:Int)) Ip O hA0 O Aa Aa) (Ka (v:=I (xs[j])) (Qd jZ O (hF.cell0 hk0)) (Ba (Gb O) (Ba (Fd O) (Da (Ga (Ea (Ba (Za O) (Ba (Sf O) (Ba (Ch yZ O) (Ba (Nw O O) (Ta ?_)))))))))));refine Fa (Ib O O (λhc1=>?_) (λhc1=>?_));refine Ea (Ba (Gb O) (Da ?_));refine Gc (v:=J 1) O O ?_;exact⟨congrArg (Value.int .i64) (by rw[hc,E9 Aa Aa]),hF.same⟩;refine La (Fa (Ea (Ba (Sf O) (Ba (Za O) ?_))));obtain⟨ad1,hA1,hk1,hx1⟩:=hY.str_elem (i:=j) Aa;refine Ka (v:=.pointer (some (ad1.add (j*1)))) (Sa (i:=(j:Int)) Ip O hA1 O Aa Aa) (Ka (v:=I (ys[j])) (Qd jZ O (hF.cell0 hk1)) (Ba (Fd O) (Rb (Ba (Nt) (Ba (Bc O) (Ba (Bc O) ?_))))));refine Oa hF (Np xs[j] ys[j] _) (Wi O YF O O O) ?_;intro w hF;refine Ba (Gb O) (Rb (Ba (Za O) (Ba (Vk O O) (Da ?_))));refine Ib O O (λhc2=>?_) (λhc2=>?_);refine Ea (Ba (Za O) (Ba (Gb O) (Da ?_)));refine Gc (v:=J (Lib.compareBytes xs[j] ys[j])) O O ?_;exact⟨congrArg (Value.int .i64) (by rw[hc,JO Aa Aa (by simpa using hc2)]),hF.same⟩
 refine La (Bb (Fa (Ha (Ba (Nl O O) (Ba (Za O) (Ta ?_))))));refine Hb ⟨_,?_,j+1,O,Aa,Aa,(hc.trans (Z8 Aa Aa (by simpa using hc2))),U7,hF⟩;omega;refine Ec (Ac O ?_);refine Fa (Ga (Ea (Ba (Sf O) (Ba (Ch yZ O) (Ba (Sf O) (Ba (Ch yZ O) (Ba (Di O O) (Da ?_))))))));refine Ib O O (λhc3=>?_) (λhc3=>?_);refine Ea (Ba (Gb O) (Da ?_));refine Gc (v:=J ((-1))) O O ?_;exact⟨congrArg (Value.int .i64) (by rw[hc,R_ Aa Aa]),hF.same⟩;refine La (Fa (Ea (Ba (Gb O) (Da ?_))));refine Gc (v:=J 0) O O ?_;exact⟨congrArg (Value.int .i64) (by rw[hc,IE Aa Aa]),hF.same⟩
theorem OO(xs ys:List Str)(A A':Option Addr)(c c':Nat)(S S':Nat->Prop)(w0:World)(hX:Rep S w0 (Ni xs) [.slice A xs.length c])(hY:Rep S' w0 (Ni ys) [.slice A' ys.length c']):Calls prog 85 #[.slice A xs.length c,.slice A' ys.length c',.func (.func 65) #[] #[]] w0 (Dd λv w'=>v=J (Nf Lib.compareBytes xs ys)/\Same [] w0 w'):=by
 refine Ia func85 O ntmps85 Eb (Km _ _ _) ?_;have hF:=FR.start w0 [];refine Ea (Ba (Gb O) (Rb (Ba (Sf O) (Ba (Sf O) (Ba (Nt) ?_)))));refine Oa hF (E8 xs ys A A' c c' S S' _ (hF.rep hX) (hF.rep hY)) (Rf en_130 O O O O) ?_;intro w hF;refine Ba (Gb O) (Da ?_);refine Gc (v:=J (Nf Lib.compareBytes xs ys)) O O ?_;exact⟨O,hF.same⟩
theorem WM(q:Tree->Tree->Int)(xs ys:List Tree)(B B':Option Addr)(e e':Nat)(S S':Nat->Prop)(w0:World)(hX:Rep S w0 (.slice (Pe xs)) [.slice B xs.length e])(hY:Rep S' w0 (.slice (Pe ys)) [.slice B' ys.length e'])(hq:BothI w0 52 xs ys q):Calls prog 86 #[.slice B xs.length e,.slice B' ys.length e',.func (.func 52) #[] #[]] w0 (Dd λv w'=>v=J (Nf q xs ys)/\Same [] w0 w'):=by
 refine Ia func86 O ntmps86 Eb (Km _ _ _) ?_;have hF:=FR.start w0 [];refine Ea (Ba (Gb O) (Rb (Ba (Sf O) (Ba (Sf O) (Ba (Nt) ?_)))));refine Oa hF (I6 q xs ys B B' e e' S S' _ (hF.rep hX) (hF.rep hY) (hq.ext hF.same)) (Rf en_131 O O O O) ?_;intro w hF;refine Ba (Gb O) (Da ?_);refine Gc (v:=J (Nf q xs ys)) O O ?_;exact⟨O,hF.same⟩
mutual
def Ji:Tree->Tree->Int
  | .node k t ks xs, .node k' t' ks' ys => if k = 3 /\ k' = 3 then Bs (Fc t).1 (Fc t').1 else
    if LB [Lib.compareInt k k',Lib.compareBytes t t',Nf Lib.compareBytes ks ks']≠0 then LB [Lib.compareInt k k',Lib.compareBytes t t',Nf Lib.compareBytes ks ks'] else Nx xs ys
def Nx:List Tree->List Tree->Int
  | [],[]=>0
  | [],_::_=>-1
  | _::_,[]=>1
  | x::xs,y::ys=>if Ji x y≠0 then Ji x y else Nx xs ys
end
theorem Xh:∀xs ys:List Tree,Nf Ji xs ys=Nx xs ys
  | [],[]=>by rw[Nf,Nx]
  | [],_::_=>by rw[Nf,Nx]
  | _::_,[]=>by rw[Nf,Nx]
  | x::xs,y::ys=>by rw[Nf,Nx,Xh xs ys]
def YK(x:Tree):Prop:=∀y S S' w0 cs ct,Rep S w0 (Pb x) cs->Rep S' w0 (Pb y) ct->Vp x->Vp y->Gl w0->Calls prog 52 #[.agg cs.toArray,.agg ct.toArray] w0 (Dd λv w'=>v=J (Ji x y)/\Same [] w0 w')
theorem LJ(k:Int)(t:Str)(ks:List Str)(xs:List Tree)(ih:∀x,x∈xs->YK x):YK (.node k t ks xs):=by
 rintro⟨k',t',ks',ys⟩ S S' w0 cs ct hR hR' hk hk' hG;rw[Vp]at hk;rw[Vp]at hk';obtain⟨A,c,B,e,rfl,-,-,hK,hX⟩:=hR.tree_inv;obtain⟨A',c',B',e',rfl,-,-,hK',hY⟩:=hR'.tree_inv;refine Ia func52 O ntmps52 Eb (Pc _ _) ?_;have hF:=FR.start w0 [];refine Ea (Oe hF O ?_);rintro b1 w hb1 hF -;refine Oe hF O ?_;rintro b2 w hb2 hF -;refine Ba (Gb O) (Da (Ga (Ea (Ba (Ob Xd O) (Zb (Th eZ O hF.F 1 O O) (Ba (Qf O O) (Ba (Vb O) ?_)))))));refine Ya (d:=13) O (λhg0=>?_) (λhg0=>?_);refine Ba (Ob Xd O) (Zb (Th eZ O hF.F 0 O O) (Ba (Qf O O) (Ba (Tb O O) (Da ?_))));refine Ib O O (λhc0=>?_) (λhc0=>?_);refine Ea (Ba (Ob Wd O) (Zb (Pk jZ O hF.F 1 O O) ?_));refine Oa hF (Wv t hk.1 _ (hG.ext hF.same)) (Na LO O O) ?_;intro w hF;refine Ba (Qk O) (Ba (Iw O O) (Ba (Ao O O) ?_));refine Gg hF pX rZ O ?_;rintro b3 w hb3 hF -;refine Ba (Db O) (Rb (Ba (Ob Wd O) (Zb (Pk jZ O hF.F 1 O O) ?_)));refine Oa hF (Wv t' hk'.1 _ (hG.ext hF.same)) (Na LO O O) ?_;intro w hF;refine Ba (Qk O) (Ba (Iw O O) (Ba (Ao O O) ?_));refine Gg hF pX rZ O ?_;rintro b4 w hb4 hF -;refine Ba (Db O) (Rb (Zb (Of iZ rZ O hF.F 1 O O) (Zb (Of iZ rZ O hF.F 0 O O) ?_)));refine Oa hF (ZC (Fc t).1 (Fc t').1 (by have:=Ki t;omega) (by have:=Ki t';omega) _) (Xa en_82 O O O) ?_;intro w hF;refine Ba (Gb O) (Da ?_);refine Gc (v:=J (Bs (Fc t).1 (Fc t').1)) O O ⟨congrArg (Value.int .i64) ?_,hF.same⟩;rw[Ji];clear hF hR hR' hX hY hK hK' ih hk hk'
 ·first|(simp_all[Xh];done)|(simp_all[Xh];omega)
 refine La (Fa (Ga ?_));refine Md (zs:=.of []) (bQ [0,1,2,3,5,6,7,8,10,11,12,13] (cQ [4,9,14,15,16] (.free 17 .nil))) hF ?_;intro w hF;refine Jb O (Ob Xd O) (Fg O (Th eZ O C0 1 O O) (Jb O (Ob Xd O) (Fg O (Th eZ O C0 0 O O) (Jb O (Ob Wd O) (Fg O (Pk jZ O C0 1 O O) (Jb O (Ob Wd O) (Fg O (Pk jZ O C0 0 O O) (Jb O (Ob Td O) (Fg O (Xe yQ O C0 1 O O) (Jb O (Ob Td O) (Fg O (Xe yQ O C0 0 O O) ?_)))))))))));refine Ed hF (Eu k k' _) O (Xa WF O O O) ?_;intro w hF;refine⟨hF,?_⟩;refine Ed hF (Np t t' _) O (Xa YF O O O) ?_;intro w hF;refine⟨hF,?_⟩;refine Ed hF (OO ks ks' A A' c c' S S' _ (hF.rep hK) (hF.rep hK')) O (Rf en_85 O O O O) ?_;intro w hF;refine⟨hF,?_⟩;refine Kg 3 O hF (Nb (cs:=#[J (Lib.compareInt k k'),J (Lib.compareBytes t t'),J (Nf Lib.compareBytes ks ks')]) gX sizeOf3 oX Ab Ab Ub) ?_;rintro b5 w hb5 hF -;refine⟨hF.drop 1,?_⟩;refine Ed hF (or_c [Lib.compareInt k k',Lib.compareBytes t t',Nf Lib.compareBytes ks ks'] _ 3 Ma _ (BA (hF.cellsAll 0 O))) O (Na VU O O) ?_;intro w hF;refine⟨hF.drop 1,?_⟩;refine Jb O (Gb O) (Hc (Fa (Ga (Ea (Ba (Za O) (Ba (Vk O O) (Da ?_)))))));refine Ib O O (λhc1=>?_) (λhc1=>?_);refine Ea (Ba (Za O) (Ba (Gb O) (Da ?_)));refine Gc (v:=J (LB [Lib.compareInt k k',Lib.compareBytes t t',Nf Lib.compareBytes ks ks'])) O O ⟨congrArg (Value.int .i64) ?_,hF.same⟩;rw[Ji];clear hF hR hR' hX hY hK hK' ih hk hk'
 ·first|(simp_all[Xh];done)|(simp_all[Xh];omega)
 refine La (Fa (Ea (Ba (Ob Xb O) (Zb (Xe zQ O hF.F 2 O O) (Ba (Ob Xb O) (Zb (Xe zQ O hF.F 1 O O) ?_))))));refine Oa hF (WM Ji xs ys B B' e e' S S' _ (hF.rep hX) (hF.rep hY) (λx hx y hy S1 S2 w1 cs1 ct1 hs h1 h2=>ih x hx y S1 S2 w1 cs1 ct1 h1 h2 (Jl hk.2.2 x hx) (Jl hk'.2.2 y hy) ((hG.ext hF.same).ext hs))) (Rf en_86 O O O O) ?_;intro w hF;refine Ba (Gb O) (Da ?_);refine Gc (v:=J (Nf Ji xs ys)) O O ⟨congrArg (Value.int .i64) ?_,hF.same⟩;rw[Ji];clear hF hR hR' hX hY hK hK' ih hk hk'
 ·first|(simp_all[Xh];done)|(simp_all[Xh];omega)
 refine Ca (Ca (Ca (Ba (Kb O O) (Da (Sn O (Ga ?_))))));refine Md (zs:=.of []) (bQ [0,1,2,3,5,6,7,8,10,11,12,13] (cQ [4,9,14,15,16] (.free 17 .nil))) hF ?_;intro w hF;refine Jb O (Ob Xd O) (Fg O (Th eZ O C0 1 O O) (Jb O (Ob Xd O) (Fg O (Th eZ O C0 0 O O) (Jb O (Ob Wd O) (Fg O (Pk jZ O C0 1 O O) (Jb O (Ob Wd O) (Fg O (Pk jZ O C0 0 O O) (Jb O (Ob Td O) (Fg O (Xe yQ O C0 1 O O) (Jb O (Ob Td O) (Fg O (Xe yQ O C0 0 O O) ?_)))))))))));refine Ed hF (Eu k k' _) O (Xa WF O O O) ?_;intro w hF;refine⟨hF,?_⟩;refine Ed hF (Np t t' _) O (Xa YF O O O) ?_;intro w hF;refine⟨hF,?_⟩;refine Ed hF (OO ks ks' A A' c c' S S' _ (hF.rep hK) (hF.rep hK')) O (Rf en_85 O O O O) ?_;intro w hF;refine⟨hF,?_⟩;refine Kg 3 O hF (Nb (cs:=#[J (Lib.compareInt k k'),J (Lib.compareBytes t t'),J (Nf Lib.compareBytes ks ks')]) gX sizeOf3 oX Ab Ab Ub) ?_;rintro b6 w hb6 hF -;refine⟨hF.drop 1,?_⟩;refine Ed hF (or_c [Lib.compareInt k k',Lib.compareBytes t t',Nf Lib.compareBytes ks ks'] _ 3 Ma _ (BA (hF.cellsAll 0 O))) O (Na VU O O) ?_;intro w hF;refine⟨hF.drop 1,?_⟩;refine Jb O (Gb O) (Hc (Fa (Ga (Ea (Ba (Za O) (Ba (Vk O O) (Da ?_)))))));refine Ib O O (λhc1=>?_) (λhc1=>?_);refine Ea (Ba (Za O) (Ba (Gb O) (Da ?_)));refine Gc (v:=J (LB [Lib.compareInt k k',Lib.compareBytes t t',Nf Lib.compareBytes ks ks'])) O O ⟨congrArg (Value.int .i64) ?_,hF.same⟩;rw[Ji];clear hF hR hR' hX hY hK hK' ih hk hk'
 ·first|(simp_all[Xh];done)|(simp_all[Xh];omega)
 refine La (Fa (Ea (Ba (Ob Xb O) (Zb (Xe zQ O hF.F 2 O O) (Ba (Ob Xb O) (Zb (Xe zQ O hF.F 1 O O) ?_))))));refine Oa hF (WM Ji xs ys B B' e e' S S' _ (hF.rep hX) (hF.rep hY) (λx hx y hy S1 S2 w1 cs1 ct1 hs h1 h2=>ih x hx y S1 S2 w1 cs1 ct1 h1 h2 (Jl hk.2.2 x hx) (Jl hk'.2.2 y hy) ((hG.ext hF.same).ext hs))) (Rf en_86 O O O O) ?_;intro w hF;refine Ba (Gb O) (Da ?_);refine Gc (v:=J (Nf Ji xs ys)) O O ⟨congrArg (Value.int .i64) ?_,hF.same⟩;rw[Ji];clear hF hR hR' hX hY hK hK' ih hk hk'
 ·first|(simp_all[Xh];done)|(simp_all[Xh];omega)
theorem order_c(x:Tree):YK x:=Tree.ind LJ x
def Ow(x y:Tree):Bool:=Kd x&&Kd y&&Cm x y
theorem Yi{x:Tree}(h:Kd x=true):Xc nodeB x=true:=by unfold Kd at h;rw[Bool.and_eq_true]at h;exact h.2
theorem of_c(s:Str)(w0:World):Calls prog 33 #[I s] w0 (Dd λv w'=>v=.agg #[J 4,I s,aQ,aQ]/\Same [] w0 w'):=by
 refine Ia func33 O ntmps33 Eb (Yb _) ?_;have hF:=FR.start w0 [];refine Ea (Wc (cs:=#[J 0,I [],aQ,aQ]) hF lX O ?_);rintro b1 w hb1 hF -;refine Rb (Ba (Bc O) ?_);refine Ka (w':=w) (v:=.agg #[J 4,I s,aQ,aQ]) Ub (Ie hF nZ O O Zg ?_);rintro w hF -;refine Da (Va (Ua (Ja (Vi O (l:=[J 4,I s,aQ,aQ]) O aZ nZ O (hF.cellsAll 0 O)) ?_)));exact⟨O,hF.same⟩
theorem Y8(n:Int)(h1:-9223372036854775808<=n)(h2:n<=9223372036854775807)(w0:World)(hG:Gl w0):Calls prog 21 #[J n] w0 (Dd λv w'=>v=.agg #[J 3,I (Tf (I2 n)),aQ,aQ]/\Same [] w0 w'):=by
 refine Ia func21 O ntmps21 Eb (Yb _) ?_;have hF:=FR.start w0 [];refine Ea (Wc (cs:=#[J 0,I [],aQ,aQ]) hF lX O ?_);rintro b1 w hb1 hF -;refine Rb (Ba (Za O) ?_);refine Oa hF (QN n h1 h2 _ (hG.ext hF.same)) (Na en_47 O O) ?_;intro w hF;refine Oa hF (MB (I2 n) (by have:=Ki (Lib.itoa n);exact fQ this Ab) _ (hG.ext hF.same)) (Na PM O O) ?_;intro w hF;refine Ka (w':=w) (v:=.agg #[J 3,I (Tf (I2 n)),aQ,aQ]) Ub (Ie hF nZ O O Zg ?_);rintro w hF -;refine Da (Va (Ua (Ja (Vi O (l:=[J 3,I (Tf (I2 n)),aQ,aQ]) O aZ nZ O (hF.cellsAll 0 O)) ?_)));exact⟨O,hF.same⟩
end Go.Scarf
