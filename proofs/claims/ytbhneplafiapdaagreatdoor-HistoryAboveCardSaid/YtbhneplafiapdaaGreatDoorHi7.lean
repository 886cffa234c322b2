/- A part of the proof. -/
import Derived.Test.YtbhneplafiapdaaGreatDoorHi5
set_option linter.all false
set_option maxHeartbeats 8000000
set_option maxRecDepth 10000
namespace Go.Scarf
open Go.RowKit Go.Proofs Go.Proofs.Tryz
theorem Sq(h:List Cm)(a b:Int):Yj h [a,b]=(Gg h a&&Gg h b):=by
  rw[<-On,<-On];unfold Yj;simp only[List.any_cons,List.any_nil,Bool.or_false];cases Pb h <;> cases Bx h.length a <;> cases Bx h.length b <;> rfl
theorem U6{h:List Cm}{a b:Int}(ht:Yj h [a,b]=true):Gg h a=true/\Gg h b=true:=by rwa [Sq,Bool.and_eq_true]at ht
theorem Uu(h:List Cm)(A:Option Addr)(c:Nat)(a b:Int)(ha63:-9223372036854775808<=a/\a<=9223372036854775807)(hb63:-9223372036854775808<=b/\b<=9223372036854775807)(S:Nat->Prop)(w0:World)(hX:Rep S w0 (Jl h) [.slice A h.length c])(hT:∀x∈h,Sg x)(hG:Gl w0):Calls prog 19 #[.slice A h.length c,J a,J b] w0 (Hd λv w'=>∃A c,v=.slice A (Gi h a b).length c/\Rep (Btw w0 w') w' (.slice (((Gi h a b).map λi:Nat=>(i:Int)).map Td)) [.slice A (Gi h a b).length c]/\Same [] w0 w'):=by
 refine Ga func19 O ntmps19 Ib (Km _ _ _) ?_;have hF:=FR.start w0 [];refine Ka (Da (Zj O) (Ea (Ja (Ka (Da (Wd O) (Da (Bc O) (Da (Bc O) ?_)))))));refine Ci 2 hF (Dc (cs:=#[J a,J b]) gZ cZ pZ Ob Ob Xb) ?_;rintro b1 w hb1 hF -;refine Ra hF (Jz [a,b] (some ⟨b1,0,none⟩) 2 _ h A c _ _ (hF.rep hX) hT (hG.ext hF.same) (hF.rowS (S:=λ_=>False) 0 O (ds:=[a,b].map Td) (n:=2) (RepL.cons_mk (c1:=[J a]) (Rep.lit_mk (v:=J a) (show Qp _ from ha63)) (RepL.cons_mk (c2:=[]) (Rep.lit_mk (v:=J b) (show Qp _ from hb63)) RepL.nil_mk)) O Ca)) (Fb PC O O O) ?_;intro w hF;refine Da (Ui O) (Ea ?_);refine Me O O (λhc0=>?_) (λhc0=>?_);refine Ka (Da (Zj O) (Ea ?_));refine Sc (v:=.slice _ _ _) O O ?_;have e:Gi h a b=[]:=if_neg (λhh=>by have:=Sq h a b;rw[hh.1,hh.2]at this;rw[this]at hc0;simp at hc0);rw[e];exact⟨none,0,O,Rep.nil_slice 0 Ca none,hF.same⟩;refine Ta (Ha (Ja ?_));obtain⟨ht1,ht2⟩:=U6 (show Yj h [a,b]=true by simpa using hc0);obtain⟨hr,hk0,hk1⟩:=Nf ht1;obtain⟨-,hk2,hk3⟩:=Nf ht2;obtain⟨an,rfl⟩:∃n:Nat,a=(n:Int):=⟨a.toNat,by omega⟩;obtain⟨bn,rfl⟩:∃n:Nat,b=(n:Int):=⟨b.toNat,by omega⟩;refine Ma (Da (Wd O) (Da (Bc O) (Da (Bc O) ?_)));refine Cc (P9 h hr an bn Ca Ca A c _ _ (hF.rep hX)) (Ye DJ O O O O) ?_;rintro _ w ⟨A2,c2,rfl,hR2,hE⟩;have hR2:=RX.made (w0:=w0) (ids:=[]) hF.same.size (λx hx=>by cases hx) hR2;have hF:=hF.ext hE;refine Da (Zj O) (Ea ?_);refine Sc (v:=.slice _ _ _) O O ?_;have e:Gi h (an:Int) (bn:Int)=(List.range h.length).filter (Ff h an bn):=if_pos ⟨ht1,ht2⟩;rw[e];exact⟨A2,c2,O,hR2.rep.weaken (λb hb hl=>⟨hb.1,hl,hb.2.2.2⟩),hF.same⟩
open Go.RowKit
theorem TinyT.part{x:Tree}(h:TinyT x){p:List Tree}(hp:∀z∈p,z∈x.items)(hs:Za p<=Za x.items):TinyT (.node 5 [] [] p):=by
  refine⟨YH h.1 hp hs,?_,?_⟩
  ·obtain⟨k, t, ks, xs⟩ := x
   have h2:=h.2.1;rw[Gb]at h2 ⊢;have hs':Za p<=Za xs:=hs;omega
  obtain⟨k, t, ks, xs⟩ := x;have h3:=h.2.2;rw[Rd]at h3;have hm:∀q:List Tree,(∀z∈q,z∈xs)->Ph q<=Ph xs:=λq=>by
    induction q with
    | nil=>intro _;simp[Ph]
    | cons z q ih =>
      intro hq;have h4:=Ak (hq z Pa);have h5:=ih λy hy=>hq y (by simp[hy]);rw[Ph];omega
  have:=hm p hp;rw[Rd];simp only[Vk,List.length_nil];omega
structure Yv where
  B:Option Addr
  e:Nat
  G:Option Addr
  g:Nat
  M:Option Addr
  m:Nat
abbrev Yv.cells(q:Yv)(s n:Nat):List Value:=[.slice q.B s q.e,.slice q.G (n+1) q.g,.slice q.M n q.m]
def VQ(rl:List Rl)(F:Nat)(b l r:Option Tree):Prop:=∀(i:List Nat)(w0:World)(sm:List (Nat × Obj))(pb:Nat)(RV:Value)(cfs:List Cf)(path:List Str)(PA:Option Addr)(pc:Nat)(x y z:Sv),
  In rl i w0 sm pb RV cfs path PA pc b l r x y z->Xj l<F->path.length+F<=900 ->
  Calls prog 59 #[V pb,.slice PA path.length pc,.agg (th x y z).toArray] w0 (Hd λv w'=>Out i w0 sm pb RV cfs (Em rl F path cfs.length b l r) v w')
theorem AtC.at{rl:List Rl}{F:Nat}(h:AtC rl F){b l r:Option Tree}:VQ rl F b l r:=λi w0 sm pb RV cfs path PA pc x y z=>h i w0 sm pb RV cfs path PA pc b l r x y z
theorem B1(rl:List Rl)(F:Nat)(b l r:Option Tree)(hsame:Ii l r=true\/Ii b l=true\/Ii b r=true):VQ rl (F+1) b l r:=by
 intro i w0 sm pb RV cfs path PA pc x y z hI hdp hpn;obtain⟨S,hSo,hT⟩:=hI.tri;obtain⟨hx,hy,hz⟩:=QB hT;refine Ga func59 O ntmps59 Ib (Km _ _ _) ?_;have hF:FR w0 (ids sm) ([]++(sm++[])) w0:=hI.mi.start;refine Ka (SD (.pointer _) hF O ?_);rintro b1 w hb1 hF -;refine Mg hF O ?_;rintro b2 w hb2 hF -;refine Ce (cs:=#[.bool false,J 0,I [],aQ,aQ]) hF rZ O ?_;rintro b3 w hb3 hF -;refine Ea (Ja (Cb (Ka (Da (Ld Et O) (Oa (v:=.agg (y.cells).toArray) (Db (l:=y.cells) yQ eZ O O (hF.part 1 5 O O)) (Da (Ld Uz O) (Oa (v:=.agg (z.cells).toArray) (Db (l:=z.cells) yQ eZ O O (hF.part 1 10 O O)) ?_)))))));refine Ra hF (Bi (Pv (Sn l) (Sn r) y z _ _ _ (hF.repM hSo hy) (hF.repM hSo hz) hI.tl.ok hI.tr.ok (hI.g.same hF.same hI.off)) (congrArg Value.bool (Nz hI.tl hI.tr))) (Fb CC O O O) ?_;intro w hF;refine Da (Kb O) (Ea ?_);refine Me O O (λhc0=>?_) (λhc0=>?_);refine Ka (Da (Ld Et O) (Oa (v:=.agg (y.cells).toArray) (Db (l:=y.cells) yQ eZ O O (hF.part 1 5 O O)) ?_));refine Cc (Wt (Sn l) y _ _ (hF.repM hSo hy) hI.tl.ok (hI.g.same hF.same hI.off)) (Sa OF O O) ?_;rintro _ w ⟨q,rfl,hRt,hE⟩;rw[Q6 hI.tl]at hRt;have hQ:=RX.made (ids:=[b3,b2,b1]++i) hF.same.size (hF.ltD hI.mi.low Pa) hRt;have hF:=hF.ext hE;clear hE hRt;refine Lg hF eZ O O Fj ?_;intro w hF hE;have hQ:=hQ.store hE (by grind);refine Ea (Wb (Rb (Ua (Jm O (l:=q.cells) O yQ eZ O (hF.cellsAll 0 O)) ?_)));rw[XO hc0];exact Out.keep hI.mi hF hQ;refine Ka (Da (Ld J8 O) (Oa (v:=.agg (x.cells).toArray) (Db (l:=x.cells) yQ eZ O O (hF.part 1 0 O O)) (Da (Ld Et O) (Oa (v:=.agg (y.cells).toArray) (Db (l:=y.cells) yQ eZ O O (hF.part 1 5 O O)) ?_))));refine Ra hF (Bi (Pv (Sn b) (Sn l) x y _ _ _ (hF.repM hSo hx) (hF.repM hSo hy) hI.tb.ok hI.tl.ok (hI.g.same hF.same hI.off)) (congrArg Value.bool (Nz hI.tb hI.tl))) (Fb CC O O O) ?_;intro w hF;refine Da (Kb O) (Ea ?_)
 refine Me O O (λhc1=>?_) (λhc1=>?_);refine Ka (Da (Ld Uz O) (Oa (v:=.agg (z.cells).toArray) (Db (l:=z.cells) yQ eZ O O (hF.part 1 10 O O)) ?_));refine Cc (Wt (Sn r) z _ _ (hF.repM hSo hz) hI.tr.ok (hI.g.same hF.same hI.off)) (Sa OF O O) ?_;rintro _ w ⟨q,rfl,hRt,hE⟩;rw[Q6 hI.tr]at hRt;have hQ:=RX.made (ids:=[b3,b2,b1]++i) hF.same.size (hF.ltD hI.mi.low Pa) hRt;have hF:=hF.ext hE;clear hE hRt;refine Lg hF eZ O O Fj ?_;intro w hF hE;have hQ:=hQ.store hE (by grind);refine Ea (Wb (Rb (Ua (Jm O (l:=q.cells) O yQ eZ O (hF.cellsAll 0 O)) ?_)));rw[FO (by rw[hc0];simp) hc1];exact Out.keep hI.mi hF hQ;refine Ka (Da (Ld J8 O) (Oa (v:=.agg (x.cells).toArray) (Db (l:=x.cells) yQ eZ O O (hF.part 1 0 O O)) (Da (Ld Uz O) (Oa (v:=.agg (z.cells).toArray) (Db (l:=z.cells) yQ eZ O O (hF.part 1 10 O O)) ?_))));refine Ra hF (Bi (Pv (Sn b) (Sn r) x z _ _ _ (hF.repM hSo hx) (hF.repM hSo hz) hI.tb.ok hI.tr.ok (hI.g.same hF.same hI.off)) (congrArg Value.bool (Nz hI.tb hI.tr))) (Fb CC O O O) ?_;intro w hF;refine Da (Kb O) (Ea ?_);refine Me O O (λhc2=>?_) (λhc2=>?_);refine Ka (Da (Ld Et O) (Oa (v:=.agg (y.cells).toArray) (Db (l:=y.cells) yQ eZ O O (hF.part 1 5 O O)) ?_));refine Cc (Wt (Sn l) y _ _ (hF.repM hSo hy) hI.tl.ok (hI.g.same hF.same hI.off)) (Sa OF O O) ?_;rintro _ w ⟨q,rfl,hRt,hE⟩;rw[Q6 hI.tl]at hRt;have hQ:=RX.made (ids:=[b3,b2,b1]++i) hF.same.size (hF.ltD hI.mi.low Pa) hRt;have hF:=hF.ext hE;clear hE hRt;refine Lg hF eZ O O Fj ?_;intro w hF hE;have hQ:=hQ.store hE (by grind);refine Ea (Wb (Rb (Ua (Jm O (l:=q.cells) O yQ eZ O (hF.cellsAll 0 O)) ?_)));rw[ON (by rw[hc0];simp) (by rw[hc1];simp) hc2];exact Out.keep hI.mi hF hQ;exact absurd hsame (by rw[hc0,hc1,hc2];simp)
end Go.Scarf
