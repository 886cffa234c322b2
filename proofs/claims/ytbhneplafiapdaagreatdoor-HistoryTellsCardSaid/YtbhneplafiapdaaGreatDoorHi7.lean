/- A part of the proof. -/
import Derived.Test.YtbhneplafiapdaaGreatDoorHi5
set_option linter.all false
set_option maxHeartbeats 8000000
set_option maxRecDepth 10000
namespace Go.Scarf
open Go.RowKit Go.Proofs Go.Proofs.Tryz
theorem Nv(h:List Cm)(a b:Int):Qm h [a,b]=(Af h a&&Af h b):=by
  rw[<-Qq,<-Qq];unfold Qm;simp only[List.any_cons,List.any_nil,Bool.or_false];cases Pc h <;> cases P2 h.length a <;> cases P2 h.length b <;> rfl
theorem AB{h:List Cm}{a b:Int}(ht:Qm h [a,b]=true):Af h a=true/\Af h b=true:=by rwa [Nv,Bool.and_eq_true]at ht
theorem Cz(h:List Cm)(A:Option Addr)(c:Nat)(a b:Int)(ha63:-9223372036854775808<=a/\a<=9223372036854775807)(hb63:-9223372036854775808<=b/\b<=9223372036854775807)(S:Nat->Prop)(w0:World)(hX:Rep S w0 (Xg h) [.slice A h.length c])(hT:∀x∈h,Ai x)(hG:Gl w0):Calls prog 19 #[.slice A h.length c,J a,J b] w0 (Vd λv w'=>∃A c,v=.slice A (Sm h a b).length c/\Rep (Btw w0 w') w' (.slice (((Sm h a b).map λi:Nat=>(i:Int)).map We)) [.slice A (Sm h a b).length c]/\Same [] w0 w'):=by
 refine Ka func19 O ntmps19 Mb (Yp _ _ _) ?_;have hF:=FR.start w0 [];refine Ia (Ca (Vh O) (Fa (Ha (Ia (Ca (Kd O) (Ca (Db O) (Ca (Db O) ?_)))))));refine Xi 2 hF (Sc (cs:=#[J a,J b]) oZ iZ xZ Cc Cc Nc) ?_;rintro b1 w hb1 hF -;refine Ta hF (Y4 [a,b] (some ⟨b1,0,none⟩) 2 _ h A c _ _ (hF.rep hX) hT (hG.ext hF.same) (hF.rowS (S:=λ_=>False) 0 O (ds:=[a,b].map We) (n:=2) (RepL.cons_mk (c1:=[J a]) (Rep.lit_mk (v:=J a) (show Kr _ from ha63)) (RepL.cons_mk (c2:=[]) (Rep.lit_mk (v:=J b) (show Kr _ from hb63)) RepL.nil_mk)) O U)) (Qb OJ O O O) ?_;intro w hF;refine Ca (Bi O) (Fa ?_);refine Je O O (λhc0=>?_) (λhc0=>?_);refine Ia (Ca (Vh O) (Fa ?_));refine Tc (v:=.slice _ _ _) O O ?_;have e:Sm h a b=[]:=if_neg (λhh=>by have:=Nv h a b;rw[hh.1,hh.2]at this;rw[this]at hc0;simp at hc0);rw[e];exact⟨none,0,O,Rep.nil_slice 0 U none,hF.same⟩;refine Ma (Ga (Ha ?_));obtain⟨ht1,ht2⟩:=AB (show Qm h [a,b]=true by simpa using hc0);obtain⟨hr,hk0,hk1⟩:=Pj ht1;obtain⟨-,hk2,hk3⟩:=Pj ht2;obtain⟨an,rfl⟩:∃n:Nat,a=(n:Int):=⟨a.toNat,by omega⟩;obtain⟨bn,rfl⟩:∃n:Nat,b=(n:Int):=⟨b.toNat,by omega⟩;refine Ea (Ca (Kd O) (Ca (Db O) (Ca (Db O) ?_)));refine Kc (OC h hr an bn U U A c _ _ (hF.rep hX)) (Ng YR O O O O) ?_;rintro _ w ⟨A2,c2,rfl,hR2,hE⟩;have hR2:=RX.made (w0:=w0) (ids:=[]) hF.same.size (λx hx=>by cases hx) hR2;have hF:=hF.ext hE;refine Ca (Vh O) (Fa ?_);refine Tc (v:=.slice _ _ _) O O ?_;have e:Sm h (an:Int) (bn:Int)=(List.range h.length).filter (Qh h an bn):=if_pos ⟨ht1,ht2⟩;rw[e];exact⟨A2,c2,O,hR2.rep.weaken (λb hb hl=>⟨hb.1,hl,hb.2.2.2⟩),hF.same⟩
open Go.RowKit
theorem TinyT.part{x:Tree}(h:TinyT x){p:List Tree}(hp:∀z∈p,z∈x.items)(hs:Ob p<=Ob x.items):TinyT (.node 5 [] [] p):=by
  refine⟨TP h.1 hp hs,?_,?_⟩
  ·obtain⟨k, t, ks, xs⟩ := x
   have h2:=h.2.1;rw[Ub]at h2 ⊢;have hs':Ob p<=Ob xs:=hs;omega
  obtain⟨k, t, ks, xs⟩ := x;have h3:=h.2.2;rw[He]at h3;have hm:∀q:List Tree,(∀z∈q,z∈xs)->Gk q<=Gk xs:=λq=>by
    induction q with
    | nil=>intro _;simp[Gk]
    | cons z q ih =>
      intro hq;have h4:=Oj (hq z Ua);have h5:=ih λy hy=>hq y (by simp[hy]);rw[Gk];omega
  have:=hm p hp;rw[He];simp only[Rn,List.length_nil];omega
structure Yv where
  B:Option Addr
  e:Nat
  G:Option Addr
  g:Nat
  M:Option Addr
  m:Nat
abbrev Yv.cells(q:Yv)(s n:Nat):List Value:=[.slice q.B s q.e,.slice q.G (n+1) q.g,.slice q.M n q.m]
def TZ(rl:List Rl)(F:Nat)(b l r:Option Tree):Prop:=∀(i:List Nat)(w0:World)(sm:List (Nat × Obj))(pb:Nat)(RV:Value)(cfs:List Cf)(path:List Str)(PA:Option Addr)(pc:Nat)(x y z:Sv),
  In rl i w0 sm pb RV cfs path PA pc b l r x y z->Zm l<F->path.length+F<=900 ->
  Calls prog 59 #[V pb,.slice PA path.length pc,.agg (th x y z).toArray] w0 (Vd λv w'=>Out i w0 sm pb RV cfs (Rp rl F path cfs.length b l r) v w')
theorem AtC.at{rl:List Rl}{F:Nat}(h:AtC rl F){b l r:Option Tree}:TZ rl F b l r:=λi w0 sm pb RV cfs path PA pc x y z=>h i w0 sm pb RV cfs path PA pc b l r x y z
theorem NO(rl:List Rl)(F:Nat)(b l r:Option Tree)(hsame:Yk l r=true\/Yk b l=true\/Yk b r=true):TZ rl (F+1) b l r:=by
 intro i w0 sm pb RV cfs path PA pc x y z hI hdp hpn;obtain⟨S,hSo,hT⟩:=hI.tri;obtain⟨hx,hy,hz⟩:=NH hT;refine Ka func59 O ntmps59 Mb (Yp _ _ _) ?_;have hF:FR w0 (ids sm) ([]++(sm++[])) w0:=hI.mi.start;refine Ia (YM (.pointer _) hF O ?_);rintro b1 w hb1 hF -;refine Xf hF O ?_;rintro b2 w hb2 hF -;refine Ve (cs:=#[.bool false,J 0,I [],aQ,aQ]) hF zZ O ?_;rintro b3 w hb3 hF -;refine Fa (Ha (Sa (Ia (Ca (Cd Ky O) (Ja (v:=.agg (y.cells).toArray) (Hb (l:=y.cells) cZ kZ O O (hF.part 1 5 O O)) (Ca (Cd L6 O) (Ja (v:=.agg (z.cells).toArray) (Hb (l:=z.cells) cZ kZ O O (hF.part 1 10 O O)) ?_)))))));refine Ta hF (Xl (Wy (Cr l) (Cr r) y z _ _ _ (hF.repM hSo hy) (hF.repM hSo hz) hI.tl.ok hI.tr.ok (hI.g.same hF.same hI.off)) (congrArg Value.bool (I6 hI.tl hI.tr))) (Qb BJ O O O) ?_;intro w hF;refine Ca (Eb O) (Fa ?_);refine Je O O (λhc0=>?_) (λhc0=>?_);refine Ia (Ca (Cd Ky O) (Ja (v:=.agg (y.cells).toArray) (Hb (l:=y.cells) cZ kZ O O (hF.part 1 5 O O)) ?_));refine Kc (Yz (Cr l) y _ _ (hF.repM hSo hy) hI.tl.ok (hI.g.same hF.same hI.off)) (Va YL O O) ?_;rintro _ w ⟨q,rfl,hRt,hE⟩;rw[MA hI.tl]at hRt;have hQ:=RX.made (ids:=[b3,b2,b1]++i) hF.same.size (hF.ltD hI.mi.low Ua) hRt;have hF:=hF.ext hE;clear hE hRt;refine Hh hF kZ O O Cj ?_;intro w hF hE;have hQ:=hQ.store hE (by grind);refine Fa (Gb (Fb (Pa (Kp O (l:=q.cells) O cZ kZ O (hF.cellsAll 0 O)) ?_)));rw[at_l hc0];exact Out.keep hI.mi hF hQ;refine Ia (Ca (Cd FE O) (Ja (v:=.agg (x.cells).toArray) (Hb (l:=x.cells) cZ kZ O O (hF.part 1 0 O O)) (Ca (Cd Ky O) (Ja (v:=.agg (y.cells).toArray) (Hb (l:=y.cells) cZ kZ O O (hF.part 1 5 O O)) ?_))));refine Ta hF (Xl (Wy (Cr b) (Cr l) x y _ _ _ (hF.repM hSo hx) (hF.repM hSo hy) hI.tb.ok hI.tl.ok (hI.g.same hF.same hI.off)) (congrArg Value.bool (I6 hI.tb hI.tl))) (Qb BJ O O O) ?_;intro w hF
 refine Ca (Eb O) (Fa ?_);refine Je O O (λhc1=>?_) (λhc1=>?_);refine Ia (Ca (Cd L6 O) (Ja (v:=.agg (z.cells).toArray) (Hb (l:=z.cells) cZ kZ O O (hF.part 1 10 O O)) ?_));refine Kc (Yz (Cr r) z _ _ (hF.repM hSo hz) hI.tr.ok (hI.g.same hF.same hI.off)) (Va YL O O) ?_;rintro _ w ⟨q,rfl,hRt,hE⟩;rw[MA hI.tr]at hRt;have hQ:=RX.made (ids:=[b3,b2,b1]++i) hF.same.size (hF.ltD hI.mi.low Ua) hRt;have hF:=hF.ext hE;clear hE hRt;refine Hh hF kZ O O Cj ?_;intro w hF hE;have hQ:=hQ.store hE (by grind);refine Fa (Gb (Fb (Pa (Kp O (l:=q.cells) O cZ kZ O (hF.cellsAll 0 O)) ?_)));rw[at_r (by rw[hc0];simp) hc1];exact Out.keep hI.mi hF hQ;refine Ia (Ca (Cd FE O) (Ja (v:=.agg (x.cells).toArray) (Hb (l:=x.cells) cZ kZ O O (hF.part 1 0 O O)) (Ca (Cd L6 O) (Ja (v:=.agg (z.cells).toArray) (Hb (l:=z.cells) cZ kZ O O (hF.part 1 10 O O)) ?_))));refine Ta hF (Xl (Wy (Cr b) (Cr r) x z _ _ _ (hF.repM hSo hx) (hF.repM hSo hz) hI.tb.ok hI.tr.ok (hI.g.same hF.same hI.off)) (congrArg Value.bool (I6 hI.tb hI.tr))) (Qb BJ O O O) ?_;intro w hF;refine Ca (Eb O) (Fa ?_);refine Je O O (λhc2=>?_) (λhc2=>?_);refine Ia (Ca (Cd Ky O) (Ja (v:=.agg (y.cells).toArray) (Hb (l:=y.cells) cZ kZ O O (hF.part 1 5 O O)) ?_));refine Kc (Yz (Cr l) y _ _ (hF.repM hSo hy) hI.tl.ok (hI.g.same hF.same hI.off)) (Va YL O O) ?_;rintro _ w ⟨q,rfl,hRt,hE⟩;rw[MA hI.tl]at hRt;have hQ:=RX.made (ids:=[b3,b2,b1]++i) hF.same.size (hF.ltD hI.mi.low Ua) hRt;have hF:=hF.ext hE;clear hE hRt;refine Hh hF kZ O O Cj ?_;intro w hF hE;have hQ:=hQ.store hE (by grind);refine Fa (Gb (Fb (Pa (Kp O (l:=q.cells) O cZ kZ O (hF.cellsAll 0 O)) ?_)));rw[YZ (by rw[hc0];simp) (by rw[hc1];simp) hc2];exact Out.keep hI.mi hF hQ;exact absurd hsame (by rw[hc0,hc1,hc2];simp)
end Go.Scarf
