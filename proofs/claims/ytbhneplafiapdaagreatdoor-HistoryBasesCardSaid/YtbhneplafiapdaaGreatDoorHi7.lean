/- A part of the proof. -/
import Derived.Test.YtbhneplafiapdaaGreatDoorHi5
set_option linter.all false
set_option maxHeartbeats 8000000
set_option maxRecDepth 10000
namespace Go.Scarf
open Go.RowKit Go.Proofs Go.Proofs.Tryz
theorem Sq(h:List Cm)(a b:Int):Pj h [a,b]=(Xg h a&&Xg h b):=by
  rw[<-Dn,<-Dn];unfold Pj;simp only[List.any_cons,List.any_nil,Bool.or_false];cases Rb h <;> cases Ow h.length a <;> cases Ow h.length b <;> rfl
theorem I6{h:List Cm}{a b:Int}(ht:Pj h [a,b]=true):Xg h a=true/\Xg h b=true:=by rwa [Sq,Bool.and_eq_true]at ht
theorem Wt(h:List Cm)(A:Option Addr)(c:Nat)(a b:Int)(ha63:-9223372036854775808<=a/\a<=9223372036854775807)(hb63:-9223372036854775808<=b/\b<=9223372036854775807)(S:Nat->Prop)(w0:World)(hX:Rep S w0 (Zk h) [.slice A h.length c])(hT:∀x∈h,Tg x)(hG:Gl w0):Calls prog 19 #[.slice A h.length c,J a,J b] w0 (Pd λv w'=>∃A c,v=.slice A (Bj h a b).length c/\Rep (Btw w0 w') w' (.slice (((Bj h a b).map λi:Nat=>(i:Int)).map Lc)) [.slice A (Bj h a b).length c]/\Same [] w0 w'):=by
 refine Ia func19 O ntmps19 Kb (Zm _ _ _) ?_;have hF:=FR.start w0 [];refine Ka (Da (Wj O) (Ea (Ha (Ka (Da (Od O) (Da (Bc O) (Da (Bc O) ?_)))))));refine Fi 2 hF (Gc (cs:=#[J a,J b]) gZ cZ pZ Ub Ub Cc) ?_;rintro b1 w hb1 hF -;refine Ra hF (Vz [a,b] (some ⟨b1,0,none⟩) 2 _ h A c _ _ (hF.rep hX) hT (hG.ext hF.same) (hF.rowS (S:=λ_=>False) 0 O (ds:=[a,b].map Lc) (n:=2) (RepL.cons_mk (c1:=[J a]) (Rep.lit_mk (v:=J a) (show Bp _ from ha63)) (RepL.cons_mk (c2:=[]) (Rep.lit_mk (v:=J b) (show Bp _ from hb63)) RepL.nil_mk)) O Ca)) (Gb RE O O O) ?_;intro w hF;refine Da (Bi O) (Ea ?_);refine Ke O O (λhc0=>?_) (λhc0=>?_);refine Ka (Da (Wj O) (Ea ?_));refine Yc (v:=.slice _ _ _) O O ?_;have e:Bj h a b=[]:=if_neg (λhh=>by have:=Sq h a b;rw[hh.1,hh.2]at this;rw[this]at hc0;simp at hc0);rw[e];exact⟨none,0,O,Rep.nil_slice 0 Ca none,hF.same⟩;refine Sa (Fa (Ha ?_));obtain⟨ht1,ht2⟩:=I6 (show Pj h [a,b]=true by simpa using hc0);obtain⟨hr,hk0,hk1⟩:=Zf ht1;obtain⟨-,hk2,hk3⟩:=Zf ht2;obtain⟨an,rfl⟩:∃n:Nat,a=(n:Int):=⟨a.toNat,by omega⟩;obtain⟨bn,rfl⟩:∃n:Nat,b=(n:Int):=⟨b.toNat,by omega⟩;refine Ja (Da (Od O) (Da (Bc O) (Da (Bc O) ?_)));refine Zb (B9 h hr an bn Ca Ca A c _ _ (hF.rep hX)) (Re MK O O O O) ?_;rintro _ w ⟨A2,c2,rfl,hR2,hE⟩;have hR2:=RX.made (w0:=w0) (ids:=[]) hF.same.size (λx hx=>by cases hx) hR2;have hF:=hF.ext hE;refine Da (Wj O) (Ea ?_);refine Yc (v:=.slice _ _ _) O O ?_;have e:Bj h (an:Int) (bn:Int)=(List.range h.length).filter (Of h an bn):=if_pos ⟨ht1,ht2⟩;rw[e];exact⟨A2,c2,O,hR2.rep.weaken (λb hb hl=>⟨hb.1,hl,hb.2.2.2⟩),hF.same⟩
open Go.RowKit
theorem TinyT.part{x:Tree}(h:TinyT x){p:List Tree}(hp:∀z∈p,z∈x.items)(hs:Cb p<=Cb x.items):TinyT (.node 5 [] [] p):=by
  refine⟨TG h.1 hp hs,?_,?_⟩
  ·obtain⟨k, t, ks, xs⟩ := x
   have h2:=h.2.1;rw[Jb]at h2 ⊢;have hs':Cb p<=Cb xs:=hs;omega
  obtain⟨k, t, ks, xs⟩ := x;have h3:=h.2.2;rw[Zd]at h3;have hm:∀q:List Tree,(∀z∈q,z∈xs)->Vh q<=Vh xs:=λq=>by
    induction q with
    | nil=>intro _;simp[Vh]
    | cons z q ih =>
      intro hq;have h4:=Gk (hq z Pa);have h5:=ih λy hy=>hq y (by simp[hy]);rw[Vh];omega
  have:=hm p hp;rw[Zd];simp only[Nk,List.length_nil];omega
structure Yv where
  B:Option Addr
  e:Nat
  G:Option Addr
  g:Nat
  M:Option Addr
  m:Nat
abbrev Yv.cells(q:Yv)(s n:Nat):List Value:=[.slice q.B s q.e,.slice q.G (n+1) q.g,.slice q.M n q.m]
def AR(rl:List Rl)(F:Nat)(b l r:Option Tree):Prop:=∀(i:List Nat)(w0:World)(sm:List (Nat × Obj))(pb:Nat)(RV:Value)(cfs:List Cf)(path:List Str)(PA:Option Addr)(pc:Nat)(x y z:Sv),
  In rl i w0 sm pb RV cfs path PA pc b l r x y z->Vj l<F->path.length+F<=900 ->
  Calls prog 59 #[V pb,.slice PA path.length pc,.agg (th x y z).toArray] w0 (Pd λv w'=>Out i w0 sm pb RV cfs (Dm rl F path cfs.length b l r) v w')
theorem AtC.at{rl:List Rl}{F:Nat}(h:AtC rl F){b l r:Option Tree}:AR rl F b l r:=λi w0 sm pb RV cfs path PA pc x y z=>h i w0 sm pb RV cfs path PA pc b l r x y z
theorem GH(rl:List Rl)(F:Nat)(b l r:Option Tree)(hsame:Hi l r=true\/Hi b l=true\/Hi b r=true):AR rl (F+1) b l r:=by
 intro i w0 sm pb RV cfs path PA pc x y z hI hdp hpn;obtain⟨S,hSo,hT⟩:=hI.tri;obtain⟨hx,hy,hz⟩:=R_ hT;refine Ia func59 O ntmps59 Kb (Zm _ _ _) ?_;have hF:FR w0 (ids sm) ([]++(sm++[])) w0:=hI.mi.start;refine Ka (BD (.pointer _) hF O ?_);rintro b1 w hb1 hF -;refine Bg hF O ?_;rintro b2 w hb2 hF -;refine De (cs:=#[.bool false,J 0,I [],aQ,aQ]) hF rZ O ?_;rintro b3 w hb3 hF -;refine Ea (Ha (Wa (Ka (Da (Ud Dt O) (Oa (v:=.agg (y.cells).toArray) (Fb (l:=y.cells) yQ eZ O O (hF.part 1 5 O O)) (Da (Ud Jz O) (Oa (v:=.agg (z.cells).toArray) (Fb (l:=z.cells) yQ eZ O O (hF.part 1 10 O O)) ?_)))))));refine Ra hF (Hh (Jt (Qn l) (Qn r) y z _ _ _ (hF.repM hSo hy) (hF.repM hSo hz) hI.tl.ok hI.tr.ok (hI.g.same hF.same hI.off)) (congrArg Value.bool (L0 hI.tl hI.tr))) (Gb HF O O O) ?_;intro w hF;refine Da (Ob O) (Ea ?_);refine Ke O O (λhc0=>?_) (λhc0=>?_);refine Ka (Da (Ud Dt O) (Oa (v:=.agg (y.cells).toArray) (Fb (l:=y.cells) yQ eZ O O (hF.part 1 5 O O)) ?_));refine Zb (Vv (Qn l) y _ _ (hF.repM hSo hy) hI.tl.ok (hI.g.same hF.same hI.off)) (Ua AD O O) ?_;rintro _ w ⟨q,rfl,hRt,hE⟩;rw[E7 hI.tl]at hRt;have hQ:=RX.made (ids:=[b3,b2,b1]++i) hF.same.size (hF.ltD hI.mi.low Pa) hRt;have hF:=hF.ext hE;clear hE hRt;refine Gg hF eZ O O Xi ?_;intro w hF hE;have hQ:=hQ.store hE (by grind);refine Ea (Yb (Xb (Va (Xm O (l:=q.cells) O yQ eZ O (hF.cellsAll 0 O)) ?_)));rw[EO hc0];exact Out.keep hI.mi hF hQ;refine Ka (Da (Ud X9 O) (Oa (v:=.agg (x.cells).toArray) (Fb (l:=x.cells) yQ eZ O O (hF.part 1 0 O O)) (Da (Ud Dt O) (Oa (v:=.agg (y.cells).toArray) (Fb (l:=y.cells) yQ eZ O O (hF.part 1 5 O O)) ?_))));refine Ra hF (Hh (Jt (Qn b) (Qn l) x y _ _ _ (hF.repM hSo hx) (hF.repM hSo hy) hI.tb.ok hI.tl.ok (hI.g.same hF.same hI.off)) (congrArg Value.bool (L0 hI.tb hI.tl))) (Gb HF O O O) ?_;intro w hF;refine Da (Ob O) (Ea ?_)
 refine Ke O O (λhc1=>?_) (λhc1=>?_);refine Ka (Da (Ud Jz O) (Oa (v:=.agg (z.cells).toArray) (Fb (l:=z.cells) yQ eZ O O (hF.part 1 10 O O)) ?_));refine Zb (Vv (Qn r) z _ _ (hF.repM hSo hz) hI.tr.ok (hI.g.same hF.same hI.off)) (Ua AD O O) ?_;rintro _ w ⟨q,rfl,hRt,hE⟩;rw[E7 hI.tr]at hRt;have hQ:=RX.made (ids:=[b3,b2,b1]++i) hF.same.size (hF.ltD hI.mi.low Pa) hRt;have hF:=hF.ext hE;clear hE hRt;refine Gg hF eZ O O Xi ?_;intro w hF hE;have hQ:=hQ.store hE (by grind);refine Ea (Yb (Xb (Va (Xm O (l:=q.cells) O yQ eZ O (hF.cellsAll 0 O)) ?_)));rw[HQ (by rw[hc0];simp) hc1];exact Out.keep hI.mi hF hQ;refine Ka (Da (Ud X9 O) (Oa (v:=.agg (x.cells).toArray) (Fb (l:=x.cells) yQ eZ O O (hF.part 1 0 O O)) (Da (Ud Jz O) (Oa (v:=.agg (z.cells).toArray) (Fb (l:=z.cells) yQ eZ O O (hF.part 1 10 O O)) ?_))));refine Ra hF (Hh (Jt (Qn b) (Qn r) x z _ _ _ (hF.repM hSo hx) (hF.repM hSo hz) hI.tb.ok hI.tr.ok (hI.g.same hF.same hI.off)) (congrArg Value.bool (L0 hI.tb hI.tr))) (Gb HF O O O) ?_;intro w hF;refine Da (Ob O) (Ea ?_);refine Ke O O (λhc2=>?_) (λhc2=>?_);refine Ka (Da (Ud Dt O) (Oa (v:=.agg (y.cells).toArray) (Fb (l:=y.cells) yQ eZ O O (hF.part 1 5 O O)) ?_));refine Zb (Vv (Qn l) y _ _ (hF.repM hSo hy) hI.tl.ok (hI.g.same hF.same hI.off)) (Ua AD O O) ?_;rintro _ w ⟨q,rfl,hRt,hE⟩;rw[E7 hI.tl]at hRt;have hQ:=RX.made (ids:=[b3,b2,b1]++i) hF.same.size (hF.ltD hI.mi.low Pa) hRt;have hF:=hF.ext hE;clear hE hRt;refine Gg hF eZ O O Xi ?_;intro w hF hE;have hQ:=hQ.store hE (by grind);refine Ea (Yb (Xb (Va (Xm O (l:=q.cells) O yQ eZ O (hF.cellsAll 0 O)) ?_)));rw[LQ (by rw[hc0];simp) (by rw[hc1];simp) hc2];exact Out.keep hI.mi hF hQ;exact absurd hsame (by rw[hc0,hc1,hc2];simp)
end Go.Scarf
