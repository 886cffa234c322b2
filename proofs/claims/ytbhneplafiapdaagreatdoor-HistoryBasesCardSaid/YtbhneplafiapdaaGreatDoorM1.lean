/- A part of the proof. -/
import Derived.Test.YtbhneplafiapdaaGreatDoorMg0
set_option linter.all false
set_option maxHeartbeats 8000000
set_option maxRecDepth 10000
namespace Go.Scarf
open Go.RowKit Go.Proofs Go.Proofs.Tryz
theorem Do(x:Tv)(w0:World):Calls prog 60 #[.agg (x.cells).toArray] w0 (Pd λv w'=>v=.agg #[.bool true,J (x.k),I (x.t),.slice x.A x.n x.c,.slice x.B x.m x.e]/\Same [] w0 w'):=by
 refine Ia func60 O ntmps60 Kb (Pc _) ?_;have hF:=FR.start w0 [];refine Ka (Bg hF O ?_);rintro b1 w hb1 hF -;refine De (cs:=#[.bool false,J 0,I [],aQ,aQ]) hF rZ O ?_;rintro b2 w hb2 hF -;refine Ec (Xd (Lj vQ bZ O hF.F 1 O O) ?_);refine Oa (w':=w) (v:=.agg #[.bool true,J (x.k),I (x.t),.slice x.A x.n x.c,.slice x.B x.m x.e]) Cc (Gg hF eZ O O Xi ?_);rintro w hF -;refine Ea (Yb (Xb (Va (Xm O (l:=[.bool true,J (x.k),I (x.t),.slice x.A x.n x.c,.slice x.B x.m x.e]) O yQ eZ O (hF.cellsAll 0 O)) ?_)));exact⟨O,hF.same⟩
structure SdOk (s:Sd):Prop where
  sz:Jb s.val<=1000000000
  ok:Nw s.val
theorem BM:SdOk noS:=⟨by simp[noS,Ge,Jb,Cb],by simp[noS,Ge,Nw,E2]⟩
def Px(a b:Sd):Bool:=(a.has==b.has)&&(!a.has || Cu a.val b.val)
theorem Jt(a b:Sd)(x y:Sv)(S S':Nat->Prop)(w0:World)(hX:Rep S w0 (Vd a) x.cells)(hY:Rep S' w0 (Vd b) y.cells)(ha:SdOk a)(hb:SdOk b)(hG:Gl w0):Calls prog 83 #[.agg (x.cells).toArray,.agg (y.cells).toArray] w0 (Pd λv w'=>v=.bool (Px a b)/\Same [] w0 w'):=by
 have hx:=Ft hX;have hy:=Ft hY;refine Ia func83 O ntmps83 Kb (Rd _ _) ?_;have hF:=FR.start w0 [];refine Ka (Bg hF O ?_);rintro b1 w hb1 hF -;refine Bg hF O ?_;rintro b2 w hb2 hF -;refine Da (Ob O) (Ec (Da (Ud Ys O) (Xd (OH isAgg4 O hF.F 1 O O) (Da (Ud Ys O) (Xd (OH isAgg4 O hF.F 0 O O) (Oa (v:=.bool ((x.h)==(y.h))) (UM underlying4 O O) (Da (Yd O) ?_)))))));refine Cd (d:=10) O (λhg0=>?_) (λhg0=>?_);refine Da (Ud Ys O) (Xd (OH isAgg4 O hF.F 1 O O) (Da (Bi O) (Da (Yd O) ?_)));refine Cd (d:=14) O (λhg1=>?_) (λhg1=>?_);refine Ma (Ma (Ma (Ma (Ma (Da (Sc O O) (Da (Sc O O) (Da (Ob O) (Ea ?_))))))));refine Yc (v:=.bool true) O O ⟨?_,hF.same⟩;rw[Px,<-hx.1,<-hy.1]
 first|(cases h1:x.h <;> cases h2:y.h <;> simp_all)|(simp_all)
 refine Da (Ud Ep O) (Oa (v:=.agg (x.v.cells).toArray) (Fb (l:=x.v.cells) vQ bZ O O (hF.part 1 1 O O)) (Da (Ud Ep O) (Oa (v:=.agg (y.v.cells).toArray) (Fb (l:=y.v.cells) vQ bZ O O (hF.part 0 1 O O)) ?_)));refine Ra hF (GI a.val b.val ha.sz hb.sz _ _ _ x.v.cells y.v.cells (hF.rep hx.2.2.2.2) (hF.rep hy.2.2.2.2) ha.ok hb.ok (hG.ext hF.same)) (Gb FO O O O) ?_;intro w hF;refine Da (Ed O O) (Da (Sc O O) (Da (Ob O) (Ea ?_)));refine Yc (v:=.bool _) O O ⟨?_,hF.same⟩;rw[Px,<-hx.1,<-hy.1]
 first|(cases h1:x.h <;> cases h2:y.h <;> simp_all)|(simp_all)
 refine Ma (Ma (Ma (Ma (Ma (Ma (Ma (Ma (Ma (Ma (Da (Ed O O) (Da (Ob O) (Ea ?_))))))))))));refine Yc (v:=.bool false) O O ⟨?_,hF.same⟩;rw[Px,<-hx.1,<-hy.1]
 first|(cases h1:x.h <;> cases h2:y.h <;> simp_all)|(simp_all)
theorem Vv(s:Sd)(x:Sv)(S:Nat->Prop)(w0:World)(hX:Rep S w0 (Vd s) x.cells)(hs:SdOk s)(hG:Gl w0):Calls prog 84 #[.agg x.cells.toArray] w0 (Pd λv w'=>∃y:Sv,v=.agg y.cells.toArray/\Rep (Btw w0 w') w' (Vd (Fx s)) y.cells/\Same [] w0 w'):=by
 have hx:=Ft hX;refine Ia func84 O ntmps84 Kb (Pc _) ?_;have hF:=FR.start w0 [];refine Ka (Bg hF O ?_);rintro b1 w hb1 hF -;refine De (cs:=#[.bool false,J 0,I [],aQ,aQ]) hF rZ O ?_;rintro b2 w hb2 hF -;refine Ea (Ha (Ka (Da (Ud Ys O) (Xd (OH isAgg4 O hF.F 1 O O) (Da (Bi O) (Ea ?_))))));refine Ke O O (λhc0=>?_) (λhc0=>?_);have h0:s.has=false:=by rw[<-hx.1];simpa using hc0
 refine Ka (Oa (w':=w) (v:=.agg #[.bool false,J 0,I [],aQ,aQ]) Cc ?_);refine Gg hF eZ O O Xi ?_;rintro w hF -;refine Ea (Yb (Xb (Va (Xm O (l:=[.bool false,J 0,I [],aQ,aQ]) O yQ eZ O (hF.cellsAll 0 O)) ?_)));have e:Fx s=noS:=by rw[Fx,if_neg (by rw[h0];decide)]
 rw[e];exact⟨⟨false,HR⟩,O,LH,hF.same⟩;have h0:s.has=true:=by rw[<-hx.1];simpa using hc0
 refine Sa (Fa (Ka (Da (Ud Ep O) (Oa (v:=.agg (x.v.cells).toArray) (Fb (l:=x.v.cells) vQ bZ O O (hF.part 1 1 O O)) ?_))));refine Zb (Xs s.val hs.sz _ _ x.v.cells (hF.rep hx.2.2.2.2) hs.ok (hG.ext hF.same)) (Ua T8 O O) ?_;rintro _ w ⟨ct,rfl,hRt,hE⟩;obtain⟨q,rfl,-⟩:=Ej hRt;have hYX:=RX.made (ids:=[b2,b1]) hF.same.size (λx hx=>hF.lt_ids (by grind)) hRt;have hF:=hF.ext hE;clear hE hRt;refine Zb (Do q _) (Ua Eo O O) ?_;rintro _ w ⟨rfl,hE⟩;have hF:=hF.ext hE;have hYX:=hYX.ext hE;refine Gg hF eZ O O Xi ?_;intro w hF hE;have hYX:=hYX.store hE (by grind);refine Ea (Yb (Xb (Va (Xm O (l:=[.bool true,J (q.k),I (q.t),.slice q.A q.n q.c,.slice q.B q.m q.e]) O yQ eZ O (hF.cellsAll 0 O)) ?_)));have e:Fx s=⟨true,Gs s.val⟩:=by rw[Fx,if_pos h0]
 rw[e]
 ·exact⟨⟨true,q⟩,O,Gi (s:=⟨true,Gs s.val⟩) hYX.done,hF.same⟩
theorem R_{S:Nat->Prop}{w:World}{b l r:Sd}{x y z:Sv}(h:Rep S w (Zu b l r) (th x y z)):Rep S w (Vd b) x.cells/\Rep S w (Vd l) y.cells/\Rep S w (Vd r) z.cells:=by
  unfold Zu at h;rw[Rep]at h;obtain⟨c1,d1,e1,h1,h⟩:=RepL.cons_inv h;obtain⟨c2,d2,rfl,h2,h⟩:=RepL.cons_inv h;obtain⟨c3,d3,rfl,h3,h⟩:=RepL.cons_inv h;obtain rfl:=RepL.nil_inv h;have l1:=h1.length.trans (Zo b);have l2:=h2.length.trans (Zo l);have l3:=h3.length.trans (Zo r)
  match c1,l1,c2,l2,c3,l3 with
  | [a0, a1, a2, a3, a4], _, [b0, b1, b2, b3, b4], _, [u0, u1, u2, u3, u4], _ =>
    simp only[th,List.cons_append,List.nil_append,qQ,List.cons.injEq,and_true]at e1;obtain⟨rfl,rfl,rfl,rfl,rfl,rfl,rfl,rfl,rfl,rfl,rfl,rfl,rfl,rfl,rfl⟩:=e1;exact⟨h1,h2,h3⟩
theorem Sm{S:Nat->Prop}{w:World}{b l r:Sd}{x y z:Sv}(h1:Rep S w (Vd b) x.cells)(h2:Rep S w (Vd l) y.cells)(h3:Rep S w (Vd r) z.cells):Rep S w (Zu b l r) (th x y z):=by
  unfold Zu;rw[Rep];exact RepL.cons_mk h1 (RepL.cons_mk h2 (RepL.cons_mk h3 RepL.nil_mk))
theorem RX.grow{u w w':World}{i:List Nat}{sl sl':List (Nat × Obj)}{ds:List D}{cs:List Value}(h:RX u i w ds cs)(hE:Same (sl.map (·.1)) w w')(hn:∀p∈sl',p.1∈sl.map (·.1)\/w.heap.size<=p.1)(hi:∀x∈sl.map (·.1),x∈i):RX u (i++ids sl') w' ds cs :=
  h.step hE hi λx hx=>by
    rcases mQ.1 hx with h1|h1
    ·exact .inl h1
    obtain⟨p, hp, rfl⟩ := nQ.1 h1;rcases hn p hp with h2|h2
    ·exact .inl (hi _ h2)
    exact .inr h2
theorem FR.repE{w0 w:World}{D:List Nat}{bs_:List (Nat × Obj)}{S:Nat->Prop}{d:Go.Scarf.D}{cs:List Value}(hF:FR w0 D bs_ w)(hS:∀b,S b->b<w0.heap.size/\b∉D)(h:Rep S w0 d cs):Rep S w d cs:=h.same hF.same λb hb hs=>(hS b hs).2 hb
theorem FR.ltD{w0 w:World}{E i L:List Nat}{bs_:List (Nat × Obj)}(hF:FR w0 E bs_ w)(hib:∀x∈i,7<=x/\x<w0.heap.size)(hL:∀x∈L,x∈bs_.map (·.1)):∀x∈L++i,x<w.heap.size:=λx hx=>by
  rcases mQ.1 hx with h|h
  ·exact hF.lt_ids (hL x h)
  exact Nat.lt_of_lt_of_le (hib x h).2 hF.same.size
structure Mi (i:List Nat) (w:World) (sm:List (Nat × Obj)) (pb:Nat) (RV:Value) (cfs:List Cf):Prop where
  m:Mx i w sm pb RV cfs
  hh:∀q∈sm,w.heap[q.1]? = some q.2
  sub:∀x∈ids sm,x∈i
  low:∀x∈i,7<=x/\x<w.heap.size
theorem Mi.start{i:List Nat}{w:World}{sm:List (Nat × Obj)}{pb:Nat}{RV:Value}{cfs:List Cf}(h:Mi i w sm pb RV cfs):FR w (ids sm) ([]++(sm++[])) w:=h.m.start h.hh
structure Mo' (i:List Nat) (w:World) (sm:List (Nat × Obj)) (w':World) (sm':List (Nat × Obj)) (pb:Nat) (RV:Value) (cfs:List Cf):Prop where
  m:Mx (i++ids sm') w' sm' pb RV cfs
  hh:∀q∈sm',w'.heap[q.1]? = some q.2
  mc:Mc w sm w' sm'
def AE(si:Int):Option Nat:=if si<0 then none else some si.toNat
structure MtI (p q:List Str) (R:Bool) (f i k:Nat) (si:Int) (tk:Nat):Prop where
  res:AN p q f ⟨i,k,AE si,tk⟩=R
  fuel:NQ p q ⟨i,k,AE si,tk⟩<f
  ip:i<=p.length
  kq:k<=q.length
  tk:tk<=k
  lo:-1<=si
  hi:si<i
theorem VD{a b X:Nat}(h:a+1<=b):a*X+X<=b*X:=by
  have:=Nat.mul_le_mul_right X h;rw[Nat.add_mul,Nat.one_mul]at this;exact this
section
variable {p q:List Str}{R:Bool}{f i k tk:Nat}{si:Int}
theorem MtI.start(h1:p.length<=200)(h2:q.length<=200):MtI p q (A7 p q) 10000000 0 0 (-1) 0:=by
  refine⟨?_,?_,Nat.zero_le _,Nat.zero_le _,gQ _,by omega,by omega⟩
  ·unfold A7
   rw[decide_eq_true h1,decide_eq_true h2,Bool.true_and,Bool.true_and];rfl
  have e : AE (-1) = none := rfl;rw[e,NQ];simp only[if_true,Nat.sub_zero];have a1:(p.length+1)*((q.length+1)*(q.length+1))<=201*(201*201):=Nat.mul_le_mul Ca (Nat.mul_le_mul Ca Ca);have a2:q.length*(q.length+1)<=200*201:=Nat.mul_le_mul Ca Ca;omega
theorem MtI.step(h:MtI p q R f i k si tk)(hk:k<q.length):∃f',f=f'+1/\(match BN p q ⟨i,k,AE si,tk⟩with|some m'=>AN p q f' m'|none=>false)=R:=by
  obtain⟨f',rfl⟩:∃g,f=g+1:=⟨f-1,by have:=h.fuel;omega⟩;have hr:=h.res;rw[AN,if_pos hk]at hr;exact⟨f',O,hr⟩
theorem MtI.star(h:MtI p q R f i k si tk)(hk:k<q.length)(hi:i<p.length)(e:p[i]=[42,42]):MtI p q R (f-1) (i+1) k (i:Int) k:=by
  obtain⟨f',rfl,hr⟩:=h.step hk;have eN:BN p q ⟨i,k,AE si,tk⟩=some ⟨i+1,k,some i,k⟩:=by rw[BN,if_pos];rw[List.getElem?_eq_getElem hi,e];rfl
  have es:AE (i:Int)=some i:=by unfold AE;rw[if_neg Ca];rfl
  rw[eN]at hr;refine⟨by rw[es];exact hr,?_,by omega,h.kq,gQ _,by omega,by omega⟩;have hf:=h.fuel;rw[es];have X:(q.length-k)*(q.length+1)+(q.length-k)<(q.length+1)*(q.length+1):=by
    have:=Nat.mul_le_mul_right (q.length+1) (Nat.sub_le q.length k);rw[Nat.add_mul q.length 1,Nat.one_mul];omega
  have h1:=h.hi;by_cases hs:si<0
  ·rw[show AE si = none from if_pos hs]at hf
   unfold NQ at hf ⊢;simp only[reduceCtorEq,if_false,if_true,Nat.add_zero,Nat.sub_zero]at hf ⊢;have Z:=VD (X:=(q.length+1)*(q.length+1)) (a:=p.length-i) (b:=p.length+1) Ca;omega
  rw[show AE si = some si.toNat from if_neg hs]at hf;unfold NQ at hf ⊢;simp only[reduceCtorEq,if_false,Nat.add_zero]at hf ⊢;have Z:=VD (X:=(q.length+1)*(q.length+1)) (a:=p.length-i) (b:=p.length-si.toNat) Ca;omega
theorem MtI.one(h:MtI p q R f i k si tk)(hk:k<q.length)(hi:i<p.length)(n:¬p[i]=[42,42])(e:p[i]=[42]\/p[i]=q[k]):MtI p q R (f-1) (i+1) (k+1) si tk:=by
  obtain⟨f',rfl,hr⟩:=h.step hk;have eN:BN p q ⟨i,k,AE si,tk⟩=some ⟨i+1,k+1,AE si,tk⟩:=by
    rw[BN,if_neg,if_pos]
    ·simp only[List.getElem?_eq_getElem hi, List.getElem?_eq_getElem hk]
     rcases e with e|e
     ·exact .inl (by rw[e];rfl)
     exact .inr ⟨by simp,by rw[e]⟩
    simp only[List.getElem?_eq_getElem hi];exact λhh=>n (lQ hh)
  rw[eN]at hr;refine⟨hr,?_,by omega,by omega,by have:=h.tk;omega,h.lo,by have:=h.hi;omega⟩;have hf:=h.fuel;unfold NQ at hf ⊢;simp only at hf ⊢;omega
structure MtJ (p:List Str) (R:Bool) (j:Nat):Prop where
  jp:j<=p.length
  res:((p.drop j).all λs=>decide (s=F9))=R
theorem MtI.done(h:MtI p q R f i k si tk)(hk:¬k<q.length):MtJ p R i:=by
  obtain⟨f',rfl⟩:∃g,f=g+1:=⟨f-1,by have:=h.fuel;omega⟩;have hr:=h.res;rw[AN,if_neg hk]at hr;exact⟨h.ip,hr⟩
theorem MtJ.next{j:Nat}(h:MtJ p R j)(hj:j<p.length)(e:p[j]=[42,42]):MtJ p R (j+1):=by
  refine⟨hj,?_⟩;have:=h.res;rw[List.drop_eq_getElem_cons hj,List.all_cons,e]at this;exact this
theorem MtJ.end{j:Nat}(h:MtJ p R j)(n:∀hj:j<p.length,¬p[j]=[42,42]):decide ((j:Int)=(p.length:Int))=R:=by
  have hr:=h.res;by_cases hj:j<p.length
  ·rw[List.drop_eq_getElem_cons hj, List.all_cons, show decide (p[j] = F9) = false from decide_eq_false (n hj), Bool.false_and]at hr
   rw[<-hr,decide_eq_false Ca]
  have e : j = p.length := by have := h.jp;omega
  subst e;rw[List.drop_length]at hr;rw[<-hr,decide_eq_true rfl];rfl
end
theorem L7(s:Str)(hl:s.length<=140737488355328)(w0:World)(hG:Gl w0):Calls prog 136 #[I s] w0 (Pd λv w'=>v=.bool (Lib.validD s)/\Same [] w0 w'):=by
 refine Ia func136 O ntmps136 Kb (Pc _) ?_;have hF:=FR.start w0 [];refine Ka (Da (Ob O) (Ec (Da (Ue O) ?_)));refine Zb (Lz s hl _ (hG.ext hF.same)) (Ua KC O O) ?_;rintro _ w ⟨n,rfl,hE⟩;have hF:=hF.ext hE;refine Da (Ct O) (Da (Hw O O) (Da (Jp O O) (Da (Gd O) (Da (Ob O) (Ec (Da (Yd O) (Da (Ob O) (Ea ?_))))))));refine Yc (v:=.bool _) O O ?_;exact⟨O,hF.same⟩
theorem QH(s:Str)(hl:s.length<=140737488355328)(w0:World)(hG:Gl w0):Calls prog 135 #[I s] w0 (Pd λv w'=>v=.bool (!(Lib.validD s))/\Same [] w0 w'):=by
 refine Ia func135 O ntmps135 Kb (Pc _) ?_;have hF:=FR.start w0 [];refine Ka (Da (Ob O) (Ec (Da (Ue O) ?_)));refine Ra hF (L7 s hl _ (hG.ext hF.same)) (Ua XM O O) ?_;intro w hF;refine Da (Bi O) (Da (Ob O) (Ea ?_));refine Yc (v:=.bool _) O O ?_;exact⟨O,hF.same⟩
theorem So{α:Type}{q:α->Bool}{xs:List α}{j:Nat}(h:j<xs.length)(hn:(xs.take j).any q=false)(hq:q xs[j]=false):(xs.take (j+1)).any q=false:=by
  rw[iQ h,List.any_append,hn];simpa using hq
def PI{α:Type}(q:α->Bool)(l:List α):Int:=if l.any q=true then (l.findIdx q:Int) else -1
theorem G0{α:Type}{q:α->Bool}{xs:List α}{j:Nat}(h:j<xs.length)(hn:(xs.take j).any q=false)(hq:q xs[j]=true):PI q xs=(j:Int):=by
  rw[PI,if_pos (List.any_eq_true.2 ⟨_,eQ h,hq⟩)]
  congr 1
  rw[List.findIdx_eq h];refine⟨hq,λi hi=>?_⟩;rw[List.any_eq_false]at hn;have:xs[i]∈xs.take j:=by rw[List.mem_take_iff_getElem];exact⟨i,by omega,rfl⟩
  simpa using hn _ this
theorem Ut{α:Type}{q:α->Bool}{xs:List α}{j:Nat}(h:¬j<xs.length)(hn:(xs.take j).any q=false):PI q xs = -1:=by
  rw[List.take_of_length_le Ca]at hn;rw[PI,if_neg (by rw[hn];decide)]
theorem Iz{α:Type}(q:α->Bool)(xs:List α):decide (0<=PI q xs)=xs.any q:=by
  rw[PI];by_cases h:xs.any q=true
  ·rw[if_pos h,h];exact decide_eq_true Ca
  rw[if_neg h,Bool.eq_false_iff.2 h];rfl
def H5(l:List Str):Bool:=decide (l.length<=64)&&l.all Lib.validD
structure RuleOk (x:Rl):Prop where
  key:x.key.length<=140737488355328
  pat:∀s∈x.pat,s.length<=140737488355328
theorem NE(l:List Str)(A:Option Addr)(c:Nat)(S:Nat->Prop)(hl:∀s∈l,s.length<=140737488355328)(w0:World)(hX:Rep S w0 (Xe l) [.slice A l.length c])(hG:Gl w0):Calls prog 177 #[.slice A l.length c,.func (.func 135) #[] #[]] w0 (Pd λv w'=>v=J (PI (λs=>!(Lib.validD s)) l)/\Same [] w0 w'):=by
 have hXl:=hX.slice_len;refine Ia func177 O ntmps177 Kb (Rd _ _) ?_;have hF:=FR.start w0 [];refine Ka (Da (Gd O) (Ea (Ha (Ka (Da (Od O) (Da (Bh iZ O) (Da (Bc O) (Ea (Wa ?_)))))))));refine Xc (λμ σ w=>∃(j:Nat),μ=l.length-j/\(j<=l.length)/\((l.take j).any (λs=>!(Lib.validD s))=false)/\AllEq σ [(0,.slice A l.length c),(1,.func (.func 135) #[] #[]),(7,J ((l.length:Nat))),(8,J ((j:Int)))]/\FR w0 [] [] w) _ ⟨0,O,(Nat.zero_le _),Pa,Lp,hF⟩ ?_;rintro μ σ w ⟨j,rfl,hj,hn,hs,hF⟩;refine Cg.slots hs ?_;clear hs;intro σ;refine Ka (Da (Um O O) (Ea (Ha ?_)));refine Uc O O (λhc0=>?_) (λhc0=>?_);refine Sa (Fa (Ha (Wa (Ka (Da (Bc O) (Da (Gd O) (Ec (Da (Jq) (Da (Od O) ?_)))))))));refine Da (Bc O) ?_;obtain⟨ad0,hA0,hk0,hx0⟩:=hX.str_elem (i:=j) Ca;refine Oa (v:=.pointer (some (ad0.add (j*1)))) (Ta (i:=(j:Int)) P9 O hA0 O Ca Ca) (Oa (v:=I (l[j])) (Zc zQ O (hF.cell0 hk0)) ?_);refine Ra hF (QH l[j] (hl _ (eQ _)) _ (hG.ext hF.same)) (Sg O AM O O) ?_;intro w hF;refine Ea (Ke O O (λhc1=>?_) (λhc1=>?_));refine Ka (Da (Bc O) (Da (Gd O) (Ea ?_)));refine Yc (v:=J ((j:Int))) O O ?_;exact⟨congrArg _ (G0 Ca hn hc1).symm,hF.same⟩;refine Sa (Qb (Fa (Ja (Da (Zl O O) (Da (Bc O) (Db ?_))))));refine Dc ⟨_,?_,j+1,O,Ca,(So Ca hn hc1),Lp,hF⟩;omega;refine Nc (Fc O ?_);refine Fa (Ka (Da (Gd O) (Ea ?_)));refine Yc (v:=J ((-1))) O O ?_;exact⟨congrArg _ (Ut Ca hn).symm,hF.same⟩
theorem S4(l:List Str)(A:Option Addr)(c:Nat)(S:Nat->Prop)(hl:∀s∈l,s.length<=140737488355328)(w0:World)(hX:Rep S w0 (Xe l) [.slice A l.length c])(hG:Gl w0):Calls prog 134 #[.slice A l.length c,.func (.func 135) #[] #[]] w0 (Pd λv w'=>v=.bool (l.any (λs=>!(Lib.validD s)))/\Same [] w0 w'):=by
 refine Ia func134 O ntmps134 Kb (Rd _ _) ?_;have hF:=FR.start w0 [];refine Ka (Da (Ob O) (Ec (Da (Od O) (Da (Jq) ?_))));refine Ra hF (NE l A c _ hl _ (hF.rep hX) (hG.ext hF.same)) (Gb IM O O O) ?_;intro w hF;refine Da (L9 O O) (Da (Ob O) (Ea ?_));refine Yc (v:=.bool _) O O ?_;exact⟨congrArg Value.bool (Iz _ _),hF.same⟩
theorem U5(l:List Str)(A:Option Addr)(c:Nat)(S:Nat->Prop)(hl:∀s∈l,s.length<=140737488355328)(w0:World)(hX:Rep S w0 (Xe l) [.slice A l.length c])(hG:Gl w0):Calls prog 92 #[.slice A l.length c] w0 (Pd λv w'=>v=.bool (H5 l)/\Same [] w0 w'):=by
 have hXl:=hX.slice_len;refine Ia func92 O ntmps92 Kb (Pc _) ?_;have hF:=FR.start w0 [];refine Ka (Da (Ob O) (Ec (Da (Od O) (Da (Bh iZ O) (Da (OK O O) (Da (Yd O) ?_))))));refine Id (d:=6) O (λhg0=>?_) (λhg0=>?_);refine Da (Od O) (Ra hF (S4 l A c _ hl _ (hF.rep hX) (hG.ext hF.same)) (Gb GM O O O) ?_);intro w hF;refine Da (Bi O) (Da (Sc O O) (Da (Ob O) (Ea ?_)));refine Yc (v:=.bool _) O O ⟨congrArg Value.bool ?_,hF.same⟩
 ·first|(rw[H5,decide_eq_true Ca,Bool.true_and,List.not_any_eq_all_not];simp;done)|(rw[H5,decide_eq_false Ca,Bool.false_and];done)
 refine Ma (Ma (Ma (Da (Ed O O) (Da (Ob O) (Ea ?_)))));refine Yc (v:=.bool false) O O ⟨congrArg Value.bool ?_,hF.same⟩
 ·first|(rw[H5,decide_eq_true Ca,Bool.true_and,List.not_any_eq_all_not];simp;done)|(rw[H5,decide_eq_false Ca,Bool.false_and];done)
theorem C4(x:Rl)(hx:RuleOk x)(A:Option Addr)(c:Nat)(S:Nat->Prop)(w0:World)(hX:Rep S w0 (Xe x.pat) [.slice A x.pat.length c])(hG:Gl w0):Calls prog 63 #[.agg #[.slice A x.pat.length c,I x.key]] w0 (Pd λv w'=>v=.bool (Tx x)/\Same [] w0 w'):=by
 refine Ia func63 O ntmps63 Kb (Pc _) ?_;have hF:=FR.start w0 [];refine Ka (Bg hF O ?_);rintro b1 w hb1 hF -;refine Da (Ob O) (Ec (Da (Ud QG O) (Xd (Is zQ O hF.F 0 O O) ?_)));refine Zb (Lz x.key hx.key _ (hG.ext hF.same)) (Ua KC O O) ?_;rintro _ w ⟨n,rfl,hE⟩;have hF:=hF.ext hE;refine Da (Ct O) (Da (Hw O O) (Da (Jp O O) (Da (Gd O) (Da (Ob O) (Ec (Da (Yd O) (Da (Yd O) ?_)))))));refine Cd (d:=12) O (λhg0=>?_) (λhg0=>?_);refine Da (Ud NG O) (Xd (Bm isAgg24 O hF.F 0 O O) ?_);refine Ra hF (U5 x.pat A c _ hx.pat _ (hF.rep hX) (hG.ext hF.same)) (Ua ZN O O) ?_;intro w hF;refine Da (Sc O O) (Da (Ob O) (Ea ?_));refine Yc (v:=.bool _) O O ⟨congrArg Value.bool ?_,hF.same⟩;show _=(Lib.validD x.key&&H5 x.pat);simp_all;refine Ma (Ma (Ma (Da (Ed O O) (Da (Ob O) (Ea ?_)))));refine Yc (v:=.bool false) O O ⟨congrArg Value.bool ?_,hF.same⟩;show _=(Lib.validD x.key&&H5 x.pat);simp_all
theorem JE(x:Rl)(hx:RuleOk x)(A:Option Addr)(c:Nat)(S:Nat->Prop)(w0:World)(hX:Rep S w0 (Xe x.pat) [.slice A x.pat.length c])(hG:Gl w0):Calls prog 62 #[.agg #[.slice A x.pat.length c,I x.key]] w0 (Pd λv w'=>v=.bool (!(Tx x))/\Same [] w0 w'):=by
 refine Ia func62 O ntmps62 Kb (Pc _) ?_;have hF:=FR.start w0 [];refine Ka (Bg hF O ?_);rintro b1 w hb1 hF -;refine Da (Ob O) (Ec (Xd (Lj isAgg93 sizeOf93 O hF.F 0 O O) ?_));refine Ra hF (C4 x hx A c _ _ (hF.rep hX) (hG.ext hF.same)) (Ua WO O O) ?_;intro w hF;refine Da (Bi O) (Da (Ob O) (Ea ?_));refine Yc (v:=.bool _) O O ?_;exact⟨O,hF.same⟩
theorem WE(l:List Rl)(A:Option Addr)(c:Nat)(S:Nat->Prop)(hl:∀x∈l,RuleOk x)(w0:World)(hX:Rep S w0 (Er l) [.slice A l.length c])(hG:Gl w0):Calls prog 90 #[.slice A l.length c,.func (.func 62) #[] #[]] w0 (Pd λv w'=>v=J (PI (λx=>!(Tx x)) l)/\Same [] w0 w'):=by
 have hXl:=hX.slice_len;simp only[rQ]at hXl;refine Ia func90 O ntmps90 Kb (Rd _ _) ?_;have hF:=FR.start w0 [];refine Ka (Da (Gd O) (Ea (Ha (Ka (Da (Od O) (Da (Bh underlying65 O) (Da (Bc O) (Ea (Wa ?_)))))))));refine Xc (λμ σ w=>∃(j:Nat),μ=l.length-j/\(j<=l.length)/\((l.take j).any (λx=>!(Tx x))=false)/\AllEq σ [(0,.slice A l.length c),(1,.func (.func 62) #[] #[]),(7,J ((l.length:Nat))),(8,J ((j:Int)))]/\FR w0 [] [] w) _ ⟨0,O,(Nat.zero_le _),Pa,Lp,hF⟩ ?_;rintro μ σ w ⟨j,rfl,hj,hn,hs,hF⟩;refine Cg.slots hs ?_;clear hs;intro σ;refine Ka (Da (Um O O) (Ea (Ha ?_)));refine Uc O O (λhc0=>?_) (λhc0=>?_);refine Sa (Fa (Ha (Wa (Ka (Da (Bc O) (Da (Gd O) (Ec (Da (Jq) (Da (Od O) ?_)))))))));refine Da (Bc O) ?_;obtain⟨ad0,B0,e0,hA0,hk0,hx0⟩:=hX.rule_elem (i:=j) Ca;refine Oa (v:=.pointer (some (ad0.add (j*2)))) (Ta (i:=(j:Int)) CQ O hA0 O Ca Ca) (Oa (Fb (l:=[.slice (B0) ((l[j]).pat.length) (e0),I ((l[j]).key)]) isAgg93 sizeOf93 O O (hF.cells0 hk0)) ?_);refine Ra hF (JE l[j] (hl _ (eQ _)) B0 e0 _ _ (hF.rep hx0) (hG.ext hF.same)) (Sg O IN O O) ?_;intro w hF;refine Ea (Ke O O (λhc1=>?_) (λhc1=>?_));refine Ka (Da (Bc O) (Da (Gd O) (Ea ?_)));refine Yc (v:=J ((j:Int))) O O ?_;exact⟨congrArg _ (G0 Ca hn hc1).symm,hF.same⟩;refine Sa (Qb (Fa (Ja (Da (Zl O O) (Da (Bc O) (Db ?_))))));refine Dc ⟨_,?_,j+1,O,Ca,(So Ca hn hc1),Lp,hF⟩;omega;refine Nc (Fc O ?_);refine Fa (Ka (Da (Gd O) (Ea ?_)));refine Yc (v:=J ((-1))) O O ?_;exact⟨congrArg _ (Ut Ca hn).symm,hF.same⟩
theorem H4(l:List Rl)(A:Option Addr)(c:Nat)(S:Nat->Prop)(hl:∀x∈l,RuleOk x)(w0:World)(hX:Rep S w0 (Er l) [.slice A l.length c])(hG:Gl w0):Calls prog 61 #[.slice A l.length c,.func (.func 62) #[] #[]] w0 (Pd λv w'=>v=.bool (l.any (λx=>!(Tx x)))/\Same [] w0 w'):=by
 refine Ia func61 O ntmps61 Kb (Rd _ _) ?_;have hF:=FR.start w0 [];refine Ka (Da (Ob O) (Ec (Da (Od O) (Da (Jq) ?_))));refine Ra hF (WE l A c _ hl _ (hF.rep hX) (hG.ext hF.same)) (Gb IP O O O) ?_;intro w hF;refine Da (L9 O O) (Da (Ob O) (Ea ?_));refine Yc (v:=.bool _) O O ?_;exact⟨congrArg Value.bool (Iz _ _),hF.same⟩
theorem Tp(l:List Rl)(A:Option Addr)(c:Nat)(S:Nat->Prop)(hl:∀x∈l,RuleOk x)(w0:World)(hX:Rep S w0 (Er l) [.slice A l.length c])(hG:Gl w0):Calls prog 43 #[.slice A l.length c] w0 (Pd λv w'=>v=.bool (Cr l)/\Same [] w0 w'):=by
 have hXl:=hX.slice_len;refine Ia func43 O ntmps43 Kb (Pc _) ?_;have hF:=FR.start w0 [];refine Ka (Da (Ob O) (Ec (Da (Od O) (Da (Bh underlying65 O) (Da (OK O O) (Da (Yd O) ?_))))));refine Id (d:=6) O (λhg0=>?_) (λhg0=>?_);refine Da (Od O) (Ra hF (H4 l A c _ hl _ (hF.rep hX) (hG.ext hF.same)) (Gb WN O O O) ?_);intro w hF;refine Da (Bi O) (Da (Sc O O) (Da (Ob O) (Ea ?_)));refine Yc (v:=.bool _) O O ⟨congrArg Value.bool ?_,hF.same⟩
 ·first|(rw[Cr,decide_eq_true Ca,Bool.true_and,List.not_any_eq_all_not];simp;done)|(rw[Cr,decide_eq_false Ca,Bool.false_and];done)
 refine Ma (Ma (Ma (Da (Ed O O) (Da (Ob O) (Ea ?_)))));refine Yc (v:=.bool false) O O ⟨congrArg Value.bool ?_,hF.same⟩
 ·first|(rw[Cr,decide_eq_true Ca,Bool.true_and,List.not_any_eq_all_not];simp;done)|(rw[Cr,decide_eq_false Ca,Bool.false_and];done)
end Go.Scarf
