/- A part of the proof. -/
import Derived.Test.YtbhneplafiapdaaGreatDoorHs3
set_option linter.all false
set_option maxHeartbeats 8000000
set_option maxRecDepth 10000
namespace Go.Scarf
open Go.RowKit Go.Proofs Go.Proofs.Tryz
theorem Yr(x:Tv)(w0:World):Calls prog 60 #[.agg (x.cells).toArray] w0 (Vd λv w'=>v=.agg #[.bool true,J (x.k),I (x.t),.slice x.A x.n x.c,.slice x.B x.m x.e]/\Same [] w0 w'):=by
 refine Ka func60 O ntmps60 Mb (Jc _) ?_;have hF:=FR.start w0 [];refine Ia (Xf hF O ?_);rintro b1 w hb1 hF -;refine Ve (cs:=#[.bool false,J 0,I [],aQ,aQ]) hF zZ O ?_;rintro b2 w hb2 hF -;refine Ec (Ed (Ej xQ fZ O hF.F 1 O O) ?_);refine Ja (w':=w) (v:=.agg #[.bool true,J (x.k),I (x.t),.slice x.A x.n x.c,.slice x.B x.m x.e]) Nc (Hh hF kZ O O Cj ?_);rintro w hF -;refine Fa (Gb (Fb (Pa (Kp O (l:=[.bool true,J (x.k),I (x.t),.slice x.A x.n x.c,.slice x.B x.m x.e]) O cZ kZ O (hF.cellsAll 0 O)) ?_)));exact⟨O,hF.same⟩
structure SdOk (s:Sd):Prop where
  sz:Ub s.val<=1000000000
  ok:H2 s.val
theorem EU:SdOk noS:=⟨by simp[noS,Sf,Ub,Ob],by simp[noS,Sf,H2,T8]⟩
def S4(a b:Sd):Bool:=(a.has==b.has)&&(!a.has || C2 a.val b.val)
theorem Wy(a b:Sd)(x y:Sv)(S S':Nat->Prop)(w0:World)(hX:Rep S w0 (Ye a) x.cells)(hY:Rep S' w0 (Ye b) y.cells)(ha:SdOk a)(hb:SdOk b)(hG:Gl w0):Calls prog 83 #[.agg (x.cells).toArray,.agg (y.cells).toArray] w0 (Vd λv w'=>v=.bool (S4 a b)/\Same [] w0 w'):=by
 have hx:=Sy hX;have hy:=Sy hY;refine Ka func83 O ntmps83 Mb (Ae _ _) ?_;have hF:=FR.start w0 [];refine Ia (Xf hF O ?_);rintro b1 w hb1 hF -;refine Xf hF O ?_;rintro b2 w hb2 hF -;refine Ca (Eb O) (Ec (Ca (Cd Gy O) (Ed (XL zQ O hF.F 1 O O) (Ca (Cd Gy O) (Ed (XL zQ O hF.F 0 O O) (Ja (v:=.bool ((x.h)==(y.h))) (TI underlying4 O O) (Ca (Xb O) ?_)))))));refine Uc (d:=10) O (λhg0=>?_) (λhg0=>?_);refine Ca (Cd Gy O) (Ed (XL zQ O hF.F 1 O O) (Ca (Bi O) (Ca (Xb O) ?_)));refine Uc (d:=14) O (λhg1=>?_) (λhg1=>?_);refine Da (Da (Da (Da (Da (Ca (Rb O O) (Ca (Rb O O) (Ca (Eb O) (Fa ?_))))))));refine Tc (v:=.bool true) O O ⟨?_,hF.same⟩;rw[S4,<-hx.1,<-hy.1]
 first|(cases h1:x.h <;> cases h2:y.h <;> simp_all)|(simp_all)
 refine Ca (Cd Qt O) (Ja (v:=.agg (x.v.cells).toArray) (Hb (l:=x.v.cells) xQ fZ O O (hF.part 1 1 O O)) (Ca (Cd Qt O) (Ja (v:=.agg (y.v.cells).toArray) (Hb (l:=y.v.cells) xQ fZ O O (hF.part 0 1 O O)) ?_)));refine Ta hF (SQ a.val b.val ha.sz hb.sz _ _ _ x.v.cells y.v.cells (hF.rep hx.2.2.2.2) (hF.rep hy.2.2.2.2) ha.ok hb.ok (hG.ext hF.same)) (Qb BY O O O) ?_;intro w hF;refine Ca (Jb O O) (Ca (Rb O O) (Ca (Eb O) (Fa ?_)));refine Tc (v:=.bool _) O O ⟨?_,hF.same⟩;rw[S4,<-hx.1,<-hy.1]
 first|(cases h1:x.h <;> cases h2:y.h <;> simp_all)|(simp_all)
 refine Da (Da (Da (Da (Da (Da (Da (Da (Da (Da (Ca (Jb O O) (Ca (Eb O) (Fa ?_))))))))))));refine Tc (v:=.bool false) O O ⟨?_,hF.same⟩;rw[S4,<-hx.1,<-hy.1]
 first|(cases h1:x.h <;> cases h2:y.h <;> simp_all)|(simp_all)
theorem Yz(s:Sd)(x:Sv)(S:Nat->Prop)(w0:World)(hX:Rep S w0 (Ye s) x.cells)(hs:SdOk s)(hG:Gl w0):Calls prog 84 #[.agg x.cells.toArray] w0 (Vd λv w'=>∃y:Sv,v=.agg y.cells.toArray/\Rep (Btw w0 w') w' (Ye (J2 s)) y.cells/\Same [] w0 w'):=by
 have hx:=Sy hX;refine Ka func84 O ntmps84 Mb (Jc _) ?_;have hF:=FR.start w0 [];refine Ia (Xf hF O ?_);rintro b1 w hb1 hF -;refine Ve (cs:=#[.bool false,J 0,I [],aQ,aQ]) hF zZ O ?_;rintro b2 w hb2 hF -;refine Fa (Ha (Ia (Ca (Cd Gy O) (Ed (XL zQ O hF.F 1 O O) (Ca (Bi O) (Fa ?_))))));refine Je O O (λhc0=>?_) (λhc0=>?_);have h0:s.has=false:=by rw[<-hx.1];simpa using hc0
 refine Ia (Ja (w':=w) (v:=.agg #[.bool false,J 0,I [],aQ,aQ]) Nc ?_);refine Hh hF kZ O O Cj ?_;rintro w hF -;refine Fa (Gb (Fb (Pa (Kp O (l:=[.bool false,J 0,I [],aQ,aQ]) O cZ kZ O (hF.cellsAll 0 O)) ?_)));have e:J2 s=noS:=by rw[J2,if_neg (by rw[h0];decide)]
 rw[e];exact⟨⟨false,zTv⟩,O,GQ,hF.same⟩;have h0:s.has=true:=by rw[<-hx.1];simpa using hc0
 refine Ma (Ga (Ia (Ca (Cd Qt O) (Ja (v:=.agg (x.v.cells).toArray) (Hb (l:=x.v.cells) xQ fZ O O (hF.part 1 1 O O)) ?_))));refine Kc (Ey s.val hs.sz _ _ x.v.cells (hF.rep hx.2.2.2.2) hs.ok (hG.ext hF.same)) (Va IF O O) ?_;rintro _ w ⟨ct,rfl,hRt,hE⟩;obtain⟨q,rfl,-⟩:=Cl hRt;have hYX:=RX.made (ids:=[b2,b1]) hF.same.size (λx hx=>hF.lt_ids (by grind)) hRt;have hF:=hF.ext hE;clear hE hRt;refine Kc (Yr q _) (Va Sr O O) ?_;rintro _ w ⟨rfl,hE⟩;have hF:=hF.ext hE;have hYX:=hYX.ext hE;refine Hh hF kZ O O Cj ?_;intro w hF hE;have hYX:=hYX.store hE (by grind);refine Fa (Gb (Fb (Pa (Kp O (l:=[.bool true,J (q.k),I (q.t),.slice q.A q.n q.c,.slice q.B q.m q.e]) O cZ kZ O (hF.cellsAll 0 O)) ?_)));have e:J2 s=⟨true,Fx s.val⟩:=by rw[J2,if_pos h0]
 rw[e]
 ·exact⟨⟨true,q⟩,O,Vk (s:=⟨true,Fx s.val⟩) hYX.done,hF.same⟩
theorem NH{S:Nat->Prop}{w:World}{b l r:Sd}{x y z:Sv}(h:Rep S w (Xy b l r) (th x y z)):Rep S w (Ye b) x.cells/\Rep S w (Ye l) y.cells/\Rep S w (Ye r) z.cells:=by
  unfold Xy at h;rw[Rep]at h;obtain⟨c1,d1,e1,h1,h⟩:=RepL.cons_inv h;obtain⟨c2,d2,rfl,h2,h⟩:=RepL.cons_inv h;obtain⟨c3,d3,rfl,h3,h⟩:=RepL.cons_inv h;obtain rfl:=RepL.nil_inv h;have l1:=h1.length.trans (Ws b);have l2:=h2.length.trans (Ws l);have l3:=h3.length.trans (Ws r)
  match c1,l1,c2,l2,c3,l3 with
  | [a0, a1, a2, a3, a4], _, [b0, b1, b2, b3, b4], _, [u0, u1, u2, u3, u4], _ =>
    simp only[th,List.cons_append,List.nil_append,qQ,List.cons.injEq,and_true]at e1;obtain⟨rfl,rfl,rfl,rfl,rfl,rfl,rfl,rfl,rfl,rfl,rfl,rfl,rfl,rfl,rfl⟩:=e1;exact⟨h1,h2,h3⟩
theorem Wp{S:Nat->Prop}{w:World}{b l r:Sd}{x y z:Sv}(h1:Rep S w (Ye b) x.cells)(h2:Rep S w (Ye l) y.cells)(h3:Rep S w (Ye r) z.cells):Rep S w (Xy b l r) (th x y z):=by
  unfold Xy;rw[Rep];exact RepL.cons_mk h1 (RepL.cons_mk h2 (RepL.cons_mk h3 RepL.nil_mk))
theorem RX.grow{u w w':World}{i:List Nat}{sl sl':List (Nat × Obj)}{ds:List D}{cs:List Value}(h:RX u i w ds cs)(hE:Same (sl.map (·.1)) w w')(hn:∀p∈sl',p.1∈sl.map (·.1)\/w.heap.size<=p.1)(hi:∀x∈sl.map (·.1),x∈i):RX u (i++ids sl') w' ds cs :=
  h.step hE hi λx hx=>by
    rcases mQ.1 hx with h1|h1
    ·exact .inl h1
    obtain⟨p, hp, rfl⟩ := nQ.1 h1;rcases hn p hp with h2|h2
    ·exact .inl (hi _ h2)
    exact .inr h2
theorem FR.repE{w0 w:World}{D:List Nat}{bs_:List (Nat × Obj)}{S:Nat->Prop}{d:Go.Scarf.D}{cs:List Value}(hF:FR w0 D bs_ w)(hS:∀b,S b->b<w0.heap.size/\b∉D)(h:Rep S w0 d cs):Rep S w d cs:=h.same hF.same λb hb hs=>(hS b hs).2 hb
theorem FR.ltD{w0 w:World}{E i L:List Nat}{bs_:List (Nat × Obj)}(hF:FR w0 E bs_ w)(hib:∀x∈i,7<=x/\x<w0.heap.size)(hL:∀x∈L,x∈bs_.map (·.1)):∀x∈L++i,x<w.heap.size:=λx hx=>by
  rcases mQ.1 hx with h|h
  ·exact hF.lt_ids (hL x h)
  exact Nat.lt_of_lt_of_le (hib x h).2 hF.same.size
structure Mi (i:List Nat) (w:World) (sm:List (Nat × Obj)) (pb:Nat) (RV:Value) (cfs:List Cf):Prop where
  m:Mx i w sm pb RV cfs
  hh:∀q∈sm,w.heap[q.1]? = some q.2
  sub:∀x∈ids sm,x∈i
  low:∀x∈i,7<=x/\x<w.heap.size
theorem Mi.start{i:List Nat}{w:World}{sm:List (Nat × Obj)}{pb:Nat}{RV:Value}{cfs:List Cf}(h:Mi i w sm pb RV cfs):FR w (ids sm) ([]++(sm++[])) w:=h.m.start h.hh
structure Mo' (i:List Nat) (w:World) (sm:List (Nat × Obj)) (w':World) (sm':List (Nat × Obj)) (pb:Nat) (RV:Value) (cfs:List Cf):Prop where
  m:Mx (i++ids sm') w' sm' pb RV cfs
  hh:∀q∈sm',w'.heap[q.1]? = some q.2
  mc:Mc w sm w' sm'
def SJ(si:Int):Option Nat:=if si<0 then none else some si.toNat
structure MtI (p q:List Str) (R:Bool) (f i k:Nat) (si:Int) (tk:Nat):Prop where
  res:LW p q f ⟨i,k,SJ si,tk⟩=R
  fuel:FZ p q ⟨i,k,SJ si,tk⟩<f
  ip:i<=p.length
  kq:k<=q.length
  tk:tk<=k
  lo:-1<=si
  hi:si<i
theorem KJ{a b X:Nat}(h:a+1<=b):a*X+X<=b*X:=by
  have:=Nat.mul_le_mul_right X h;rw[Nat.add_mul,Nat.one_mul]at this;exact this
section
variable {p q:List Str}{R:Bool}{f i k tk:Nat}{si:Int}
theorem MtI.start(h1:p.length<=200)(h2:q.length<=200):MtI p q (YA p q) 10000000 0 0 (-1) 0:=by
  refine⟨?_,?_,Nat.zero_le _,Nat.zero_le _,gQ _,by omega,by omega⟩
  ·unfold YA
   rw[decide_eq_true h1,decide_eq_true h2,Bool.true_and,Bool.true_and];rfl
  have e : SJ (-1) = none := rfl;rw[e,FZ];simp only[if_true,Nat.sub_zero];have a1:(p.length+1)*((q.length+1)*(q.length+1))<=201*(201*201):=Nat.mul_le_mul U (Nat.mul_le_mul U U);have a2:q.length*(q.length+1)<=200*201:=Nat.mul_le_mul U U;omega
theorem MtI.step(h:MtI p q R f i k si tk)(hk:k<q.length):∃f',f=f'+1/\(match MW p q ⟨i,k,SJ si,tk⟩with|some m'=>LW p q f' m'|none=>false)=R:=by
  obtain⟨f',rfl⟩:∃g,f=g+1:=⟨f-1,by have:=h.fuel;omega⟩;have hr:=h.res;rw[LW,if_pos hk]at hr;exact⟨f',O,hr⟩
theorem MtI.star(h:MtI p q R f i k si tk)(hk:k<q.length)(hi:i<p.length)(e:p[i]=[42,42]):MtI p q R (f-1) (i+1) k (i:Int) k:=by
  obtain⟨f',rfl,hr⟩:=h.step hk;have eN:MW p q ⟨i,k,SJ si,tk⟩=some ⟨i+1,k,some i,k⟩:=by rw[MW,if_pos];rw[List.getElem?_eq_getElem hi,e];rfl
  have es:SJ (i:Int)=some i:=by unfold SJ;rw[if_neg U];rfl
  rw[eN]at hr;refine⟨by rw[es];exact hr,?_,by omega,h.kq,gQ _,by omega,by omega⟩;have hf:=h.fuel;rw[es];have X:(q.length-k)*(q.length+1)+(q.length-k)<(q.length+1)*(q.length+1):=by
    have:=Nat.mul_le_mul_right (q.length+1) (Nat.sub_le q.length k);rw[Nat.add_mul q.length 1,Nat.one_mul];omega
  have h1:=h.hi;by_cases hs:si<0
  ·rw[show SJ si = none from if_pos hs]at hf
   unfold FZ at hf ⊢;simp only[reduceCtorEq,if_false,if_true,Nat.add_zero,Nat.sub_zero]at hf ⊢;have Z:=KJ (X:=(q.length+1)*(q.length+1)) (a:=p.length-i) (b:=p.length+1) U;omega
  rw[show SJ si = some si.toNat from if_neg hs]at hf;unfold FZ at hf ⊢;simp only[reduceCtorEq,if_false,Nat.add_zero]at hf ⊢;have Z:=KJ (X:=(q.length+1)*(q.length+1)) (a:=p.length-i) (b:=p.length-si.toNat) U;omega
theorem MtI.one(h:MtI p q R f i k si tk)(hk:k<q.length)(hi:i<p.length)(n:¬p[i]=[42,42])(e:p[i]=[42]\/p[i]=q[k]):MtI p q R (f-1) (i+1) (k+1) si tk:=by
  obtain⟨f',rfl,hr⟩:=h.step hk;have eN:MW p q ⟨i,k,SJ si,tk⟩=some ⟨i+1,k+1,SJ si,tk⟩:=by
    rw[MW,if_neg,if_pos]
    ·simp only[List.getElem?_eq_getElem hi, List.getElem?_eq_getElem hk]
     rcases e with e|e
     ·exact .inl (by rw[e];rfl)
     exact .inr ⟨by simp,by rw[e]⟩
    simp only[List.getElem?_eq_getElem hi];exact λhh=>n (lQ hh)
  rw[eN]at hr;refine⟨hr,?_,by omega,by omega,by have:=h.tk;omega,h.lo,by have:=h.hi;omega⟩;have hf:=h.fuel;unfold FZ at hf ⊢;simp only at hf ⊢;omega
structure MtJ (p:List Str) (R:Bool) (j:Nat):Prop where
  jp:j<=p.length
  res:((p.drop j).all λs=>decide (s=LD))=R
theorem MtI.done(h:MtI p q R f i k si tk)(hk:¬k<q.length):MtJ p R i:=by
  obtain⟨f',rfl⟩:∃g,f=g+1:=⟨f-1,by have:=h.fuel;omega⟩;have hr:=h.res;rw[LW,if_neg hk]at hr;exact⟨h.ip,hr⟩
theorem MtJ.next{j:Nat}(h:MtJ p R j)(hj:j<p.length)(e:p[j]=[42,42]):MtJ p R (j+1):=by
  refine⟨hj,?_⟩;have:=h.res;rw[List.drop_eq_getElem_cons hj,List.all_cons,e]at this;exact this
theorem MtJ.end{j:Nat}(h:MtJ p R j)(n:∀hj:j<p.length,¬p[j]=[42,42]):decide ((j:Int)=(p.length:Int))=R:=by
  have hr:=h.res;by_cases hj:j<p.length
  ·rw[List.drop_eq_getElem_cons hj, List.all_cons, show decide (p[j] = LD) = false from decide_eq_false (n hj), Bool.false_and]at hr
   rw[<-hr,decide_eq_false U]
  have e : j = p.length := by have := h.jp;omega
  subst e;rw[List.drop_length]at hr;rw[<-hr,decide_eq_true rfl];rfl
end
theorem FB(s:Str)(hl:s.length<=140737488355328)(w0:World)(hG:Gl w0):Calls prog 136 #[I s] w0 (Vd λv w'=>v=.bool (Lib.validD s)/\Same [] w0 w'):=by
 refine Ka func136 O ntmps136 Mb (Jc _) ?_;have hF:=FR.start w0 [];refine Ia (Ca (Eb O) (Ec (Ca (Ic O) ?_)));refine Kc (Y5 s hl _ (hG.ext hF.same)) (Va UL O O) ?_;rintro _ w ⟨n,rfl,hE⟩;have hF:=hF.ext hE;refine Ca (Tq O) (Ca (Hr O O) (Ca (Qp O O) (Ca (Bc O) (Ca (Eb O) (Ec (Ca (Xb O) (Ca (Eb O) (Fa ?_))))))));refine Tc (v:=.bool _) O O ?_;exact⟨O,hF.same⟩
theorem EO(s:Str)(hl:s.length<=140737488355328)(w0:World)(hG:Gl w0):Calls prog 135 #[I s] w0 (Vd λv w'=>v=.bool (!(Lib.validD s))/\Same [] w0 w'):=by
 refine Ka func135 O ntmps135 Mb (Jc _) ?_;have hF:=FR.start w0 [];refine Ia (Ca (Eb O) (Ec (Ca (Ic O) ?_)));refine Ta hF (FB s hl _ (hG.ext hF.same)) (Va PT O O) ?_;intro w hF;refine Ca (Bi O) (Ca (Eb O) (Fa ?_));refine Tc (v:=.bool _) O O ?_;exact⟨O,hF.same⟩
theorem Ss{α:Type}{q:α->Bool}{xs:List α}{j:Nat}(h:j<xs.length)(hn:(xs.take j).any q=false)(hq:q xs[j]=false):(xs.take (j+1)).any q=false:=by
  rw[iQ h,List.any_append,hn];simpa using hq
def ZN{α:Type}(q:α->Bool)(l:List α):Int:=if l.any q=true then (l.findIdx q:Int) else -1
theorem E5{α:Type}{q:α->Bool}{xs:List α}{j:Nat}(h:j<xs.length)(hn:(xs.take j).any q=false)(hq:q xs[j]=true):ZN q xs=(j:Int):=by
  rw[ZN,if_pos (List.any_eq_true.2 ⟨_,eQ h,hq⟩)]
  congr 1
  rw[List.findIdx_eq h];refine⟨hq,λi hi=>?_⟩;rw[List.any_eq_false]at hn;have:xs[i]∈xs.take j:=by rw[List.mem_take_iff_getElem];exact⟨i,by omega,rfl⟩
  simpa using hn _ this
theorem F2{α:Type}{q:α->Bool}{xs:List α}{j:Nat}(h:¬j<xs.length)(hn:(xs.take j).any q=false):ZN q xs = -1:=by
  rw[List.take_of_length_le U]at hn;rw[ZN,if_neg (by rw[hn];decide)]
theorem I5{α:Type}(q:α->Bool)(xs:List α):decide (0<=ZN q xs)=xs.any q:=by
  rw[ZN];by_cases h:xs.any q=true
  ·rw[if_pos h,h];exact decide_eq_true U
  rw[if_neg h,Bool.eq_false_iff.2 h];rfl
def LA(l:List Str):Bool:=decide (l.length<=64)&&l.all Lib.validD
structure RuleOk (x:Rl):Prop where
  key:x.key.length<=140737488355328
  pat:∀s∈x.pat,s.length<=140737488355328
theorem CJ(l:List Str)(A:Option Addr)(c:Nat)(S:Nat->Prop)(hl:∀s∈l,s.length<=140737488355328)(w0:World)(hX:Rep S w0 (Ug l) [.slice A l.length c])(hG:Gl w0):Calls prog 177 #[.slice A l.length c,.func (.func 135) #[] #[]] w0 (Vd λv w'=>v=J (ZN (λs=>!(Lib.validD s)) l)/\Same [] w0 w'):=by
 have hXl:=hX.slice_len;refine Ka func177 O ntmps177 Mb (Ae _ _) ?_;have hF:=FR.start w0 [];refine Ia (Ca (Bc O) (Fa (Ha (Ia (Ca (Kd O) (Ca (Rf pZ O) (Ca (Db O) (Fa (Sa ?_)))))))));refine Gc (λμ σ w=>∃(j:Nat),μ=l.length-j/\(j<=l.length)/\((l.take j).any (λs=>!(Lib.validD s))=false)/\AllEq σ [(0,.slice A l.length c),(1,.func (.func 135) #[] #[]),(7,J ((l.length:Nat))),(8,J ((j:Int)))]/\FR w0 [] [] w) _ ⟨0,O,(Nat.zero_le _),Ua,Fj,hF⟩ ?_;rintro μ σ w ⟨j,rfl,hj,hn,hs,hF⟩;refine Cg.slots hs ?_;clear hs;intro σ;refine Ia (Ca (Tg O O) (Fa (Ha ?_)));refine Wb O O (λhc0=>?_) (λhc0=>?_);refine Ma (Ga (Ha (Sa (Ia (Ca (Db O) (Ca (Bc O) (Ec (Ca (Ru) (Ca (Kd O) ?_)))))))));refine Ca (Db O) ?_;obtain⟨ad0,hA0,hk0,hx0⟩:=hX.str_elem (i:=j) U;refine Ja (v:=.pointer (some (ad0.add (j*1)))) (Qa (i:=(j:Int)) Tr O hA0 O U U) (Ja (v:=I (l[j])) (Oc dZ O (hF.cell0 hk0)) ?_);refine Ta hF (EO l[j] (hl _ (eQ _)) _ (hG.ext hF.same)) (Ui O KV O O) ?_;intro w hF;refine Fa (Je O O (λhc1=>?_) (λhc1=>?_));refine Ia (Ca (Db O) (Ca (Bc O) (Fa ?_)));refine Tc (v:=J ((j:Int))) O O ?_;exact⟨congrArg _ (E5 U hn hc1).symm,hF.same⟩;refine Ma (Ib (Ga (Ea (Ca (Lk O O) (Ca (Db O) (Ra ?_))))));refine Za ⟨_,?_,j+1,O,U,(Ss U hn hc1),Fj,hF⟩;omega;refine Zb (Vb O ?_);refine Ga (Ia (Ca (Bc O) (Fa ?_)));refine Tc (v:=J ((-1))) O O ?_;exact⟨congrArg _ (F2 U hn).symm,hF.same⟩
theorem B7(l:List Str)(A:Option Addr)(c:Nat)(S:Nat->Prop)(hl:∀s∈l,s.length<=140737488355328)(w0:World)(hX:Rep S w0 (Ug l) [.slice A l.length c])(hG:Gl w0):Calls prog 134 #[.slice A l.length c,.func (.func 135) #[] #[]] w0 (Vd λv w'=>v=.bool (l.any (λs=>!(Lib.validD s)))/\Same [] w0 w'):=by
 refine Ka func134 O ntmps134 Mb (Ae _ _) ?_;have hF:=FR.start w0 [];refine Ia (Ca (Eb O) (Ec (Ca (Kd O) (Ca (Ru) ?_))));refine Ta hF (CJ l A c _ hl _ (hF.rep hX) (hG.ext hF.same)) (Qb OV O O O) ?_;intro w hF;refine Ca (Gt O O) (Ca (Eb O) (Fa ?_));refine Tc (v:=.bool _) O O ?_;exact⟨congrArg Value.bool (I5 _ _),hF.same⟩
theorem JA(l:List Str)(A:Option Addr)(c:Nat)(S:Nat->Prop)(hl:∀s∈l,s.length<=140737488355328)(w0:World)(hX:Rep S w0 (Ug l) [.slice A l.length c])(hG:Gl w0):Calls prog 92 #[.slice A l.length c] w0 (Vd λv w'=>v=.bool (LA l)/\Same [] w0 w'):=by
 have hXl:=hX.slice_len;refine Ka func92 O ntmps92 Mb (Jc _) ?_;have hF:=FR.start w0 [];refine Ia (Ca (Eb O) (Ec (Ca (Kd O) (Ca (Rf pZ O) (Ca (Sx O O) (Ca (Xb O) ?_))))));refine Xa (d:=6) O (λhg0=>?_) (λhg0=>?_);refine Ca (Kd O) (Ta hF (B7 l A c _ hl _ (hF.rep hX) (hG.ext hF.same)) (Qb EW O O O) ?_);intro w hF;refine Ca (Bi O) (Ca (Rb O O) (Ca (Eb O) (Fa ?_)));refine Tc (v:=.bool _) O O ⟨congrArg Value.bool ?_,hF.same⟩
 ·first|(rw[LA,decide_eq_true U,Bool.true_and,List.not_any_eq_all_not];simp;done)|(rw[LA,decide_eq_false U,Bool.false_and];done)
 refine Da (Da (Da (Ca (Jb O O) (Ca (Eb O) (Fa ?_)))));refine Tc (v:=.bool false) O O ⟨congrArg Value.bool ?_,hF.same⟩
 ·first|(rw[LA,decide_eq_true U,Bool.true_and,List.not_any_eq_all_not];simp;done)|(rw[LA,decide_eq_false U,Bool.false_and];done)
theorem C_(x:Rl)(hx:RuleOk x)(A:Option Addr)(c:Nat)(S:Nat->Prop)(w0:World)(hX:Rep S w0 (Ug x.pat) [.slice A x.pat.length c])(hG:Gl w0):Calls prog 63 #[.agg #[.slice A x.pat.length c,I x.key]] w0 (Vd λv w'=>v=.bool (H3 x)/\Same [] w0 w'):=by
 refine Ka func63 O ntmps63 Mb (Jc _) ?_;have hF:=FR.start w0 [];refine Ia (Xf hF O ?_);rintro b1 w hb1 hF -;refine Ca (Eb O) (Ec (Ca (Cd QO O) (Ed (Em dZ O hF.F 0 O O) ?_)));refine Kc (Y5 x.key hx.key _ (hG.ext hF.same)) (Va UL O O) ?_;rintro _ w ⟨n,rfl,hE⟩;have hF:=hF.ext hE;refine Ca (Tq O) (Ca (Hr O O) (Ca (Qp O O) (Ca (Bc O) (Ca (Eb O) (Ec (Ca (Xb O) (Ca (Xb O) ?_)))))));refine Uc (d:=12) O (λhg0=>?_) (λhg0=>?_);refine Ca (Cd HQ O) (Ed (Mh vQ O hF.F 0 O O) ?_);refine Ta hF (JA x.pat A c _ hx.pat _ (hF.rep hX) (hG.ext hF.same)) (Va KY O O) ?_;intro w hF;refine Ca (Rb O O) (Ca (Eb O) (Fa ?_));refine Tc (v:=.bool _) O O ⟨congrArg Value.bool ?_,hF.same⟩;show _=(Lib.validD x.key&&LA x.pat);simp_all;refine Da (Da (Da (Ca (Jb O O) (Ca (Eb O) (Fa ?_)))));refine Tc (v:=.bool false) O O ⟨congrArg Value.bool ?_,hF.same⟩;show _=(Lib.validD x.key&&LA x.pat);simp_all
theorem WM(x:Rl)(hx:RuleOk x)(A:Option Addr)(c:Nat)(S:Nat->Prop)(w0:World)(hX:Rep S w0 (Ug x.pat) [.slice A x.pat.length c])(hG:Gl w0):Calls prog 62 #[.agg #[.slice A x.pat.length c,I x.key]] w0 (Vd λv w'=>v=.bool (!(H3 x))/\Same [] w0 w'):=by
 refine Ka func62 O ntmps62 Mb (Jc _) ?_;have hF:=FR.start w0 [];refine Ia (Xf hF O ?_);rintro b1 w hb1 hF -;refine Ca (Eb O) (Ec (Ed (Ej isAgg93 sizeOf93 O hF.F 0 O O) ?_));refine Ta hF (C_ x hx A c _ _ (hF.rep hX) (hG.ext hF.same)) (Va HZ O O) ?_;intro w hF;refine Ca (Bi O) (Ca (Eb O) (Fa ?_));refine Tc (v:=.bool _) O O ?_;exact⟨O,hF.same⟩
theorem WI(l:List Rl)(A:Option Addr)(c:Nat)(S:Nat->Prop)(hl:∀x∈l,RuleOk x)(w0:World)(hX:Rep S w0 (Vv l) [.slice A l.length c])(hG:Gl w0):Calls prog 90 #[.slice A l.length c,.func (.func 62) #[] #[]] w0 (Vd λv w'=>v=J (ZN (λx=>!(H3 x)) l)/\Same [] w0 w'):=by
 have hXl:=hX.slice_len;simp only[rQ]at hXl;refine Ka func90 O ntmps90 Mb (Ae _ _) ?_;have hF:=FR.start w0 [];refine Ia (Ca (Bc O) (Fa (Ha (Ia (Ca (Kd O) (Ca (Rf underlying65 O) (Ca (Db O) (Fa (Sa ?_)))))))));refine Gc (λμ σ w=>∃(j:Nat),μ=l.length-j/\(j<=l.length)/\((l.take j).any (λx=>!(H3 x))=false)/\AllEq σ [(0,.slice A l.length c),(1,.func (.func 62) #[] #[]),(7,J ((l.length:Nat))),(8,J ((j:Int)))]/\FR w0 [] [] w) _ ⟨0,O,(Nat.zero_le _),Ua,Fj,hF⟩ ?_;rintro μ σ w ⟨j,rfl,hj,hn,hs,hF⟩;refine Cg.slots hs ?_;clear hs;intro σ;refine Ia (Ca (Tg O O) (Fa (Ha ?_)));refine Wb O O (λhc0=>?_) (λhc0=>?_);refine Ma (Ga (Ha (Sa (Ia (Ca (Db O) (Ca (Bc O) (Ec (Ca (Ru) (Ca (Kd O) ?_)))))))));refine Ca (Db O) ?_;obtain⟨ad0,B0,e0,hA0,hk0,hx0⟩:=hX.rule_elem (i:=j) U;refine Ja (v:=.pointer (some (ad0.add (j*2)))) (Qa (i:=(j:Int)) WW O hA0 O U U) (Ja (Hb (l:=[.slice (B0) ((l[j]).pat.length) (e0),I ((l[j]).key)]) isAgg93 sizeOf93 O O (hF.cells0 hk0)) ?_);refine Ta hF (WM l[j] (hl _ (eQ _)) B0 e0 _ _ (hF.rep hx0) (hG.ext hF.same)) (Ui O FX O O) ?_;intro w hF;refine Fa (Je O O (λhc1=>?_) (λhc1=>?_));refine Ia (Ca (Db O) (Ca (Bc O) (Fa ?_)));refine Tc (v:=J ((j:Int))) O O ?_;exact⟨congrArg _ (E5 U hn hc1).symm,hF.same⟩;refine Ma (Ib (Ga (Ea (Ca (Lk O O) (Ca (Db O) (Ra ?_))))));refine Za ⟨_,?_,j+1,O,U,(Ss U hn hc1),Fj,hF⟩;omega;refine Zb (Vb O ?_);refine Ga (Ia (Ca (Bc O) (Fa ?_)));refine Tc (v:=J ((-1))) O O ?_;exact⟨congrArg _ (F2 U hn).symm,hF.same⟩
theorem I8(l:List Rl)(A:Option Addr)(c:Nat)(S:Nat->Prop)(hl:∀x∈l,RuleOk x)(w0:World)(hX:Rep S w0 (Vv l) [.slice A l.length c])(hG:Gl w0):Calls prog 61 #[.slice A l.length c,.func (.func 62) #[] #[]] w0 (Vd λv w'=>v=.bool (l.any (λx=>!(H3 x)))/\Same [] w0 w'):=by
 refine Ka func61 O ntmps61 Mb (Ae _ _) ?_;have hF:=FR.start w0 [];refine Ia (Ca (Eb O) (Ec (Ca (Kd O) (Ca (Ru) ?_))));refine Ta hF (WI l A c _ hl _ (hF.rep hX) (hG.ext hF.same)) (Qb AY O O O) ?_;intro w hF;refine Ca (Gt O O) (Ca (Eb O) (Fa ?_));refine Tc (v:=.bool _) O O ?_;exact⟨congrArg Value.bool (I5 _ _),hF.same⟩
theorem Hu(l:List Rl)(A:Option Addr)(c:Nat)(S:Nat->Prop)(hl:∀x∈l,RuleOk x)(w0:World)(hX:Rep S w0 (Vv l) [.slice A l.length c])(hG:Gl w0):Calls prog 43 #[.slice A l.length c] w0 (Vd λv w'=>v=.bool (Wv l)/\Same [] w0 w'):=by
 have hXl:=hX.slice_len;refine Ka func43 O ntmps43 Mb (Jc _) ?_;have hF:=FR.start w0 [];refine Ia (Ca (Eb O) (Ec (Ca (Kd O) (Ca (Rf underlying65 O) (Ca (Sx O O) (Ca (Xb O) ?_))))));refine Xa (d:=6) O (λhg0=>?_) (λhg0=>?_);refine Ca (Kd O) (Ta hF (I8 l A c _ hl _ (hF.rep hX) (hG.ext hF.same)) (Qb QW O O O) ?_);intro w hF;refine Ca (Bi O) (Ca (Rb O O) (Ca (Eb O) (Fa ?_)));refine Tc (v:=.bool _) O O ⟨congrArg Value.bool ?_,hF.same⟩
 ·first|(rw[Wv,decide_eq_true U,Bool.true_and,List.not_any_eq_all_not];simp;done)|(rw[Wv,decide_eq_false U,Bool.false_and];done)
 refine Da (Da (Da (Ca (Jb O O) (Ca (Eb O) (Fa ?_)))));refine Tc (v:=.bool false) O O ⟨congrArg Value.bool ?_,hF.same⟩
 ·first|(rw[Wv,decide_eq_true U,Bool.true_and,List.not_any_eq_all_not];simp;done)|(rw[Wv,decide_eq_false U,Bool.false_and];done)
end Go.Scarf
