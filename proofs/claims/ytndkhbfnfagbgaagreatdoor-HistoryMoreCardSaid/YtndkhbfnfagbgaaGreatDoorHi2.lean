/- A part of the proof. -/
import Derived.Test.YtndkhbfnfagbgaaGreatDoorMs
import Derived.Test.YtndkhbfnfagbgaaGreatDoorM5
set_option linter.all false
set_option maxHeartbeats 8000000
set_option maxRecDepth 10000
namespace Go.Scarf
open Go.RowKit Go.Proofs Go.Proofs.Tryz
theorem Gi{w:World}{mb:Nat}{l:MapI}{a:Addr}{v:Value}(hm:w.heap[mb]? = some (Sh l))(hc:w.cell? a=some v):a.block∉[mb]:=λe=>by
  rw[pQ]at e;subst e;unfold World.cell? at hc;rw[hm]at hc;simp[Sh]at hc
theorem par_nat{h:List Cm}(hr:Ld h=true){k j:Nat}(hk:k<h.length)(hj:j<h[k].par.length):∃pn:Nat,h[k].par[j]=(pn:Int)/\∃hp:j<(Ru h k).length,(Ru h k)[j]=pn:=by
  have e:Ru h k=h[k].par.map Int.toNat:=by unfold Ru;rw[List.getElem?_eq_getElem hk];rfl
  have h1:=Kq hr hk;unfold Sf at h1;have h2:=Q8 (Bool.and_eq_true_iff.1 h1).1 _ (eQ hj);refine⟨h[k].par[j].toNat,by omega,by rw[e,rQ];exact hj,by simp[e]⟩
theorem parH_len{h:List Cm}{k:Nat}(hk:k<h.length):(Ru h k).length=h[k].par.length:=by unfold Ru;rw[List.getElem?_eq_getElem hk];simp
def YW(h:List Cm)(k:Nat):Prop:=∀(ks:List Int)(T:Nat->Prop)(mb ob hb wb:Nat)(A:Option Addr)(c:Nat)(S:Nat->Prop)(w0:World),k<h.length->w0.heap[mb]? = some (Sh (Fd ks)) ->
  w0.cell? ⟨ob,0,none⟩=some (.map (some mb))->w0.cell? ⟨hb,0,none⟩=some (.slice A h.length c)->w0.cell? ⟨wb,0,none⟩=some (.func (.func 41) #[] #[V ob,V hb,V wb])->Rep S w0 (Nr h) [.slice A h.length c]->(∀b,S b->b<w0.heap.size/\b∉[mb])->SetL ks T->D7 h T k ->
  Calls prog 41 #[J (k:Int),V ob,V hb,V wb] w0 (Td λv w'=>v=.tuple #[]/\∃ks':List Int,w'.heap[mb]? = some (Sh (Fd ks'))/\SetL ks' (λj=>T j\/Xt h k j=true)/\Same [mb] w0 w')
theorem UT(h:List Cm)(hr:Ld h=true)(k:Nat)(ih:∀p,p<k->YW h p):YW h k:=by
 intro ks T mb ob hb wb A c S w0 hkl hm hob hhb hwb hX hS hks hcl;have hXl:=hX.slice_len;simp only[rQ]at hXl;obtain⟨ad,q,hA,hk,hqn,hP,hV⟩:=hX.cm_elem (i:=k) hkl;have hPl:=hP.slice_len;refine Ga func41 O ntmps41 Fb (Us _ _ _ _) ?_;have hF:FR w0 [mb] [(mb,Sh (Fd ks))] w0:=(FR.start w0 [mb]).addD hm (.inr Da) Da;refine Ha (Ja (Ka (v:=.map (some mb)) (Jb isAgg57 O (hF.cellE hob (Gi hm hob))) (Ca (Kb O) (Ka (v:=.bool (decide ((k:Int)∈ks))) (T_ jX iX zeroValue4 O O (hF.heap (i:=0) O) (ZH ks (k:Int))) (Ea ?_)))));refine Pc O O (λhc0=>?_) (λhc0=>?_);refine Cc (Bc (Sa (Sg O) ?_));exact⟨O,ks,hF.heap (i:=0) O,hks.congr (SM hcl ((hks.at k).1 hc0)),hF.same⟩;refine Ta (Ia (Ja (Ka (v:=.map (some mb)) (Jb isAgg57 O (hF.cellE hob (Gi hm hob))) (Ca (Kb O) ?_))));refine W1 0 (l:=Fd ks) (key:=(k:Int)) (v:=.bool true) hF jX iX O O O O (by rw[N3,if_neg hc0]) ?_;rintro w hF -;have hF:FR w0 [mb] [(mb,Sh (Fd (ks++[(k:Int)])))] w:=CC ks (k:Int)▸hF;refine Fc (Ka (v:=.slice A h.length c) (Jb isAgg22 O (hF.cellE hhb (Gi hm hhb))) (Ca (Kb O) (Ka (v:=.pointer (some (ad.add (k*5)))) (Pa (i:=(k:Int)) Pt O hA O sX sX) (Ka (v:=.pointer (some ((ad.add (k*5)).add 0))) (Wc (a:=ad.add (k*5)) U1 O) ?_))));refine Ka (v:=.slice q.A q.n q.c) (Jb vQ O (hF.cellE (hk 0 (by simp[Mv.cells])) (Gi hm (hk 0 (by simp[Mv.cells]))))) (Ca (Ye bX O) (Ca (Kb O) (Ea (Va ?_))));refine Rc (λμ σ w=>∃(j:Nat),∃(kc:List Int),μ=q.n-j/\(j<=q.n)/\(SetL kc (SUp h T k j))/\AllEq σ [(3,.pointer (some (⟨wb,0,none⟩))),(16,.slice q.A q.n q.c),(17,J ((q.n:Nat))),(18,J ((j:Int)))]/\FR w0 [mb] [(mb,Sh (Fd kc))] w) _ ⟨0,_,O,(Nat.zero_le _),((hks.add (λhT=>hc0 ((hks.at k).2 hT))).congr sup_zero),Tq,hF⟩ ?_;rintro μ σ w ⟨j,kc,rfl,hj,hset,hs,hF⟩;refine Cg.slots hs ?_;clear hs;intro σ;refine Ja (Ca (Kl O O) (Ea (Ha ?_)))
 refine Pc O O (λhc1=>?_) (λhc1=>?_);refine Ta (Ia (Ha (Va (Ja ?_))));obtain⟨ad0,hA0,hk0,hx0⟩:=(hF.repE hS hP).int_elem (i:=j) sX;obtain⟨pn,hpn,hpl,hpe⟩:=par_nat hr hkl (j:=j) sX;rw[hpn]at hk0;refine Ka (v:=.pointer (some (ad0.add (j*1)))) (Pa (i:=(j:Int)) Ef O hA0 O sX sX) (Ka (v:=J ((pn:Int))) (Jb bZ O hk0) (Ca (Sc O) (Ea (Fa (Ka (v:=.func (.func 41) #[] #[.pointer (some (⟨ob,0,none⟩)),.pointer (some (⟨hb,0,none⟩)),.pointer (some (⟨wb,0,none⟩))]) (Jb isAgg84 O (hF.cellE hwb (Gi hm hwb))) (Ca (Kb O) ?_))))));have hpm:pn∈Ru h k:=hpe▸eQ hpl;refine Cb (ih pn (Xn hr hpm).1 kc (SUp h T k j) mb ob hb wb A c S _ (by have:=(Xn hr hpm).1;omega) (hF.heap (i:=0) O) (hF.cellE hob (Gi hm hob)) (hF.cellE hhb (Gi hm hhb)) (hF.cellE hwb (Gi hm hwb)) (hF.repE hS hX) (λb hb=>⟨Nat.lt_of_lt_of_le (hS b hb).1 hF.same.size,(hS b hb).2⟩) hset (HP hr hcl hpm)) (Yi O en_41 O O) ?_;rintro _ w ⟨rfl,ks2,hm2,hs2,hE⟩;have hF:=hF.change 0 rfl hE hm2;clear hE hm2;refine Db (Ib (Ia (Fa (Ca (Ok (((j+1:Nat):Int)) O O) (Ca (Kb O) (Db ?_))))));refine Yb ⟨_,?_,j+1,ks2,O,sX,(hs2.congr λi=>by rw[<-hpe];exact MX hpl i),Tq,hF⟩;omega;refine Nc (Kc O ?_);refine Bf (Rd (Sg O) ?_);exact⟨O,kc,hF.heap (i:=0) O,hset.congr (sup_end hr hkl (by rw[parH_len hkl];omega)),hF.same⟩
theorem walk_c(h:List Cm)(hr:Ld h=true)(k:Nat):YW h k:=by
  induction k using Nat.strongRecOn with
  | _ k ih=>exact UT h hr k ih
theorem X3(l:MapG)(c:Nat)(N:Nat)(p:Nat->Bool)(mb:Nat)(w0:World)(hm:w0.heap[mb]? = some (Qi l c))(hs:SetG l c λj=>j<N/\p j=true)(hl:l.length<=1000)(hN:N<=1000):Calls prog 27 #[.map (some mb)] w0 (Td λv w'=>∃A c,v=.slice A ((List.range N).filter p).length c/\Rep (Btw w0 w') w' (.slice ((((List.range N).filter p).map λi:Nat=>(i:Int)).map Zd)) [.slice A ((List.range N).filter p).length c]/\Same [] w0 w'):=by
 refine Ga func27 O ntmps27 Fb (Ad _) ?_;have hF:=FR.start w0 [];refine Ja (Ca (Qg O) (Fc (Ca (Qg O) (Ea (Ha (Ja (Ca (Mr) ?_)))))));refine Xp (v:=λb=>V b) (o:=.mapIter (some mb) (c) #[] (c)) hF (L8 (l:=l) jX O ((hF.same.block mb (Ma hm) Da).trans hm)) ?_;rintro b1 w hb1 hF -;refine Ea (Va ?_);have hF:FR w0 [] ([(b1,.mapIter (some mb) (c) #[] (c))]++([]++[])) w:=hF;refine Rc (λμ σ w=>∃(vs:List Nat),∃(A:Option Addr),∃(c2:Nat),∃(sb:List (Nat × Obj)),μ=l.length-vs.length/\(VisG l vs)/\(SlB 3 1 A vs.length c2 ((vs.map (Tp l)).map (Value.int .i64)) sb)/\AllEq σ [(3,.slice A vs.length c2),(6,V b1)]/\FR w0 [] ([(b1,.mapIter (some mb) (c) (Yk (l) (vs)) (c))]++(sb++[])) w) _ ⟨[],none,0,[],O,(VisG.nil),(SlB.nil _ _),ED,hF⟩ ?_;rintro μ σ w ⟨vs,A,c2,sb,rfl,hv,hS,hs,hF⟩;refine Cg.slots hs ?_;clear hs;intro σ;refine Ja (CF 0 (b:=mb) (c:=c) (l:=l) (vs:=vs) hF (hs) (hv) O O ((hF.same.block mb (Ma hm) Da).trans hm) (λhall=>?_) (λj w hj hn hF2 hE _=>?_));refine Ca (Fq O O) (Ea (Ha (Kg O ?_)));refine Nc (Kc O ?_);refine Ia (Ja (Ca (Pd O) ?_));refine Cb (IQ (pre:=[(b1,.mapIter (some mb) (c) (Yk (l) (vs)) (c))]) (post:=[]) (zs:=(vs.map (Tp l))) Da hS hF (by have:=hv.le;omega)) (Ra en_42 O O) ?_;rintro _ w ⟨rfl,sb2,hS2,hF⟩;refine Fc (Ca (Pd O) (Ca (Qg O) (Ea ?_)));refine Qd (v:=.slice _ _ _) O O ?_;have hk:=TX hs hv hall;rw[hk]at hS2;have hlen:vs.length=((List.range N).filter p).length:=by have:=congrArg List.length hk;rw[List.length_mergeSort,rQ,rQ]at this;exact this
 rw[hlen]at hS2 ⊢;refine⟨_,_,O,?_,hF.same⟩;have hK:RX w0 [] w ((((List.range N).filter p).map λi:Nat=>(i:Int)).map Zd) _:=An (λs hs=>by obtain⟨i,hi,rfl⟩:=nQ.1 hs;have:=List.mem_range.1 (List.mem_filter.1 hi).1;omega);exact hS2.rep (pre:=[_]) (post:=[]) hF hK Da;clear hF;have hF:FR w0 [] ([(b1,.mapIter (some mb) (c) (Yk (l) (vs++[j])) (c))]++(sb++[])) w:=hF2;clear hE hF2;refine Ca (Fq O O) (Ea (Ha (Ge O (Ta (Ia (Va (Ja ?_)))))));refine Ka (v:=.tuple #[J (Tp l j),.bool true]) (K8 hs O hj (hF.heap (i:=0) O) ((hF.same.block mb (Ma hm) Da).trans hm)) (Ca (Rs O O) (Ca (Sc O) (Ea (Fa (Ca (Pd O) (Ca (Kb O) ?_))))));refine Pf 1 hF (Xa (cs:=#[J (Tp l j)]) bX qZ oX Ua Ua Mb) ?_;rintro b2 w hb2 hF -;refine M5 (news:=[J (Tp l j)]) (len':=(vs++[j]).length) (ys:=((vs++[j]).map (Tp l)).map (Value.int .i64)) Sj hF hS O O (O) (λ_=>⟨_,O,Ob (hF.cellsAll 0 O)⟩) (by simp[Value.oneCell']) (by have:=hv.le;simp only[maxLen];omega) Da Da (by have:=hv.le;omega) ?_;intro A0 c0 o_0 w hS0_o hF hE hnew;refine Ca (Qg O) (Db (Ib ?_));refine Yb ⟨_,?_,vs++[j],A0,c0,o_0,O,(hv.push hj hn),(hS0_o),ED,hF.drop 1⟩;have:=hv.less hj hn;rw[dQ,List.length_singleton];omega
theorem Rep.lowH{S:Nat->Prop}{w:World}{d:D}{cs:List Value}(h:Rep S w d cs):Rep (λb=>b<w.heap.size) w d cs:=h.weaken λ_ _ hl=>hl
section
variable {P:Program}{R:Exit->Act->World->Prop}{n:Nat}{k:Kt}{s:Nat->Value}{w:World}{ops rest:List Oper}
variable {ty:TypeId}{pos:String}{aft:Array Edge}{g:Option (Nat × Bool)}{w0:World}{Ds:List Nat}{bs_:List (Nat × Obj)}
theorem XF{ρ:Operand->Value}{dst:Option Nat}{fn:Fn}{x y z:Operand}{v u t:Value}(hx:ρ x=v)(hy:ρ y=u)(hz:ρ z=t):(execOp ρ ⟨dst,.makeFunc fn #[] #[x,y,z],ty,pos,aft,g⟩).run P w=.ok (.value (.func fn #[] #[v,u,t])) w:=Su Da (by simp[hx,hy,hz])
theorem FR.takeN{w':World}{b:Nat}{o:Obj}(hF:FR w0 Ds bs_ w)(hE:Same [] w w')(hh:w'.heap[b]? = some o)(hg:w.heap.size<=b):FR w0 Ds ((b,o)::bs_) w' :=
  (hF.ext hE).addD hh (.inl (fQ hF.same.size hg)) λp hp e=>by have:=Ma (hF.own p hp).1;omega
theorem ON(i:Nat){t t' kt e b c:Nat}{x y:Operand}{l:MapG}{key:Int}(hF:FR w0 Ds bs_ w)(ht:P.underlying t=some (.map kt e))(hk:P.underlying kt=some (.int .i64))(hx:ev n s x=.map (some b))(hy:ev n s y=J key)(hi:bs_[i]? = some (b,Qi l c))
    (h:∀w',FR w0 Ds (bs_.set i (b,Qi (GG l key) c)) w'->Same [b] w w'->Og P R n ops k rest s w')
    (hw:Vb ops n s ⟨none,.call ⟨.builtin .delete,#[x,y],#[t,t']⟩,ty,pos,aft,g⟩=true:=by rfl):Og P R n ops k (⟨none,.call ⟨.builtin .delete,#[x,y],#[t,t']⟩,ty,pos,aft,g⟩::rest) s w :=
  o_valn (QV ht hk hx hy (hF.heap hi)) (h _ (hF.setObj i hi) (Lm w b _)) hw
end
theorem V6(h:List Cm)(hr:Ld h=true)(k:Nat)(hk:k<h.length)(A:Option Addr)(c:Nat)(S:Nat->Prop)(w0:World)(hX1:Rep S w0 (Nr h) [.slice A h.length c]):Calls prog 26 #[.slice A h.length c,J (k:Int)] w0 (Td λv w'=>∃(mb:Nat)(ks:List Int),v=.map (some mb)/\w'.heap[mb]? = some (Sh (Fd ks))/\SetL ks (λj=>j<h.length/\Xt h k j=true)/\w0.heap.size<=mb/\Same [] w0 w'):=by
 have hX:=hX1.lowH;refine Ga func26 O ntmps26 Fb (Zc _ _) ?_;have hF:=FR.start w0 [];refine Ja (EE (.slice _ _ _) hF O ?_);rintro b1 w hb1 hF -;refine Ca (Ry) (Fc ?_);refine Xp (v:=λb=>.map (some b)) (o:=Sh (To [])) hF (Rw jX) ?_;rintro b2 w hb2 hF -;refine o_ly (.map (some b2)) hF zeroValue57 sizeOf57 O ?_;rintro b3 w hb3 hF -;refine Fc (Od (cs:=#[.nilFunc]) hF zeroValue84 O ?_);rintro b4 w hb4 hF -;refine Fc (Ka (v:=.func (.func 41) #[] #[V b3,V b1,V b4]) (XF O O O) ?_);refine Cp (.func (.func 41) #[] #[V b3,V b1,V b4]) hF sizeOf84 O O Mh Mh ?_;rintro w hF -;refine Fc (Yc (ylu isAgg84 O hF.F 0 O O) (Ca (Kb O) ?_));refine Cb (walk_c h hr k [] (λ_=>False) b2 b3 b1 b4 A c _ _ hk (hF.heap (i:=2) O) (hF.cell 1 O O) (hF.cell 3 O O) (hF.cell 0 O O) (hF.rep hX) (λb hb=>⟨Nat.lt_of_lt_of_le hb hF.same.size,λe=>by have h1:=hF.ge (i:=2) O;rw[pQ]at e;omega⟩) SetL.nil (λj _ h=>h.elim)) (Yi O en_41 O O) ?_;rintro _ w ⟨rfl,ks,hm2,hs2,hE⟩;have hF:=hF.change 2 rfl hE hm2;clear hE hm2;refine Fc (Yc (ylu isAgg57 O hF.F 1 O O) (Ca (Ry) (Ea ?_)));refine Qd (v:=.map (some b2)) O O ?_;exact⟨b2,ks,O,hF.heap (i:=2) O,FT hr hk hs2,hF.ge (i:=2) O,hF.same⟩
open Go.RowKit
def BV(h:List Cm)(b:Nat)(l:MapG)(vs:List Nat):Nat->Prop:=λj=>(∃i∈vs,Tp l i=(j:Int))/\Xt h b j=true
theorem bv_nil{h:List Cm}{b:Nat}{l:MapG}:SetL [] (BV h b l []):=SetL.nil.congr λj=>⟨False.elim,λ⟨⟨i,hi,_⟩,_⟩=>by cases hi⟩
theorem TF{l:MapG}{c:Nat}{S:Nat->Prop}(hs:SetG l c S){j:Nat}(hj:j<l.length):∃u:Nat,Tp l j=(u:Int)/\S u:=by
  rw[Js hj];exact (hs.ks.mem _).1 (nQ.2 ⟨_,eQ hj,O⟩)
theorem YP{l:MapG}{c:Nat}{S:Nat->Prop}(hs:SetG l c S){i j:Nat}(hi:i<l.length)(hj:j<l.length)(h:Tp l i=Tp l j):i=j:=by
  rw[Js hi,Js hj]at h;exact VisG.all.nodup_atG hs.ks.nd (i:=i) (j:=j) (by simpa using hi) (by simpa using hj) (by simpa using h)
section
variable {h:List Cm}{b:Nat}{l:MapG}{c:Nat}{S:Nat->Prop}{vs:List Nat}{kb:List Int}{j u:Nat}
theorem bv_add(hs:SetG l c S)(hv:VisG l vs)(hj:j<l.length)(hn:j∉vs)(hu:Tp l j=(u:Int))(hup:Xt h b u=true)(hk:SetL kb (BV h b l vs)):SetL (kb++[(u:Int)]) (BV h b l (vs++[j])):=by
  have hno:¬BV h b l vs u:=λ⟨⟨i,hi,e⟩,_⟩=>hn (YP hs (hv.lt i hi) hj (e.trans hu.symm)▸hi);refine (hk.add hno).congr λx=>⟨?_,?_⟩
  ·rintro (⟨⟨i, hi, e⟩, hx⟩|rfl)
   ·exact⟨⟨i,List.mem_append_left _ hi,e⟩,hx⟩
   exact⟨⟨j,List.mem_append_right _ (pQ.2 O),hu⟩,hup⟩
  rintro⟨⟨i, hi, e⟩, hx⟩;rcases mQ.1 hi with hi|hi
  ·exact .inl ⟨⟨i,hi,e⟩,hx⟩
  rw[pQ.1 hi, hu]at e;exact .inr sX
theorem bv_skip(hu:Tp l j=(u:Int))(hup:¬Xt h b u=true)(hk:SetL kb (BV h b l vs)):SetL kb (BV h b l (vs++[j])):=hk.congr λx=>⟨λ⟨⟨i,hi,e⟩,hx⟩=>⟨⟨i,List.mem_append_left _ hi,e⟩,hx⟩,λ⟨⟨i,hi,e⟩,hx⟩=>by
  rcases mQ.1 hi with hi|hi
  ·exact⟨⟨i,hi,e⟩,hx⟩
  rw[pQ.1 hi, hu]at e;obtain rfl:u=x:=by omega
  exact absurd hx hup⟩
end
theorem bv_end{h:List Cm}{a b:Nat}{l:MapG}{c:Nat}{vs:List Nat}{kb:List Int}(hs:SetG l c λj=>j<h.length/\Xt h a j=true)(hall:∀j,j<l.length->j∈vs)(hv:VisG l vs)(hk:SetL kb (BV h b l vs)):SetL kb λj=>j<h.length/\Wf h a b j=true:=hk.congr λx=>by
  constructor
  ·rintro⟨⟨i, hi, e⟩, hx⟩
   obtain⟨u,hu,h1,h2⟩:=TF hs (hv.lt i hi);obtain rfl:u=x:=by rw[hu]at e;omega
   exact⟨h1,Qq.2 ⟨h2,hx⟩⟩
  rintro⟨h1, h2⟩;obtain⟨h3,h4⟩:=Qq.1 h2;have hm:=(hs.ks.at x).2 ⟨h1,h3⟩;obtain⟨i,hi,e⟩:=List.mem_iff_getElem.1 hm;have hi':i<l.length:=by simpa using hi
  exact⟨⟨i,hall i hi',by rw[Js hi'];simpa using e⟩,h4⟩
theorem key_zip{l:List Int}{i:Nat}(hi:i<l.length):Tp ((Fd l).zipIdx 0) i=l.getD i 0:=by
  rw[Js (by simpa[Fd]using hi)];simp[Fd,List.getD,hi]
end Go.Scarf
