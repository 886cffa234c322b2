/- A part of the proof. -/
import Derived.Test.YtbhneplafiapdaaGreatDoorM5
set_option linter.all false
set_option maxHeartbeats 8000000
set_option maxRecDepth 10000
namespace Go.Scarf
open Go.RowKit Go.Proofs Go.Proofs.Tryz
theorem Gw(l:MapG)(c:Nat)(N:Nat)(p:Nat->Bool)(mb:Nat)(w0:World)(hm:w0.heap[mb]? = some (Ig l c))(hs:SetG l c λj=>j<N/\p j=true)(hl:l.length<=1000)(hN:N<=1000):Calls prog 38 #[.map (some mb)] w0 (Vd λv w'=>∃A c,v=.slice A ((List.range N).filter p).length c/\Rep (Btw w0 w') w' (.slice ((((List.range N).filter p).map λi:Nat=>(i:Int)).map We)) [.slice A ((List.range N).filter p).length c]/\Same [] w0 w'):=by
 refine Ka func38 O ntmps38 Mb (Jc _) ?_;have hF:=FR.start w0 [];refine Ia (Ca (Vh O) (Ec (Ca (Vh O) (Fa (Ha (Ia (Ca (Ru) ?_)))))));refine Wr (v:=λb=>V b) (o:=.mapIter (some mb) (c) #[] (c)) hF (Oz (l:=l) sZ O ((hF.same.block mb (Wa hm) Ua).trans hm)) ?_;rintro b1 w hb1 hF -;refine Fa (Sa ?_);have hF:FR w0 [] ([(b1,.mapIter (some mb) (c) #[] (c))]++([]++[])) w:=hF;refine Gc (λμ σ w=>∃(vs:List Nat),∃(A:Option Addr),∃(c2:Nat),∃(sb:List (Nat × Obj)),μ=l.length-vs.length/\(VisG l vs)/\(SlB 3 1 A vs.length c2 ((vs.map (Qk l)).map (Value.int .i64)) sb)/\AllEq σ [(3,.slice A vs.length c2),(6,V b1)]/\FR w0 [] ([(b1,.mapIter (some mb) (c) (Th (l) (vs)) (c))]++(sb++[])) w) _ ⟨[],none,0,[],O,(VisG.nil),(SlB.nil _ _),Ms,hF⟩ ?_;rintro μ σ w ⟨vs,A,c2,sb,rfl,hv,hS,hs,hF⟩;refine Cg.slots hs ?_;clear hs;intro σ;refine Ia (S6 0 (b:=mb) (c:=c) (l:=l) (vs:=vs) hF (hs) (hv) O O ((hF.same.block mb (Wa hm) Ua).trans hm) (λhall=>?_) (λj w hj hn hF2 hE _=>?_));refine Ca (Qp O O) (Fa (Ha (If O ?_)));refine Zb (Vb O ?_);refine Ga (Ia (Ca (Kd O) ?_));refine Kc (NP (pre:=[(b1,.mapIter (some mb) (c) (Th (l) (vs)) (c))]) (post:=[]) (zs:=(vs.map (Qk l))) Ua hS hF (by have:=hv.le;omega)) (Va TX O O) ?_;rintro _ w ⟨rfl,sb2,hS2,hF⟩;refine Ec (Ca (Kd O) (Ca (Vh O) (Fa ?_)));refine Tc (v:=.slice _ _ _) O O ?_;have hk:=MN hs hv hall;rw[hk]at hS2;have hlen:vs.length=((List.range N).filter p).length:=by have:=congrArg List.length hk;rw[List.length_mergeSort,rQ,rQ]at this;exact this
 rw[hlen]at hS2 ⊢;refine⟨_,_,O,?_,hF.same⟩;have hK:RX w0 [] w ((((List.range N).filter p).map λi:Nat=>(i:Int)).map We) _:=Xn (λs hs=>by obtain⟨i,hi,rfl⟩:=nQ.1 hs;have:=List.mem_range.1 (List.mem_filter.1 hi).1;omega);exact hS2.rep (pre:=[_]) (post:=[]) hF hK Ua;clear hF;have hF:FR w0 [] ([(b1,.mapIter (some mb) (c) (Th (l) (vs++[j])) (c))]++(sb++[])) w:=hF2;clear hE hF2;refine Ca (Qp O O) (Fa (Ha (Od O (Ma (Ga (Sa (Ia ?_)))))));refine Ja (v:=.tuple #[J (Qk l j),.bool true]) (U0 hs O hj (hF.heap (i:=0) O) ((hF.same.block mb (Wa hm) Ua).trans hm)) (Ca (Hr O O) (Ca (Bc O) (Fa (Ea (Ca (Kd O) (Ca (Db O) ?_))))));refine Xi 1 hF (Sc (cs:=#[J (Qk l j)]) oZ iZ xZ Cc Cc Nc) ?_;rintro b2 w hb2 hF -;refine GM (news:=[J (Qk l j)]) (len':=(vs++[j]).length) (ys:=((vs++[j]).map (Qk l)).map (Value.int .i64)) T9 hF hS O O (O) (λ_=>⟨_,O,Xe (hF.cellsAll 0 O)⟩) (by simp[Value.oneCell']) (by have:=hv.le;simp only[maxLen];omega) Ua Ua (by have:=hv.le;omega) ?_;intro A0 c0 o_0 w hS0_o hF hE hnew;refine Ca (Vh O) (Ra (Ib ?_));refine Za ⟨_,?_,vs++[j],A0,c0,o_0,O,(hv.push hj hn),(hS0_o),Ms,hF.drop 1⟩;have:=hv.less hj hn;rw[dQ,List.length_singleton];omega
theorem Rep.lowH{S:Nat->Prop}{w:World}{d:D}{cs:List Value}(h:Rep S w d cs):Rep (λb=>b<w.heap.size) w d cs:=h.weaken λ_ _ hl=>hl
section
variable {P:Program}{R:Exit->Act->World->Prop}{n:Nat}{k:Kt}{s:Nat->Value}{w:World}{ops rest:List Oper}
variable {ty:TypeId}{pos:String}{aft:Array Edge}{g:Option (Nat × Bool)}{w0:World}{Ds:List Nat}{bs_:List (Nat × Obj)}
theorem D5{ρ:Operand->Value}{dst:Option Nat}{fn:Fn}{x y z:Operand}{v u t:Value}(hx:ρ x=v)(hy:ρ y=u)(hz:ρ z=t):(execOp ρ ⟨dst,.makeFunc fn #[] #[x,y,z],ty,pos,aft,g⟩).run P w=.ok (.value (.func fn #[] #[v,u,t])) w:=M0 Ua (by simp[hx,hy,hz])
theorem FR.takeN{w':World}{b:Nat}{o:Obj}(hF:FR w0 Ds bs_ w)(hE:Same [] w w')(hh:w'.heap[b]? = some o)(hg:w.heap.size<=b):FR w0 Ds ((b,o)::bs_) w' :=
  (hF.ext hE).addD hh (.inl (fQ hF.same.size hg)) λp hp e=>by have:=Wa (hF.own p hp).1;omega
theorem LB(i:Nat){t t' kt e b c:Nat}{x y:Operand}{l:MapG}{key:Int}(hF:FR w0 Ds bs_ w)(ht:P.underlying t=some (.map kt e))(hk:P.underlying kt=some (.int .i64))(hx:ev n s x=.map (some b))(hy:ev n s y=J key)(hi:bs_[i]? = some (b,Ig l c))
    (h:∀w',FR w0 Ds (bs_.set i (b,Ig (S8 l key) c)) w'->Same [b] w w'->Og P R n ops k rest s w')
    (hw:Kb ops n s ⟨none,.call ⟨.builtin .delete,#[x,y],#[t,t']⟩,ty,pos,aft,g⟩=true:=by rfl):Og P R n ops k (⟨none,.call ⟨.builtin .delete,#[x,y],#[t,t']⟩,ty,pos,aft,g⟩::rest) s w :=
  CU (GH ht hk hx hy (hF.heap hi)) (h _ (hF.setObj i hi) (Xj w b _)) hw
end
theorem Ly(h:List Cm)(hr:Pc h=true)(k:Nat)(hk:k<h.length)(A:Option Addr)(c:Nat)(S:Nat->Prop)(w0:World)(hX1:Rep S w0 (Xg h) [.slice A h.length c]):Calls prog 37 #[.slice A h.length c,J (k:Int)] w0 (Vd λv w'=>∃(mb:Nat)(ks:List Int),v=.map (some mb)/\w'.heap[mb]? = some (Dj (Lc ks))/\SetL ks (λj=>j<h.length/\Rh h k j=true)/\w0.heap.size<=mb/\Same [] w0 w'):=by
 have hX:=hX1.lowH;refine Ka func37 O ntmps37 Mb (Ae _ _) ?_;have hF:=FR.start w0 [];refine Ia (YM (.slice _ _ _) hF O ?_);rintro b1 w hb1 hF -;refine Ca (YN) (Ec ?_);refine Wr (v:=λb=>.map (some b)) (o:=Dj (toJ [])) hF (Jx sZ) ?_;rintro b2 w hb2 hF -;refine o_ly (.map (some b2)) hF zeroValue60 sizeOf60 O ?_;rintro b3 w hb3 hF -;refine Ec (Ve (cs:=#[.nilFunc]) hF zeroValue79 O ?_);rintro b4 w hb4 hF -;refine Ec (Ja (v:=.func (.func 56) #[] #[V b3,V b1,V b4]) (D5 O O O) ?_);refine Wx (.func (.func 56) #[] #[V b3,V b1,V b4]) hF sizeOf79 O O Cj Cj ?_;rintro w hF -;refine Ec (Ed (PZ isAgg79 O hF.F 0 O O) (Ca (Db O) ?_));refine Kc (YU h hr k [] (λ_=>False) b2 b3 b1 b4 A c _ _ hk (hF.heap (i:=2) O) (hF.cell 1 O O) (hF.cell 3 O O) (hF.cell 0 O O) (hF.rep hX) (λb hb=>⟨Nat.lt_of_lt_of_le hb hF.same.size,λe=>by have h1:=hF.ge (i:=2) O;rw[pQ]at e;omega⟩) SetL.nil (λj _ h=>h.elim)) (Ui O IS O O) ?_;rintro _ w ⟨rfl,ks,hm2,hs2,hE⟩;have hF:=hF.change 2 rfl hE hm2;clear hE hm2;refine Ec (Ed (PZ isAgg60 O hF.F 1 O O) (Ca (YN) (Fa ?_)));refine Tc (v:=.map (some b2)) O O ?_;exact⟨b2,ks,O,hF.heap (i:=2) O,QF hr hk hs2,hF.ge (i:=2) O,hF.same⟩
open Go.RowKit
def BV(h:List Cm)(b:Nat)(l:MapG)(vs:List Nat):Nat->Prop:=λj=>(∃i∈vs,Qk l i=(j:Int))/\Rh h b j=true
theorem QT{h:List Cm}{b:Nat}{l:MapG}:SetL [] (BV h b l []):=SetL.nil.congr λj=>⟨False.elim,λ⟨⟨i,hi,_⟩,_⟩=>by cases hi⟩
theorem F6{l:MapG}{c:Nat}{S:Nat->Prop}(hs:SetG l c S){j:Nat}(hj:j<l.length):∃u:Nat,Qk l j=(u:Int)/\S u:=by
  rw[Km hj];exact (hs.ks.mem _).1 (nQ.2 ⟨_,eQ hj,O⟩)
theorem WC{l:MapG}{c:Nat}{S:Nat->Prop}(hs:SetG l c S){i j:Nat}(hi:i<l.length)(hj:j<l.length)(h:Qk l i=Qk l j):i=j:=by
  rw[Km hi,Km hj]at h;exact VisG.all.nodup_atG hs.ks.nd (i:=i) (j:=j) (by simpa using hi) (by simpa using hj) (by simpa using h)
section
variable {h:List Cm}{b:Nat}{l:MapG}{c:Nat}{S:Nat->Prop}{vs:List Nat}{kb:List Int}{j u:Nat}
theorem PU(hs:SetG l c S)(hv:VisG l vs)(hj:j<l.length)(hn:j∉vs)(hu:Qk l j=(u:Int))(hup:Rh h b u=true)(hk:SetL kb (BV h b l vs)):SetL (kb++[(u:Int)]) (BV h b l (vs++[j])):=by
  have hno:¬BV h b l vs u:=λ⟨⟨i,hi,e⟩,_⟩=>hn (WC hs (hv.lt i hi) hj (e.trans hu.symm)▸hi);refine (hk.add hno).congr λx=>⟨?_,?_⟩
  ·rintro (⟨⟨i, hi, e⟩, hx⟩|rfl)
   ·exact⟨⟨i,List.mem_append_left _ hi,e⟩,hx⟩
   exact⟨⟨j,List.mem_append_right _ (pQ.2 O),hu⟩,hup⟩
  rintro⟨⟨i, hi, e⟩, hx⟩;rcases mQ.1 hi with hi|hi
  ·exact .inl ⟨⟨i,hi,e⟩,hx⟩
  rw[pQ.1 hi, hu]at e;exact .inr U
theorem LP(hu:Qk l j=(u:Int))(hup:¬Rh h b u=true)(hk:SetL kb (BV h b l vs)):SetL kb (BV h b l (vs++[j])):=hk.congr λx=>⟨λ⟨⟨i,hi,e⟩,hx⟩=>⟨⟨i,List.mem_append_left _ hi,e⟩,hx⟩,λ⟨⟨i,hi,e⟩,hx⟩=>by
  rcases mQ.1 hi with hi|hi
  ·exact⟨⟨i,hi,e⟩,hx⟩
  rw[pQ.1 hi, hu]at e;obtain rfl:u=x:=by omega
  exact absurd hx hup⟩
end
theorem LT{h:List Cm}{a b:Nat}{l:MapG}{c:Nat}{vs:List Nat}{kb:List Int}(hs:SetG l c λj=>j<h.length/\Rh h a j=true)(hall:∀j,j<l.length->j∈vs)(hv:VisG l vs)(hk:SetL kb (BV h b l vs)):SetL kb λj=>j<h.length/\Ee h a b j=true:=hk.congr λx=>by
  constructor
  ·rintro⟨⟨i, hi, e⟩, hx⟩
   obtain⟨u,hu,h1,h2⟩:=F6 hs (hv.lt i hi);obtain rfl:u=x:=by rw[hu]at e;omega
   exact⟨h1,Dn.2 ⟨h2,hx⟩⟩
  rintro⟨h1, h2⟩;obtain⟨h3,h4⟩:=Dn.1 h2;have hm:=(hs.ks.at x).2 ⟨h1,h3⟩;obtain⟨i,hi,e⟩:=List.mem_iff_getElem.1 hm;have hi':i<l.length:=by simpa using hi
  exact⟨⟨i,hall i hi',by rw[Km hi'];simpa using e⟩,h4⟩
theorem YO{l:List Int}{i:Nat}(hi:i<l.length):Qk ((Lc l).zipIdx 0) i=l.getD i 0:=by
  rw[Km (by simpa[Lc]using hi)];simp[Lc,List.getD,hi]
section
variable {w0 w w' w1:World}{i L E:List Nat}{sm sb sb' bs_ pre post:List (Nat × Obj)}{pb:Nat}{RV:Value}{cfs:List Cf}
theorem Mx.grow(h:Mx i w sm pb RV cfs)(hE:Same (sb.map (·.1)) w w')(hn:∀p∈sb',p.1∈sb.map (·.1)\/w.heap.size<=p.1)(hi:∀x∈sb.map (·.1),x∈i):Mx (i++ids sb') w' sm pb RV cfs :=
  h.step hE hi λx hx=>by
    rcases mQ.1 hx with h1|h1
    ·exact .inl h1
    obtain⟨p, hp, rfl⟩ := nQ.1 h1;rcases hn p hp with h2|h2
    ·exact .inl (hi _ h2)
    exact .inr h2
theorem RX.nqL{ds:List D}{cs:List Value}(h:RX w0 i w ds cs)(hi:∀x∈ids sm,x∈i):RepL (Nq w0 sm w) w ds cs:=RepL.weaken (λ_ hb _=>⟨⟨hb.1,hb.2.1,hb.2.2.2⟩,λhm=>hb.2.2.1 (hi _ hm)⟩) h
theorem SlB.nq{e m n c:Nat}{A:Option Addr}{xs:List Value}{ds:List D}(h:SlB e m A n c xs sb)(hF:FR w0 E (pre++(sm++(post++(sb++bs_)))) w)(hk:∀p∈sb,w0.heap.size<=p.1)(hr:RX w0 L w ds xs)(hi:∀x∈ids sm,x∈L)(hn:ds.length=n):Rep (Nq w0 sm w) w (.slice ds) [.slice A n c]:=by
  refine h.repOf (λp hp=>?_) (hr.nqL hi) hn;have h1:=hF.own p (by simp[hp]);refine⟨h1.1,⟨hk p hp,Wa h1.1,h.soft (λq hq=>(hF.own q (by simp[hq])).1) p hp⟩,λhm=>?_⟩;obtain⟨q,hq,e⟩:=nQ.1 hm;have hd:=hF.desc;rw[List.pairwise_append]at hd;have h2:=(List.pairwise_append.1 hd.2.1).2.2 q hq p (by simp[hp]);exact h2 e.symm
theorem FR.rowS{S:Nat->Prop}{ds:List D}{l:List Value}(hF:FR w0 E bs_ w)(k:Nat){b n:Nat}{T:TypeId}(hi:bs_[k]? = some (b,.cells l.toArray T))(hr:RepL S w ds l)(hn:ds.length=n)(hm:n<=9223372036854775807):Rep (λx=>S x\/x=b) w (.slice ds) [W b n n] :=
  Rep.slice_mk hn.symm (gQ _) hm λ_=>⟨_,rfl,l,λj hj=>⟨hF.cellsAll k hi j hj,.inr rfl⟩,RepL.weaken (λ_ h _=>.inl h) hr⟩
end
theorem Same.step{E F:List Nat}{u w w':World}(h:Same E u w)(k:Same F w w')(hf:∀b∈F,b∈E\/u.heap.size<=b):Same E u w' :=
  ⟨k.os.trans h.os,k.tape.trans h.tape,k.output.trans h.output,fQ h.size k.size,λb hb hn=>(k.block b (Nat.lt_of_lt_of_le hb h.size) (λhm=>(hf b hm).elim hn U)).trans (h.block b hb hn)⟩
def Low(L:List Nat)(w:World):Prop:=∀x∈L,7<=x/\x<w.heap.size
theorem Low.ext{L E:List Nat}{w w':World}(h:Low L w)(hs:Same E w w'):Low L w':=λx hx=>⟨(h x hx).1,Nat.lt_of_lt_of_le (h x hx).2 hs.size⟩
theorem In.low{w0 w:World}{i L:List Nat}{sm bs_:List (Nat × Obj)}{pb:Nat}{RV:Value}{cfs:List Cf}{rl:List Rl}{path:List Str}{PA:Option Addr}{pc:Nat}{b l r:Option Tree}{x y z:Sv}(h:In rl i w0 sm pb RV cfs path PA pc b l r x y z)(hF:FR w0 (ids sm) bs_ w)(hL:∀x∈L,x∈bs_.map (·.1)\/x∈i:=by intro x hx;simp only[ids,jQ,List.map_cons,List.map_nil,qQ,mQ,oQ]at hx ⊢;grind):Low L w:=λx hx=>by
  rcases hL x hx with h1|h1
  ·refine⟨?_, hF.lt_ids h1⟩
   obtain⟨q,hq,rfl⟩:=nQ.1 h1;rcases (hF.own q hq).2 with h2|h2
   ·exact fQ h.g.size h2
   exact h.off _ h2
  exact⟨(h.mi.low x h1).1,Nat.lt_of_lt_of_le (h.mi.low x h1).2 hF.same.size⟩
theorem In.lt{w0 w:World}{i L:List Nat}{sm bs_:List (Nat × Obj)}{pb:Nat}{RV:Value}{cfs:List Cf}{rl:List Rl}{path:List Str}{PA:Option Addr}{pc:Nat}{b l r:Option Tree}{x y z:Sv}(h:In rl i w0 sm pb RV cfs path PA pc b l r x y z)(hF:FR w0 (ids sm) bs_ w)(hL:∀x∈L,x∈bs_.map (·.1)\/x∈i:=by intro x hx;simp only[ids,jQ,List.map_cons,List.map_nil,qQ,mQ,oQ]at hx ⊢;grind):∀x∈L,x<w.heap.size:=λx hx=>(h.low hF hL x hx).2
end Go.Scarf
