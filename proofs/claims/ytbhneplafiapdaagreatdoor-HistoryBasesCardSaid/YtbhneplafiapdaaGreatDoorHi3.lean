/- A part of the proof. -/
import Derived.Test.YtbhneplafiapdaaGreatDoorM5
set_option linter.all false
set_option maxHeartbeats 8000000
set_option maxRecDepth 10000
namespace Go.Scarf
open Go.RowKit Go.Proofs Go.Proofs.Tryz
theorem Hr(l:MapG)(c:Nat)(N:Nat)(p:Nat->Bool)(mb:Nat)(w0:World)(hm:w0.heap[mb]? = some (Oe l c))(hs:SetG l c λj=>j<N/\p j=true)(hl:l.length<=1000)(hN:N<=1000):Calls prog 38 #[.map (some mb)] w0 (Pd λv w'=>∃A c,v=.slice A ((List.range N).filter p).length c/\Rep (Btw w0 w') w' (.slice ((((List.range N).filter p).map λi:Nat=>(i:Int)).map Lc)) [.slice A ((List.range N).filter p).length c]/\Same [] w0 w'):=by
 refine Ia func38 O ntmps38 Kb (Pc _) ?_;have hF:=FR.start w0 [];refine Ka (Da (Wj O) (Ec (Da (Wj O) (Ea (Ha (Ka (Da (Jq) ?_)))))));refine Iq (v:=λb=>V b) (o:=.mapIter (some mb) (c) #[] (c)) hF (Ov (l:=l) lZ O ((hF.same.block mb (Qa hm) Pa).trans hm)) ?_;rintro b1 w hb1 hF -;refine Ea (Wa ?_);have hF:FR w0 [] ([(b1,.mapIter (some mb) (c) #[] (c))]++([]++[])) w:=hF;refine Xc (λμ σ w=>∃(vs:List Nat),∃(A:Option Addr),∃(c2:Nat),∃(sb:List (Nat × Obj)),μ=l.length-vs.length/\(VisG l vs)/\(SlB 3 1 A vs.length c2 ((vs.map (Di l)).map (Value.int .i64)) sb)/\AllEq σ [(3,.slice A vs.length c2),(6,V b1)]/\FR w0 [] ([(b1,.mapIter (some mb) (c) (Hf (l) (vs)) (c))]++(sb++[])) w) _ ⟨[],none,0,[],O,(VisG.nil),(SlB.nil _ _),N9,hF⟩ ?_;rintro μ σ w ⟨vs,A,c2,sb,rfl,hv,hS,hs,hF⟩;refine Cg.slots hs ?_;clear hs;intro σ;refine Ka (Pz 0 (b:=mb) (c:=c) (l:=l) (vs:=vs) hF (hs) (hv) O O ((hF.same.block mb (Qa hm) Pa).trans hm) (λhall=>?_) (λj w hj hn hF2 hE _=>?_));refine Da (Jp O O) (Ea (Ha (Kj O ?_)));refine Nc (Fc O ?_);refine Fa (Ka (Da (Od O) ?_));refine Zb (EI (pre:=[(b1,.mapIter (some mb) (c) (Hf (l) (vs)) (c))]) (post:=[]) (zs:=(vs.map (Di l))) Pa hS hF (by have:=hv.le;omega)) (Ua KQ O O) ?_;rintro _ w ⟨rfl,sb2,hS2,hF⟩;refine Ec (Da (Od O) (Da (Wj O) (Ea ?_)));refine Yc (v:=.slice _ _ _) O O ?_;have hk:=UD hs hv hall;rw[hk]at hS2;have hlen:vs.length=((List.range N).filter p).length:=by have:=congrArg List.length hk;rw[List.length_mergeSort,rQ,rQ]at this;exact this
 rw[hlen]at hS2 ⊢;refine⟨_,_,O,?_,hF.same⟩;have hK:RX w0 [] w ((((List.range N).filter p).map λi:Nat=>(i:Int)).map Lc) _:=Pk (λs hs=>by obtain⟨i,hi,rfl⟩:=nQ.1 hs;have:=List.mem_range.1 (List.mem_filter.1 hi).1;omega);exact hS2.rep (pre:=[_]) (post:=[]) hF hK Pa;clear hF;have hF:FR w0 [] ([(b1,.mapIter (some mb) (c) (Hf (l) (vs++[j])) (c))]++(sb++[])) w:=hF2;clear hE hF2;refine Da (Jp O O) (Ea (Ha (Le O (Sa (Fa (Wa (Ka ?_)))))));refine Oa (v:=.tuple #[J (Di l j),.bool true]) (Qu hs O hj (hF.heap (i:=0) O) ((hF.same.block mb (Qa hm) Pa).trans hm)) (Da (Hw O O) (Da (Gd O) (Ea (Ja (Da (Od O) (Da (Bc O) ?_))))));refine Fi 1 hF (Gc (cs:=#[J (Di l j)]) gZ cZ pZ Ub Ub Cc) ?_;rintro b2 w hb2 hF -;refine OO (news:=[J (Di l j)]) (len':=(vs++[j]).length) (ys:=((vs++[j]).map (Di l)).map (Value.int .i64)) GJ hF hS O O (O) (λ_=>⟨_,O,Mh (hF.cellsAll 0 O)⟩) (by simp[Value.oneCell']) (by have:=hv.le;simp only[maxLen];omega) Pa Pa (by have:=hv.le;omega) ?_;intro A0 c0 o_0 w hS0_o hF hE hnew;refine Da (Wj O) (Db (Qb ?_));refine Dc ⟨_,?_,vs++[j],A0,c0,o_0,O,(hv.push hj hn),(hS0_o),N9,hF.drop 1⟩;have:=hv.less hj hn;rw[dQ,List.length_singleton];omega
theorem Rep.lowH{S:Nat->Prop}{w:World}{d:D}{cs:List Value}(h:Rep S w d cs):Rep (λb=>b<w.heap.size) w d cs:=h.weaken λ_ _ hl=>hl
section
variable {P:Program}{R:Exit->Act->World->Prop}{n:Nat}{k:Kt}{s:Nat->Value}{w:World}{ops rest:List Oper}
variable {ty:TypeId}{pos:String}{aft:Array Edge}{g:Option (Nat × Bool)}{w0:World}{Ds:List Nat}{bs_:List (Nat × Obj)}
theorem E0{ρ:Operand->Value}{dst:Option Nat}{fn:Fn}{x y z:Operand}{v u t:Value}(hx:ρ x=v)(hy:ρ y=u)(hz:ρ z=t):(execOp ρ ⟨dst,.makeFunc fn #[] #[x,y,z],ty,pos,aft,g⟩).run P w=.ok (.value (.func fn #[] #[v,u,t])) w:=Lu Pa (by simp[hx,hy,hz])
theorem FR.takeN{w':World}{b:Nat}{o:Obj}(hF:FR w0 Ds bs_ w)(hE:Same [] w w')(hh:w'.heap[b]? = some o)(hg:w.heap.size<=b):FR w0 Ds ((b,o)::bs_) w' :=
  (hF.ext hE).addD hh (.inl (fQ hF.same.size hg)) λp hp e=>by have:=Qa (hF.own p hp).1;omega
theorem L5(i:Nat){t t' kt e b c:Nat}{x y:Operand}{l:MapG}{key:Int}(hF:FR w0 Ds bs_ w)(ht:P.underlying t=some (.map kt e))(hk:P.underlying kt=some (.int .i64))(hx:ev n s x=.map (some b))(hy:ev n s y=J key)(hi:bs_[i]? = some (b,Oe l c))
    (h:∀w',FR w0 Ds (bs_.set i (b,Oe (T3 l key) c)) w'->Same [b] w w'->Og P R n ops k rest s w')
    (hw:Ya ops n s ⟨none,.call ⟨.builtin .delete,#[x,y],#[t,t']⟩,ty,pos,aft,g⟩=true:=by rfl):Og P R n ops k (⟨none,.call ⟨.builtin .delete,#[x,y],#[t,t']⟩,ty,pos,aft,g⟩::rest) s w :=
  ML (RA ht hk hx hy (hF.heap hi)) (h _ (hF.setObj i hi) (Zh w b _)) hw
end
theorem Ws(h:List Cm)(hr:Rb h=true)(k:Nat)(hk:k<h.length)(A:Option Addr)(c:Nat)(S:Nat->Prop)(w0:World)(hX1:Rep S w0 (Zk h) [.slice A h.length c]):Calls prog 37 #[.slice A h.length c,J (k:Int)] w0 (Pd λv w'=>∃(mb:Nat)(ks:List Int),v=.map (some mb)/\w'.heap[mb]? = some (Ch (Mb ks))/\SetL ks (λj=>j<h.length/\Xj h k j=true)/\w0.heap.size<=mb/\Same [] w0 w'):=by
 have hX:=hX1.lowH;refine Ia func37 O ntmps37 Kb (Rd _ _) ?_;have hF:=FR.start w0 [];refine Ka (BD (.slice _ _ _) hF O ?_);rintro b1 w hb1 hF -;refine Da (GG) (Ec ?_);refine Iq (v:=λb=>.map (some b)) (o:=Ch (XR [])) hF (Rr lZ) ?_;rintro b2 w hb2 hF -;refine RR (.map (some b2)) hF zeroValue60 sizeOf60 O ?_;rintro b3 w hb3 hF -;refine Ec (De (cs:=#[.nilFunc]) hF zeroValue79 O ?_);rintro b4 w hb4 hF -;refine Ec (Oa (v:=.func (.func 56) #[] #[V b3,V b1,V b4]) (E0 O O O) ?_);refine Hs (.func (.func 56) #[] #[V b3,V b1,V b4]) hF sizeOf79 O O Xi Xi ?_;rintro w hF -;refine Ec (Xd (TQ isAgg79 O hF.F 0 O O) (Da (Bc O) ?_));refine Zb (IL h hr k [] (λ_=>False) b2 b3 b1 b4 A c _ _ hk (hF.heap (i:=2) O) (hF.cell 1 O O) (hF.cell 3 O O) (hF.cell 0 O O) (hF.rep hX) (λb hb=>⟨Nat.lt_of_lt_of_le hb hF.same.size,λe=>by have h1:=hF.ge (i:=2) O;rw[pQ]at e;omega⟩) SetL.nil (λj _ h=>h.elim)) (Sg O FJ O O) ?_;rintro _ w ⟨rfl,ks,hm2,hs2,hE⟩;have hF:=hF.change 2 rfl hE hm2;clear hE hm2;refine Ec (Xd (TQ isAgg60 O hF.F 1 O O) (Da (GG) (Ea ?_)));refine Yc (v:=.map (some b2)) O O ?_;exact⟨b2,ks,O,hF.heap (i:=2) O,VA hr hk hs2,hF.ge (i:=2) O,hF.same⟩
open Go.RowKit
def BV(h:List Cm)(b:Nat)(l:MapG)(vs:List Nat):Nat->Prop:=λj=>(∃i∈vs,Di l i=(j:Int))/\Xj h b j=true
theorem QL{h:List Cm}{b:Nat}{l:MapG}:SetL [] (BV h b l []):=SetL.nil.congr λj=>⟨False.elim,λ⟨⟨i,hi,_⟩,_⟩=>by cases hi⟩
theorem Rz{l:MapG}{c:Nat}{S:Nat->Prop}(hs:SetG l c S){j:Nat}(hj:j<l.length):∃u:Nat,Di l j=(u:Int)/\S u:=by
  rw[Hj hj];exact (hs.ks.mem _).1 (nQ.2 ⟨_,eQ hj,O⟩)
theorem U8{l:MapG}{c:Nat}{S:Nat->Prop}(hs:SetG l c S){i j:Nat}(hi:i<l.length)(hj:j<l.length)(h:Di l i=Di l j):i=j:=by
  rw[Hj hi,Hj hj]at h;exact VisG.all.nodup_atG hs.ks.nd (i:=i) (j:=j) (by simpa using hi) (by simpa using hj) (by simpa using h)
section
variable {h:List Cm}{b:Nat}{l:MapG}{c:Nat}{S:Nat->Prop}{vs:List Nat}{kb:List Int}{j u:Nat}
theorem PL(hs:SetG l c S)(hv:VisG l vs)(hj:j<l.length)(hn:j∉vs)(hu:Di l j=(u:Int))(hup:Xj h b u=true)(hk:SetL kb (BV h b l vs)):SetL (kb++[(u:Int)]) (BV h b l (vs++[j])):=by
  have hno:¬BV h b l vs u:=λ⟨⟨i,hi,e⟩,_⟩=>hn (U8 hs (hv.lt i hi) hj (e.trans hu.symm)▸hi);refine (hk.add hno).congr λx=>⟨?_,?_⟩
  ·rintro (⟨⟨i, hi, e⟩, hx⟩|rfl)
   ·exact⟨⟨i,List.mem_append_left _ hi,e⟩,hx⟩
   exact⟨⟨j,List.mem_append_right _ (pQ.2 O),hu⟩,hup⟩
  rintro⟨⟨i, hi, e⟩, hx⟩;rcases mQ.1 hi with hi|hi
  ·exact .inl ⟨⟨i,hi,e⟩,hx⟩
  rw[pQ.1 hi, hu]at e;exact .inr Ca
theorem JG(hu:Di l j=(u:Int))(hup:¬Xj h b u=true)(hk:SetL kb (BV h b l vs)):SetL kb (BV h b l (vs++[j])):=hk.congr λx=>⟨λ⟨⟨i,hi,e⟩,hx⟩=>⟨⟨i,List.mem_append_left _ hi,e⟩,hx⟩,λ⟨⟨i,hi,e⟩,hx⟩=>by
  rcases mQ.1 hi with hi|hi
  ·exact⟨⟨i,hi,e⟩,hx⟩
  rw[pQ.1 hi, hu]at e;obtain rfl:u=x:=by omega
  exact absurd hx hup⟩
end
theorem ZM{h:List Cm}{a b:Nat}{l:MapG}{c:Nat}{vs:List Nat}{kb:List Int}(hs:SetG l c λj=>j<h.length/\Xj h a j=true)(hall:∀j,j<l.length->j∈vs)(hv:VisG l vs)(hk:SetL kb (BV h b l vs)):SetL kb λj=>j<h.length/\Hd h a b j=true:=hk.congr λx=>by
  constructor
  ·rintro⟨⟨i, hi, e⟩, hx⟩
   obtain⟨u,hu,h1,h2⟩:=Rz hs (hv.lt i hi);obtain rfl:u=x:=by rw[hu]at e;omega
   exact⟨h1,Jd.2 ⟨h2,hx⟩⟩
  rintro⟨h1, h2⟩;obtain⟨h3,h4⟩:=Jd.1 h2;have hm:=(hs.ks.at x).2 ⟨h1,h3⟩;obtain⟨i,hi,e⟩:=List.mem_iff_getElem.1 hm;have hi':i<l.length:=by simpa using hi
  exact⟨⟨i,hall i hi',by rw[Hj hi'];simpa using e⟩,h4⟩
theorem WI{l:List Int}{i:Nat}(hi:i<l.length):Di ((Mb l).zipIdx 0) i=l.getD i 0:=by
  rw[Hj (by simpa[Mb]using hi)];simp[Mb,List.getD,hi]
section
variable {w0 w w' w1:World}{i L E:List Nat}{sm sb sb' bs_ pre post:List (Nat × Obj)}{pb:Nat}{RV:Value}{cfs:List Cf}
theorem Mx.grow(h:Mx i w sm pb RV cfs)(hE:Same (sb.map (·.1)) w w')(hn:∀p∈sb',p.1∈sb.map (·.1)\/w.heap.size<=p.1)(hi:∀x∈sb.map (·.1),x∈i):Mx (i++ids sb') w' sm pb RV cfs :=
  h.step hE hi λx hx=>by
    rcases mQ.1 hx with h1|h1
    ·exact .inl h1
    obtain⟨p, hp, rfl⟩ := nQ.1 h1;rcases hn p hp with h2|h2
    ·exact .inl (hi _ h2)
    exact .inr h2
theorem RX.nqL{ds:List D}{cs:List Value}(h:RX w0 i w ds cs)(hi:∀x∈ids sm,x∈i):RepL (Nq w0 sm w) w ds cs:=RepL.weaken (λ_ hb _=>⟨⟨hb.1,hb.2.1,hb.2.2.2⟩,λhm=>hb.2.2.1 (hi _ hm)⟩) h
theorem SlB.nq{e m n c:Nat}{A:Option Addr}{xs:List Value}{ds:List D}(h:SlB e m A n c xs sb)(hF:FR w0 E (pre++(sm++(post++(sb++bs_)))) w)(hk:∀p∈sb,w0.heap.size<=p.1)(hr:RX w0 L w ds xs)(hi:∀x∈ids sm,x∈L)(hn:ds.length=n):Rep (Nq w0 sm w) w (.slice ds) [.slice A n c]:=by
  refine h.repOf (λp hp=>?_) (hr.nqL hi) hn;have h1:=hF.own p (by simp[hp]);refine⟨h1.1,⟨hk p hp,Qa h1.1,h.soft (λq hq=>(hF.own q (by simp[hq])).1) p hp⟩,λhm=>?_⟩;obtain⟨q,hq,e⟩:=nQ.1 hm;have hd:=hF.desc;rw[List.pairwise_append]at hd;have h2:=(List.pairwise_append.1 hd.2.1).2.2 q hq p (by simp[hp]);exact h2 e.symm
theorem FR.rowS{S:Nat->Prop}{ds:List D}{l:List Value}(hF:FR w0 E bs_ w)(k:Nat){b n:Nat}{T:TypeId}(hi:bs_[k]? = some (b,.cells l.toArray T))(hr:RepL S w ds l)(hn:ds.length=n)(hm:n<=9223372036854775807):Rep (λx=>S x\/x=b) w (.slice ds) [W b n n] :=
  Rep.slice_mk hn.symm (gQ _) hm λ_=>⟨_,rfl,l,λj hj=>⟨hF.cellsAll k hi j hj,.inr rfl⟩,RepL.weaken (λ_ h _=>.inl h) hr⟩
end
theorem Same.step{E F:List Nat}{u w w':World}(h:Same E u w)(k:Same F w w')(hf:∀b∈F,b∈E\/u.heap.size<=b):Same E u w' :=
  ⟨k.os.trans h.os,k.tape.trans h.tape,k.output.trans h.output,fQ h.size k.size,λb hb hn=>(k.block b (Nat.lt_of_lt_of_le hb h.size) (λhm=>(hf b hm).elim hn Ca)).trans (h.block b hb hn)⟩
def Low(L:List Nat)(w:World):Prop:=∀x∈L,7<=x/\x<w.heap.size
theorem Low.ext{L E:List Nat}{w w':World}(h:Low L w)(hs:Same E w w'):Low L w':=λx hx=>⟨(h x hx).1,Nat.lt_of_lt_of_le (h x hx).2 hs.size⟩
theorem In.low{w0 w:World}{i L:List Nat}{sm bs_:List (Nat × Obj)}{pb:Nat}{RV:Value}{cfs:List Cf}{rl:List Rl}{path:List Str}{PA:Option Addr}{pc:Nat}{b l r:Option Tree}{x y z:Sv}(h:In rl i w0 sm pb RV cfs path PA pc b l r x y z)(hF:FR w0 (ids sm) bs_ w)(hL:∀x∈L,x∈bs_.map (·.1)\/x∈i:=by intro x hx;simp only[ids,jQ,List.map_cons,List.map_nil,qQ,mQ,oQ]at hx ⊢;grind):Low L w:=λx hx=>by
  rcases hL x hx with h1|h1
  ·refine⟨?_, hF.lt_ids h1⟩
   obtain⟨q,hq,rfl⟩:=nQ.1 h1;rcases (hF.own q hq).2 with h2|h2
   ·exact fQ h.g.size h2
   exact h.off _ h2
  exact⟨(h.mi.low x h1).1,Nat.lt_of_lt_of_le (h.mi.low x h1).2 hF.same.size⟩
theorem In.lt{w0 w:World}{i L:List Nat}{sm bs_:List (Nat × Obj)}{pb:Nat}{RV:Value}{cfs:List Cf}{rl:List Rl}{path:List Str}{PA:Option Addr}{pc:Nat}{b l r:Option Tree}{x y z:Sv}(h:In rl i w0 sm pb RV cfs path PA pc b l r x y z)(hF:FR w0 (ids sm) bs_ w)(hL:∀x∈L,x∈bs_.map (·.1)\/x∈i:=by intro x hx;simp only[ids,jQ,List.map_cons,List.map_nil,qQ,mQ,oQ]at hx ⊢;grind):∀x∈L,x<w.heap.size:=λx hx=>(h.low hF hL x hx).2
end Go.Scarf
