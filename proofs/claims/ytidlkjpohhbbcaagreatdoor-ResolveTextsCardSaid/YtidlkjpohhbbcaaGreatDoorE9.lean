/- A part of the proof. -/
import Derived.Test.YtidlkjpohhbbcaaGreatDoorE4
import Derived.Test.YtidlkjpohhbbcaaGreatDoorTd1
import Derived.Laws.Slices
set_option linter.all false
set_option maxHeartbeats 8000000
set_option maxRecDepth 10000
set_option synthInstance.maxHeartbeats 0
set_option synthInstance.maxSize 9999
namespace Go.Scarf
open List renaming length->aL
open Go.RowKit Go.Proofs Go.Proofs.Tryz
variable {ks l:List Str}{e i j m n sz t:Nat}{sb:List (Nat × Obj)}{A:Option Addr}{ρ:Operand->Value}{dst:Option Nat}{ty:TypeId}{aft:Array Edge}{g:Option (Nat × Bool)}{x y:Operand}{k:IntKind}
theorem EP:∀{ks:List Str}{xs:List Tree}{key:Str},key∈ks->∀h:ks.idxOf key<aL xs,Dh ks xs key=some (xs[ks.idxOf key]' h)
  | [],_,_,h,_=>absurd h Da
  | k::ks,[],key,_,h2=>absurd h2 Da
  | k :: ks, x :: xs, key, h, h2 => by
    rw[Dh];by_cases he:k=key
    ·have h0 : (k :: ks).idxOf key = 0 := by rw[List.idxOf_cons, he];simp
     rw[uQ he];simp only[h0,List.getElem_cons_zero]
    have hb : (k==key) = false := by simpa using he
    have h0:(k::ks).idxOf key=ks.idxOf key+1:=by rw[List.idxOf_cons,hb];simp
    have hk:key∈ks:=by
      rcases oQ.1 h with h|h
      ·exact absurd h.symm he
      exact h
    rw[tQ he,EP hk (by rw[h0]at h2;simpa using h2)];simp only[h0,List.getElem_cons_succ]
theorem at_look{xs:List Tree}{key:Str}{q:Nat}(hl:aL ks=aL xs)(h:atZ ks key=(q:Int)):∃hq:q<aL xs,Dh ks xs key=some xs[q]:=by grind [atZ,EP]
def rofT_c(s:Str)(w0:World):Calls prog 40 #[I s] w0 (Za λv w'=>v=.agg #[J 4,I s,aQ,aQ]/\Same [] w0 w'):=by
 refine Ea func40 ntmps40 ?_;intro hF;refine rn 3 ?_;rintro b1 w hb1 hF -;refine rn 5<|Ba (w':=w) (v:=.agg #[J 4,I s,aQ,aQ]) Ua ?_;refine rn 1 ?_;rintro w hF -;refine rn 3 ?_;exact⟨O,hF.same⟩
theorem Q_:∀a b:Str,Jf a b=decide (Lib.compareBytes a b = -1)
  | [],[]=>rfl
  | [],_::_=>rfl
  | _::_,[]=>rfl
  | c :: a, d :: b => by
    have ih:=Q_ a b;unfold Jf at ih ⊢;rw[Op.bytesLess,Lib.compareBytes,ih];by_cases h1:c<d
    ·rw[uQ h1]
     have:=UInt8.lt_iff_toNat_lt.1 h1;simp[h1]
    rw[tQ h1];by_cases h2:d<c
    ·rw[uQ h2]
     have:¬c=d:=λe=>by subst e;exact h1 h2
     simp[h1,this]
    rw[tQ h2];have h3:c=d:=UInt8.toNat.inj (by have a1:¬c.toNat<d.toNat:=λh=>h1<|UInt8.lt_iff_toNat_lt.2 h;have a2:¬d.toNat<c.toNat:=λh=>h2<|UInt8.lt_iff_toNat_lt.2 h;omega);simp[h3]
open Go.RowKit Go.Proofs Go.Maps
theorem O7(a b:Str):Jf a b=decide (a<b):=bytesLess_eq a b
theorem sortS_pw(ks:List Str):(Je ks).Pairwise (λa b=>leB a b=true):=by
  have tr:∀a b c:List UInt8,leB a b=true->leB b c=true->leB a c=true:=qK
  have tt:∀a b:List UInt8,(leB a b || leB b a)=true:=qK
  exact List.pairwise_mergeSort tr tt ks
theorem BV{a b:Str}(h:Jf a b=false):b<=a:=by grind [O7]
theorem YX(hp:l.Perm ((Je ks).drop j))(hm:m<aL l)(hmin:∀q (h:q<aL l),Jf l[q] l[m]=false):∃h:j<aL (Je ks),l[m]=(Je ks)[j]:=by
  have hl:=hp.length_eq;have hj:j<aL (Je ks):=qK
  refine⟨hj,?_⟩;rw[List.drop_eq_getElem_cons hj]at hp;have hpw:((Je ks).drop j).Pairwise (λa b=>leB a b=true):=by grind [sortS_pw]
  rw[List.drop_eq_getElem_cons hj,List.pairwise_cons]at hpw;have h1:l[m]∈(Je ks)[j]::(Je ks).drop (j+1):=qK
  have h2:(Je ks)[j]∈l:=qK
  obtain⟨q,hq,e⟩:=List.mem_iff_getElem.1 h2;have h3:=BV<|hmin q hq;grind
theorem GO(hp:l.Perm ((Je ks).drop j))(hm:m<aL l)(hj:j<aL (Je ks))(he:l[m]=(Je ks)[j]):(l.eraseIdx m).Perm ((Je ks).drop (j+1)):=by
  rw[List.drop_eq_getElem_cons hj]at hp;have h1:(l[m]::l.eraseIdx m).Perm l:=by grind [Ir]
  rw[he]at h1;exact (h1.trans hp).cons_inv
theorem XY(hm:m<aL l)(hi:i<aL l)(hmin:∀q (h:q<aL l),q<i->Jf l[q] l[m]=false)(hc:Jf l[i] l[m]=false):∀q (h:q<aL l),q<i+1->Jf l[q] l[m]=false:=qK
theorem min_new(hm:m<aL l)(hi:i<aL l)(hmin:∀q (h:q<aL l),q<i->Jf l[q] l[m]=false)(hc:Jf l[i] l[m]=true):∀q (h:q<aL l),q<i+1->Jf l[q] l[i]=false:=by grind [O7]
section
variable {P:Program}{w0 w:World}{Ds ids:List Nat}
theorem FR.noseg{bs:List (Nat × Obj)}(h:FR w0 Ds (bs++(sb++[])) w):FR w0 Ds bs w:=h.sub (List.sublist_append_left _ _)
theorem QV{c:Nat}{bs:List (Nat × Obj)}{es:List Value}{S:Nat->Prop}{wx:World}(hF:FR w0 [] (bs++(sb++[])) w)(hS:SlB e 1 A n c es sb)(hr:RepL S wx (ks.map Uj) es)(hn:aL ks=n) :
    RX w0 (bs.map (·.1)) w [Ee ks] [.slice A n c]:=by
  refine .one<|hS.repOf (λp hp=>?_) hr.lits (aS hn);have h1:=hF.own p bJ;have h2:∃cur,p=(p.1,.cells cur e):=by
    rcases hS.2 with ⟨-,-,rfl⟩|⟨g,cur,-,rfl,-⟩
    ·cases hp
    grind
  obtain⟨cur,h2⟩:=h2;refine⟨h1.1,?_,Pa h1.1,λhm=>?_,?_⟩
  ·rcases h1.2 with h3|h3
   ·exact h3
   cases h3
  ·obtain⟨q, hq, e1⟩ := nQ.1 hm
   have:=(List.pairwise_append.1 hF.desc).2.2 q hq p bJ;exact this e1.symm
  rw[h2]at h1;exact⟨cur,e,h1.1⟩
theorem Kg{ad:Addr}{c:Nat}(h:RX w0 ids w [Ee l] [.slice A n c])(hA:A=some ad):∀q (hq:q<aL l),w.cell? (ad.add (q*1))=some (I (l[q])):=λq hq=>by
  obtain⟨ad',hA',hc,-⟩:=h.rep.str_elem hq;grind
theorem R0{c:Nat}(h:RX w0 ids w [Ee l] [.slice A n c])(hl:0<aL l):∃ad,A=some ad:=by
  obtain⟨ad,hA,-⟩:=h.rep.str_elem hl;grind
def FE{t e:TypeId}(h:P.underlying t=some (.slice e)):P.elem t=e:=by
  unfold Program.elem;rw[h]
def ZU{pos:String}{z:Operand}{c:Nat}{k2:IntKind}(m:Nat)(ht:Ug P t e sz)(hx:ρ x=.slice A n c)(hy:ρ y=.int k (m:Int))(hz:ρ z=.int k2 (m:Int))(hm:m<=c) :
    (execOp ρ ⟨dst,.slice t x none (some y) (some z),ty,pos,aft,g⟩).run P w=.ok (.value (.slice A m m)) w:=by
  have he:=FE ht.1;have ht':P.underlying t=some (.slice<|P.elem t):=by rw[he];exact ht.1
  have h:=run_slice_hm (P:=P) w t A n c ht' k k2 m m Aa Aa Aa;have hs:(sizeOf<|P.elem t).run P w=.ok sz w:=by rw[he];exact ht.2 w
  rw[hs]at h;have e1:sliced A 0 (m:Int).toNat (m:Int).toNat sz=.slice A m m:=by
    unfold sliced;simp only[Int.toNat_natCast,Nat.zero_mul,Nat.sub_zero];split
    ·rfl
    cases A <;> simp[Ln]
  simp only[execOp,Option.map_none,Option.map_some,hx,hy,hz,run_sliceAt_slice w t _ _ _ _ ht',Sem.run_bind,h,Result.andThen,e1];rfl
def Gq{pos:String}{c:Nat}(m:Nat)(ht:Ug P t e sz)(hx:ρ x=.slice A n c)(hy:ρ y=.int k (m:Int))(hm:m<=n) :
    (execOp ρ ⟨dst,.slice t x (some y) none none,ty,pos,aft,g⟩).run P w=.ok (.value (.slice (if c=m then A else A.map (·.add (m*sz))) (n-m) (c-m))) w:=by
  have he:=FE ht.1;have ht':P.underlying t=some (.slice<|P.elem t):=by rw[he];exact ht.1
  have h:=run_slice_l (P:=P) w t A n c ht' k m Aa Aa;have hs:(sizeOf<|P.elem t).run P w=.ok sz w:=by rw[he];exact ht.2 w
  rw[hs]at h;simp only[execOp,Option.map_none,Option.map_some,hx,hy,run_sliceAt_slice w t _ _ _ _ ht',Sem.run_bind,h,Result.andThen,sliced,Int.toNat_natCast];rfl
theorem erase_eq{α:Type}(l:List α)(m:Nat):l.eraseIdx m=l.take m++l.drop (m+1):=qK
theorem append_left{ty bytes:Nat}{c:Nat}(hE:Elems P t e 1 bytes)(hL:RX w0 ids w [Ee l] [.slice A n c])(hm:m<n)(hids:∀b∈ids,b<w.heap.size)(hw:w0.heap.size<=w.heap.size)(h63:n<=4611686018427387904)(hb:n*bytes<=140737488355328) :
    ∃A' c' w',(Builtin.append_ #[t,t] ty #[.slice A m m,.slice (if c=m+1 then A else A.map (·.add ((m+1)*1))) (n-(m+1)) (c-(m+1))]).run P w=.ok (.slice A' (n-1) c') w'/\RX w0 ids w' [Ee (l.eraseIdx m)] [.slice A' (n-1) c']/\Same [] w w':=by
  have hn:n=aL l:=by have:=hL.rep.slice_len;simpa using this.1
  have hcap:=hL.rep.slice_len.2;obtain⟨ad,hA⟩:=R0 hL Aa;subst hA;have hc:=Kg hL rfl;have hlen:aL (l.eraseIdx m)=n-1:=qK
  obtain⟨i,z,hi,hz,h2,h3,h4⟩:=hE.info;have hlits:∀(S:Nat->Prop)(wx:World)(q:List Str),(∀s∈q,aL s<=9223372036854775807)->RepL S wx (q.map Uj) (q.map λs=>Value.string<|bs s):=by
    intro S wx q
    induction q with
    | nil=>grind [RepL.nil_mk]
    | cons s q ih=>exact λh=>RepL.cons_mk (Rep.lit_mk (v:=I s)<|h s Da)<|ih λx hx=>h x wM
  have hls:∀s∈l,aL s<=9223372036854775807:=by
    intro s hs;obtain⟨q,hq,rfl⟩:=List.mem_iff_getElem.1 hs;obtain⟨_,_,_,h⟩:=hL.rep.str_elem hq;exact h
  by_cases hk:n=m+1
  ·
   refine⟨some ad,m,w,?_,?_,Same.refl _ _⟩
   ·have hz0 : n-(m + 1) = 0 := by omega
    rw[hz0,show n-1=m by omega];have hf:∀A2 c2,(Builtin.firstCells i.size 0<|.slice A2 0 c2).run P w=.ok #[] w:=by
      intro A2 c2;cases A2 <;> simp[Builtin.firstCells,loadCells,loadCellsFrom]
    simp[Builtin.append_,run_underlying hE.ht,sizeOf,typeInfo,hi,Builtin.lenOf,hf,storeCells]
   have e1 : l.eraseIdx m = l.take m := by grind
   rw[e1,show n-1=m by omega];refine .one<|Rep.slice_mk qM (gQ _) Aa λhne=>?_;obtain⟨A',c',hA',_,_,h6⟩:=Rep.slice_inv hL.rep;simp only[List.cons.injEq,Value.slice.injEq,and_true]at hA';obtain⟨rfl,_,_⟩:=hA';obtain⟨ad',hA2,es,hce,hre⟩:=h6 kF;obtain rfl:=lQ hA2;have h0:0<aL es:=by
     rcases Nat.eq_zero_or_pos (aL es) with h|h
     ·have : es = [] := by grind
      subst this;have h7:=hre.length;have hz:∀q:List Str,Gc.sizeL (q.map Uj)=aL q:=by
        intro q
        induction q with
        | nil=>rfl
        | cons a q ih =>
          rw[lZ,Gc.sizeL,ih,kQ];grind [Uj,Gc]
      grind
     exact h
   refine⟨ad,O,(l.take m).map (λs=>Value.string<|bs s),λq hq=>⟨?_,(hce 0 h0).2⟩,hlits _ _ _ λs hs=>hls s<|List.mem_of_mem_take hs⟩;grind
  have hcm:¬c=m+1:=Aa
  have hold:∀j v,((l.take m).map (λs=>Value.string<|bs s))[j]? = some v->w.cell? (ad.add j)=some v:=qK
  have hnew:∀j v,((l.drop<|m+1).map (λs=>Value.string<|bs s))[j]? = some v->w.cell? ((ad.add<|(m+1)*1).add j)=some v:=by
    intro j v hj;rw[List.getElem?_map]at hj;cases hg:(l.drop<|m+1)[j]? with
    | none =>
      rw[hg]at hj;cases hj
    | some s =>
      rw[hg]at hj;obtain⟨hj1,hj2⟩:=List.getElem?_eq_some_iff.1 hg;have hq:m+1+j<aL l:=by simp at hj1;omega
      have h8:=hc (m+1+j) hq;rw[Nat.mul_one]at h8;rw[Jo,Nat.mul_one,h8];have:s=l[m+1+j]:=by rw[<-hj2];simp
      simp only[Option.map_some,Option.some.injEq]at hj;rw[<-hj,this]
  have hr:=run_append_grow (P:=P) w t ty e i z hE.ht hi hz ad m m ((l.take m).map λs=>Value.string<|bs s) (by rw[h2];simp;omega) hold (ad.add<|(m+1)*1) (n-(m+1)) (c-(m+1)) ((l.drop<|m+1).map λs=>Value.string<|bs s) (by rw[h2];simp;omega) hnew Aa Aa
    (growslice_fits Aa (by rw[h3];exact fQ (Nat.mul_le_mul_right _ Aa) hb))
  rw[tQ hcm];simp only[Option.map_some];have en:m+(n-(m+1))=n-1:=Aa
  rw[en]at hr;have hsm:=(Same.drew w).trans (Same.alloc w.drew<|.cells (((l.take m).map λs=>Value.string<|bs s).toArray++((l.drop<|m+1).map λs=>Value.string<|bs s).toArray++Builtin.zeroCells z.cells (grownCap w (n-1) m e-(n-1))) e);refine⟨_,_,_,hr,?_,hsm⟩;have hge:=grownCap_ge w (n-1) m e;have hcm2:grownCap w (n-1) m e<=maxLen:=grownCap_le_maxLen w (n-1) m e qN;simp only[maxLen]at hcm2;refine .one<|Rep.slice_mk (by simp[hlen]) hge Aa λ_=>?_;have hhe:=heap_alloc_new w.drew<|.cells (((l.take m).map λs=>Value.string<|bs s).toArray++((l.drop<|m+1).map λs=>Value.string<|bs s).toArray++Builtin.zeroCells z.cells (grownCap w (n-1) m e-(n-1))) e;refine⟨_,O,(l.eraseIdx m).map (λs=>Value.string<|bs s),λq hq=>⟨?_,?_⟩,hlits _ _ _ λs hs=>hls s<|List.mem_of_mem_eraseIdx hs⟩
  ·rw[Te, Nat.zero_add, cell_of_row _ w.heap.size q _ e (0, 0) hhe]
   have hx:((l.eraseIdx m).map λs=>Value.string<|bs s)=((l.take m).map λs=>Value.string<|bs s)++((l.drop<|m+1).map λs=>Value.string<|bs s):=by rw[erase_eq,jQ]
   rw[<-List.getElem?_eq_getElem hq,hx];rw[hx]at hq;rw[Array.getElem?_append_left (by simp at hq ⊢;omega)];simp
  refine⟨by show w0.heap.size <= w.heap.size;exact hw, by show w.heap.size<_;exact Pa hhe, λhm => ?_, ⟨_, e, hhe⟩⟩;have:=hids _ hm;exact absurd this (by show ¬w.heap.size<w.heap.size;omega)
end
def RM(x:Tree):Prop:=∀S w0 cs,Rep S w0 (Na x) cs->Uc nodeB x=true->La x<=1000000000->GF 86 #[.agg cs.toArray] (Na (Oe x)) w0
def WT(h:j<aL ks):(ks.take (j+1)).map (λs=>Value.string (bs s))=(ks.take j).map (λs=>Value.string (bs s))++[Value.string (bs ks[j])]:=by
  rw[iQ h,jQ];rfl
theorem ZB{S:Nat->Prop}{wx:World}:∀{q:List Str},(∀s∈q,aL s<=9223372036854775807)->RepL S wx (q.map Uj) (q.map λs=>Value.string (bs s))
  | [],_=>RepL.nil_mk
  | s::q,h=>RepL.cons_mk (Rep.lit_mk (v:=I s)<|h s Da)<|ZB λx hx=>h x wM
theorem ZL(k:Int)(t:Str)(ks:List Str)(xs:List Tree)(ih:∀x,x∈xs->RM x):RM (.node k t ks xs):=by
 intro S w0 cs hR hnx hsz;have hR:=hR.old;have hkl_:=CR _ hnx;rw[Rg]at hkl_;rw[La]at hsz hkl_;have hxn:=Pf xs;have hnx:=Xe hnx;obtain⟨A,c,B,e,rfl,hk,ht,hK,hX⟩:=hR.tree_inv;have hXl:=hX.slice_len;have hKn:k=6->aL ks=aL xs:=λe=>(Dv<|e▸hnx.1).2;obtain⟨eK,hrK,hKl,hKc⟩:=hK.slice_open<|Ez ks;have hks2:∀s∈Je ks,aL s<=9223372036854775807:=λs hs=>by obtain⟨q,hq,rfl⟩:=List.mem_iff_getElem.1<|Jn.1 hs;obtain⟨_,_,_,h⟩:=hK.str_elem hq;exact h
 refine Ea func86 ntmps86 ?_;intro hF;refine rn 3 ?_;rintro b1 w hb1 hF -;refine rn 1 ?_;rintro b2 w hb2 hF -;refine rn 8<|Ba (w':=w) (v:=.agg #[J k,I t,aQ,aQ]) Ua ?_;refine rn 1 ?_;rintro b3 w hb3 hF -;refine rn 4<|X5 0 hF (Mj fX sizeOf9) ?_;rintro b4 w hb4 hF -;refine rn 2 ?_;have hS0:SlB 9 1 (some ⟨b4,0,none⟩) 0 0 [] [(b4,.cells #[] 9)]:=⟨Da,.inr ⟨b4,#[],rfl,rfl,gQ _,dZ _,Da,Da⟩⟩;have hF:=hF.toseg 0 rfl;refine Vk [(b3,.cells #[J k,I t,aQ,aQ] 36),(b2,.cells #[J 0,I [],aQ,aQ] 36),(b1,.cells #[J k,I t,.slice A (aL ks) c,.slice B (aL xs) e] 36)] [] (news:=eK) (len':=aL ks) (ys:=eK) I2 hF hS0 rfl rfl (by rw[hKl]) (λhk=>by obtain⟨ad,hA,hc⟩:=hKc hk;exact⟨ad,hA,Kc<|hF.cells0 hc⟩) (Ig hrK.one_) qN (Nat.zero_add _) (rfl) Aa ?_;intro A0 c0 a_0 w hS0_a hF hE hnew;refine rn 5 ?_;have hL:RX w0 [b3,b2,b1] w [Ee ks] [.slice A0 (aL ks) c0]:=QV hF hS0_a hrK rfl;have hF:=hF.noseg;refine Sa (λμ σ w=>∃(j:Nat),∃(l:List Str),∃(nl:Nat),∃(AL:Option Addr),∃(cl:Nat),∃(AK:Option Addr),∃(cK:Nat),∃(AI:Option Addr),∃(cI:Nat),∃(sq:List (Nat × Obj)),∃(si:List (Nat × Obj)),∃(cs1:List Value),μ=nl+1/\(j<=aL ks)/\(k≠6->j=0)/\(nl=aL l)/\(l.Perm<|(Je ks).drop j)/\(RX w0 ([b3,b2,b1]++(sq.map (·.1)++si.map (·.1))) w [Ee l] [.slice AL nl cl])/\(SlB 9 1 AK j cK (((Je ks).take j).map λs=>Value.string<|bs s) sq)/\(SlB 36 4 AI j cI cs1 si)/\(RX w0 ([b3,b2,b1]++(sq.map (·.1)++si.map (·.1))) w (Hc<|(E0 ks xs).take j) cs1)/\AllEq σ [(1,V b1),(2,V b2),(3,V b3),(4,.slice AL nl cl)]/\FR w0 [] ([(b3,.cells #[J k,I t,.slice AK j cK,.slice AI j cI] 36),(b2,.cells #[J 0,I [],aQ,aQ] 36),(b1,.cells #[J k,I t,.slice A (aL ks) c,.slice B (aL xs) e] 36)]++(sq++(si++[]))) w) _ ⟨0,ks,aL ks,_,_,none,0,none,0,[],[],[],O,dZ _,λ_=>rfl,O,by rw[List.drop_zero];exact (Vn ks).symm,aS hL,SlB.nil _ _,SlB.nil _ _,RX.nil,Fz,hF⟩ ?_
 rintro μ σ w ⟨j,l,nl,AL,cl,AK,cK,AI,cI,sq,si,cs1,rfl,hj,hk6,hnl,hlp,hL,hSq,hSi,hDX,hzz,hF⟩;have hLc:=hL.rep.slice_len.2;refine Wf hzz 8 ⟨λhg1=>?_,λhg1=>?_⟩;refine rn 7 ⟨λhc0=>?_,λhc0=>?_⟩;refine rn 15 ?_;have h6:k=6:=Aa
 refine Sa (λμ σ w=>∃(m:Nat),∃(i:Nat),μ=nl-i/\(m<aL l)/\(i<=nl/\1<=i)/\(RX w0 ([b3,b2,b1]++(sq.map (·.1)++si.map (·.1))) w [Ee l] [.slice AL nl cl])/\(RX w0 ([b3,b2,b1]++(sq.map (·.1)++si.map (·.1))) w (Hc<|(E0 ks xs).take j) cs1)/\(∀(hm:m<aL l) q (h:q<aL l),q<i->Jf l[q] l[m]=false)/\AllEq σ [(1,V b1),(2,V b2),(3,V b3),(4,.slice AL nl cl),(5,J<|(m:Int)),(6,J<|(i:Int))]/\FR w0 [] ([(b3,.cells #[J k,I t,.slice AK j cK,.slice AI j cI] 36),(b2,.cells #[J 0,I [],aQ,aQ] 36),(b1,.cells #[J k,I t,.slice A (aL ks) c,.slice B (aL xs) e] 36)]++(sq++(si++[]))) w) _ ⟨0,1,rfl,Aa,Aa,hL,hDX,(λhm q h hq=>by obtain rfl:q=0:=Aa;rw[O7,decide_eq_false_iff_not];exact List.lt_irrefl _),ae6,hF⟩ ?_;rintro μ σ w ⟨m,i,rfl,hm,hi,hL,hDX,hmin,hzz,hF⟩;refine Wf hzz 10 ⟨λhc1=>?_,λhc1=>?_⟩;refine rn 5 ?_;obtain⟨ad,hAd⟩:=R0 hL Aa;refine Gb (.of []) (bQ [0,1,2,3,4,5,6,7,8] .nil) hF ?_;intro w hF hE;have hL:=hL.ext hE;have hDX:=hDX.ext hE;refine⟨λwq=>FR w0 [] [(b3,.cells #[J k,I t,.slice AK j cK,.slice AI j cI] 36),(b2,.cells #[J 0,I [],aQ,aQ] 36),(b1,.cells #[J k,I t,.slice A (aL ks) c,.slice B (aL xs) e] 36)] wq/\∀q (h:q<aL l),wq.cell? (ad.add<|q*1)=some (I<|l[q]),⟨hF.mid 0 3,Kg hL hAd⟩,?_⟩;refine rn 2 ?_;refine Ga O (v:=.pointer<|some<|ad.add<|i*1) (λw hC=>Ca (i:=(i:Int)) Ii hAd)<|Ga O (v:=I<|(l[i]' Aa)) (λw hC=>Xa sZ<|hC.2 i Aa) ?_;refine rn 2 ?_;refine Ga O (v:=.pointer<|some<|ad.add<|m*1) (λw hC=>Ca (i:=(m:Int)) Ii hAd)<|Ga O (v:=I<|(l[m]' Aa)) (λw hC=>Xa sZ<|hC.2 m Aa) ?_;refine rn 4 ⟨λhc2=>?_,λhc2=>?_⟩;refine rn 8<|Zb (Wd<|((i+1:Nat):Int)) ?_;refine rn 2<|Ha ⟨_,?_,i,i+1,O,Aa,Aa,hL,hDX,λ_=>min_new hm Aa (hmin hm) qW,Va,hF⟩;omega;refine rn 5<|Zb (Wd<|((i+1:Nat):Int)) ?_
 refine rn 2<|Ha ⟨_,?_,m,i+1,O,Aa,Aa,hL,hDX,λ_=>XY hm Aa (hmin hm) qW,Va,hF⟩;omega;refine rn 3 ?_;obtain⟨hjs,hmj⟩:=YX hlp (m:=m) hm λq h=>hmin hm q h Aa;obtain⟨ad,hAd⟩:=R0 hL Aa;refine Gb (.of [9]) (bQ [0,1,2,3,4,5]<|.act 6<|.act 7<|.free 8<|.act 9 .nil) hF ?_;intro w hF hE;have hL:=hL.ext hE;have hDX:=hDX.ext hE;refine⟨λwq=>FR w0 [] [(b3,.cells #[J k,I t,.slice AK j cK,.slice AI j cI] 36),(b2,.cells #[J 0,I [],aQ,aQ] 36),(b1,.cells #[J k,I t,.slice A (aL ks) c,.slice B (aL xs) e] 36)] wq/\∀q (h:q<aL l),wq.cell? (ad.add<|q*1)=some (I<|l[q]),⟨hF.mid 0 3,Kg hL hAd⟩,?_⟩;refine rn 4 ?_;refine Ga O (v:=.pointer<|some<|ad.add<|m*1) (λw hC=>Ca (i:=(m:Int)) Ii hAd)<|Ga O (v:=I<|(l[m]' Aa)) (λw hC=>Xa sZ<|hC.2 m Aa) ?_;refine Js 1 O hF (Md (cs:=#[I<|(l[m]' Aa)]) fX sizeOf9 zeroValue9 Ja Ja Ua) ?_;intro b5 w hb5 hF hE;have hL:=hL.alloc hE hb5;have hDX:=hDX.alloc hE hb5;refine⟨⟨hF.mid 1 3,Kg hL hAd⟩,?_⟩;refine Yk [(b5,.cells #[I<|(l[m]' Aa)] 9),(b3,.cells #[J k,I t,.slice AK j cK,.slice AI j cI] 36),(b2,.cells #[J 0,I [],aQ,aQ] 36),(b1,.cells #[J k,I t,.slice A (aL ks) c,.slice B (aL xs) e] 36)] (si++[]) (news:=[I<|(l[m]' Aa)]) (len':=j+1) (ys:=((Je ks).take (j+1)).map (λs=>Value.string<|bs s)) O I2 hF hSq O O (O) (λ_=>⟨_,O,Kc<|hF.cellsAll 0 O⟩) zB qN (O) (by rw[WT hjs,<-hmj]) Aa ?_;intro A2 c2 q_2 w hS2_q hF hE hnew;have hL:=hL.step (ids':=[b5,b3,b2,b1]++(q_2.map (·.1)++si.map (·.1))) hE qK qK;have hDX:=hDX.step (ids':=[b5,b3,b2,b1]++(q_2.map (·.1)++si.map (·.1))) hE qK qK;refine⟨⟨hF.mid 1 3,Kg hL hAd⟩,?_⟩;refine rn 2 ?_;intro w hF hE;have hL:=hL.store hE qK;have hDX:=hDX.store hE qK
 refine rn 3<|Gb (.of [16]) (bQ [0,1,2,3,4,5,6,7,8]<|.act 9<|.free 10<|.free 11<|cQ [12,13,14]<|.free 15<|.act 16 .nil) hF ?_;intro w hF hE;have hL:=hL.ext hE;have hDX:=hDX.ext hE;refine⟨λwq=>FR w0 [] [(b5,.cells #[I<|(l[m]' Aa)] 9),(b3,.cells #[J k,I t,.slice (A2) (j+1) c2,.slice AI j cI] 36),(b2,.cells #[J 0,I [],aQ,aQ] 36),(b1,.cells #[J k,I t,.slice A (aL ks) c,.slice B (aL xs) e] 36)] wq/\∀q (h:q<aL l),wq.cell? (ad.add<|q*1)=some (I<|l[q]),⟨hF.mid 0 4,Kg hL hAd⟩,?_⟩;refine rn 7 ?_;refine Ga O (v:=.pointer<|some<|ad.add<|m*1) (λw hC=>Ca (i:=(m:Int)) Ii hAd)<|Ga O (v:=I<|(l[m]' Aa)) (λw hC=>Xa sZ<|hC.2 m Aa) ?_;refine Lk (at_c k t ks xs (l[m]'_) _ _ _<|hF.rep hR) ?_;rintro _ w ⟨rfl,hE⟩;obtain⟨q,hq⟩:∃q:Nat,atZ ks (l[m]' Aa)=(q:Int):=by have hmem:l[m]' Aa∈ks:=(by rw[hmj];exact Jn.1<|eQ hjs);refine⟨ks.idxOf<|l[m]' Aa,?_⟩;rw[atZ,uQ hmem]
 rw[hq];obtain⟨hqx,hlook⟩:=at_look (xs:=xs) (hKn h6) hq;rw[hmj]at hlook;have hF:=hF.ext hE;have hL:=hL.ext hE;have hDX:=hDX.ext hE;refine⟨⟨hF.mid 0 4,Kg hL hAd⟩,?_⟩;obtain⟨ad3,cs3,hA3,hl3,hk3,ZO⟩:=hX.tree_elem (i:=q) hqx;have ho3:=ZO.one_;refine Ga O (v:=.pointer<|some<|ad3.add<|q*4) (λw hC=>Ca (i:=(q:Int)) Fd hA3)<|Ga O (v:=.agg<|List.toArray cs3) (λw hC=>Ma (l:=cs3) qZ uZ O hl3<|hC.1.cells0 hk3) ?_;refine Lk (ih (xs[q]' hqx) (eQ hqx) _ _ cs3 (hF.rep ZO) (hnx.2 _<|eQ hqx) (by have:=Td<|eQ hqx;omega)) ?_;rintro _ w ⟨ct,rfl,hRt,hE⟩;have hlt:aL ct=4:=hRt.length.trans<|Bb _;have hot:=hRt.one_;have hYX:=RX.made (ids:=[b5,b3,b2,b1]++(q_2.map (·.1)++si.map (·.1))) hF.same.size (λx hx=>hF.lt_ids qK) hRt;have hDX:=(hDX.ext hE).append hYX;have hL:=hL.ext hE;have hF:=hF.ext hE;clear hE hYX;refine⟨⟨hF.mid 0 4,Kg hL hAd⟩,?_⟩;refine Js 1 O hF (Cj (l:=ct) gX uZ kX Ja Ja O hlt) ?_;intro b6 w hb6 hF hE;have hL:=hL.alloc hE hb6;have hDX:=hDX.alloc hE hb6;refine⟨⟨hF.mid 1 4,Kg hL hAd⟩,?_⟩;refine Yk ([(b6,.cells (List.toArray ct) 36),(b5,.cells #[I<|(l[m]' Aa)] 9),(b3,.cells #[J k,I t,.slice (A2) (j+1) c2,.slice AI j cI] 36),(b2,.cells #[J 0,I [],aQ,aQ] 36),(b1,.cells #[J k,I t,.slice A (aL ks) c,.slice B (aL xs) e] 36)]++q_2) [] (news:=ct) (len':=j+1) (ys:=cs1++ct) O E2 hF hSi O O (by rw[hlt]) (λ_=>⟨_,O,Kc<|hF.cellsAll 0 O⟩) (Ig hot) qN (O) (O) Aa ?_;intro A4 c4 i_4 w hS4_i hF hE hnew;have hL:=hL.step (ids':=[b6,b5,b3,b2,b1]++(q_2.map (·.1)++i_4.map (·.1))) hE qK qK;have hDX:=hDX.step (ids':=[b6,b5,b3,b2,b1]++(q_2.map (·.1)++i_4.map (·.1))) hE qK qK;refine⟨⟨hF.mid 1 4,Kg hL hAd⟩,?_⟩;refine rn 2 ?_;intro w hF hE;have hL:=hL.store hE qK
 have hDX:=hDX.store hE qK;refine rn 2<|Gb (.of []) (bQ [0,1,2,3,4,5,6,7]<|.act 8<|.free 9 .nil) hF ?_;intro w hF hE;have hL:=hL.ext hE;have hDX:=hDX.ext hE;refine⟨λwq=>FR w0 [] [(b6,.cells (List.toArray ct) 36),(b5,.cells #[I<|(l[m]' Aa)] 9),(b3,.cells #[J k,I t,.slice (A2) (j+1) c2,.slice (A4) (j+1) c4] 36),(b2,.cells #[J 0,I [],aQ,aQ] 36),(b1,.cells #[J k,I t,.slice A (aL ks) c,.slice B (aL xs) e] 36)] wq,hF.mid 0 5,?_⟩;refine rn 3 ?_;refine Ga O (v:=.slice AL m m) (λw hC=>ZU m Ii O O O (by have:=hLc;omega)) ?_;refine rn 2 (CB O (Wd<|((m+1:Nat):Int)) (Ga O (v:=.slice (if cl=m+1 then AL else AL.map (·.add ((m+1)*1))) (nl-(m+1))<|cl-(m+1)) (λw hC=>Gq (m+1) Ii O O Aa) ?_));have hF:FR w0 [] ([(b6,.cells (List.toArray ct) 36),(b5,.cells #[I<|(l[m]' Aa)] 9),(b3,.cells #[J k,I t,.slice (A2) (j+1) c2,.slice (A4) (j+1) c4] 36),(b2,.cells #[J 0,I [],aQ,aQ] 36),(b1,.cells #[J k,I t,.slice A (aL ks) c,.slice B (aL xs) e] 36)]++(q_2++(i_4++[]))) w:=hF;have hnb:=hlp.length_eq;rw[zQ,Xd]at hnb;have hkx:=hKn h6;obtain⟨AL2,cl2,w2,hr2,hL2,hE⟩:=append_left (w:=w) (ty:=33) I2 hL (show m<nl by omega) (λb hb=>hF.lt_ids qK) hF.same.size Aa Aa;have hF:=hF.ext hE;have hDX:=hDX.ext hE;refine Ct O (Fq O O hr2) hF.su ?_;clear hE hr2;refine rn 3 ?_;refine Ha ⟨_,?_,j+1,l.eraseIdx m,nl-1,AL2,cl2,A2,c2,A4,c4,q_2,i_4,cs1++ct,O,by rw[Xd]at hjs;omega,λh=>absurd h6 h,by rw[List.length_eraseIdx,uQ Aa,<-hnl],GO hlp Aa hjs hmj,hL2.sub qK,hS2_q,hS4_i,by rw[GB hjs hlook];exact hDX.sub qK,Va,hF.drop 2⟩;omega;refine rn 9 (Sa (λμ σ w=>μ=0/\(RX w0 ([b3,b2,b1]++(sq.map (·.1)++si.map (·.1))) w [Ee l] [.slice AL nl cl])/\(RX w0 ([b3,b2,b1]++(sq.map (·.1)++si.map (·.1))) w (Hc<|(E0 ks xs).take j) cs1)/\AllEq σ [(1,V b1),(2,V b2),(3,V b3),(7,J<|(0:Int))]/\FR w0 [] ([(b3,.cells #[J k,I t,.slice AK j cK,.slice AI j cI] 36),(b2,.cells #[J 0,I [],aQ,aQ] 36),(b1,.cells #[J k,I t,.slice A (aL ks) c,.slice B (aL xs) e] 36)]++(sq++(si++[]))) w) _ ⟨O,hL,hDX,Fz,hF⟩ ?_)
 rintro μ σ w ⟨rfl,hL,hDX,hzz,hF⟩;refine Wf hzz 10 ⟨λhg5=>?_,λhg5=>?_⟩;refine rn 2<|Ba (v:=.bool false) (Cc (AR O O) Aa) ?_;refine rn 10 ?_;intro w hF hE;have hL:=hL.store hE qK;have hDX:=hDX.store hE qK;refine rn 3 ⟨_,O,?_,hF.same⟩;have h1:=hlp.length_eq;rw[zQ,Xd]at h1;have ej:j=aL ks:=Aa
 subst ej;rw[eZ (by rw[Oo];exact gQ _)]at hDX;rw[eZ (by rw[Xd];exact gQ _)]at hSq;rw[Oe,uQ (show k=6 by omega)];have hKX:RX w0 [] w ((Je ks).map Uj) _:=ZB hks2;exact Rep.tree_mk hk ht (hSq.rep (pre:=[_,_,_]) (post:=si++[]) hF hKX (by rw[rQ,Xd]))<|hSi.rep (pre:=[_,_,_]++sq) (post:=[]) (aS hF) hDX (by rw[Qe];exact Oo ..);refine rn 13 ?_;intro w hF hE;have hL:=hL.store hE qK;have hDX:=hDX.store hE qK;refine rn 3 ⟨_,O,?_,hF.same⟩;have h1:=hlp.length_eq;rw[zQ,Xd]at h1;have ej:j=aL ks:=Aa
 subst ej;rw[eZ (by rw[Oo];exact gQ _)]at hDX;rw[eZ (by rw[Xd];exact gQ _)]at hSq;rw[Oe,uQ (show k=6 by omega)];have hKX:RX w0 [] w ((Je ks).map Uj) _:=ZB hks2;exact Rep.tree_mk hk ht (hSq.rep (pre:=[_,_,_]) (post:=si++[]) hF hKX (by rw[rQ,Xd]))<|hSi.rep (pre:=[_,_,_]++sq) (post:=[]) (aS hF) hDX (by rw[Qe];exact Oo ..);refine rn 16 ?_;obtain rfl:j=0:=hk6 qW;simp only[List.take_zero,Hc]at hDX;obtain rfl:=RepL.nil_inv hDX;refine Sa (λμ σ w=>∃(i2:Nat),∃(AJ:Option Addr),∃(cJ:Nat),∃(sj:List (Nat × Obj)),∃(cs2:List Value),μ=aL xs-i2/\(i2<=aL xs)/\(SlB 36 4 AJ i2 cJ cs2 sj)/\(RX w0 ([b3,b2,b1]++(sq.map (·.1)++sj.map (·.1))) w (Hc<|Fe<|xs.take i2) cs2)/\AllEq σ [(1,V b1),(2,V b2),(3,V b3),(7,J<|(i2:Int))]/\FR w0 [] ([(b3,.cells #[J k,I t,.slice AK 0 cK,.slice AJ i2 cJ] 36),(b2,.cells #[J 0,I [],aQ,aQ] 36),(b1,.cells #[J k,I t,.slice A (aL ks) c,.slice B (aL xs) e] 36)]++(sq++(sj++[]))) w) _ ⟨0,AI,cI,si,[],O,dZ _,hSi,RX.nil,Fz,hF⟩ ?_;rintro μ σ w ⟨i2,AJ,cJ,sj,cs2,rfl,hi2,hSj,hDX,hzz,hF⟩;refine Wf hzz 10 ⟨λhg6=>?_,λhg6=>?_⟩;refine rn 7 ⟨λhc3=>?_,λhc3=>?_⟩;refine rn 4<|Gb (.of [11]) (bQ [0,1,2,3,4,5,6]<|cQ [7,8,9]<|.free 10<|.act 11 .nil) hF ?_;intro w hF hE;have hDX:=hDX.ext hE;refine⟨λwq=>FR w0 [] [(b3,.cells #[J k,I t,.slice AK 0 cK,.slice AJ i2 cJ] 36),(b2,.cells #[J 0,I [],aQ,aQ] 36),(b1,.cells #[J k,I t,.slice A (aL ks) c,.slice B (aL xs) e] 36)] wq,hF.mid 0 3,?_⟩;refine rn 5 ?_;obtain⟨ad7,cs7,hA7,hl7,hk7,hx7⟩:=hX.tree_elem (i:=i2) Aa;have ho7:=hx7.one_;refine Ga O (v:=.pointer<|some<|ad7.add<|i2*4) (λw hC=>Ca (i:=(i2:Int)) Fd hA7)<|Ga O (v:=.agg<|List.toArray cs7) (λw hC=>Ma (l:=cs7) qZ uZ O hl7<|hC.cells0 hk7) ?_;refine Lk (ih xs[i2] (eQ Aa) _ _ cs7 (hF.rep hx7) (hnx.2 _<|eQ Aa) (by have:=Td<|List.getElem_mem (l:=xs) (n:=i2) Aa;omega)) ?_
 rintro _ w ⟨ct,rfl,hRt,hE⟩;have hlt:aL ct=4:=hRt.length.trans<|Bb _;have hot:=hRt.one_;have hYX:=RX.made (ids:=[b3,b2,b1]++(sq.map (·.1)++sj.map (·.1))) hF.same.size (λx hx=>hF.lt_ids qK) hRt;have hDX:=(hDX.ext hE).append hYX;have hF:=hF.ext hE;clear hE hYX;refine⟨hF.su,?_⟩;refine Js 1 O hF (Cj (l:=ct) gX uZ kX Ja Ja O hlt) ?_;intro b7 w hb7 hF hE;have hDX:=hDX.alloc hE hb7;refine⟨hF.su,?_⟩;refine Yk ([(b7,.cells (List.toArray ct) 36),(b3,.cells #[J k,I t,.slice AK 0 cK,.slice AJ i2 cJ] 36),(b2,.cells #[J 0,I [],aQ,aQ] 36),(b1,.cells #[J k,I t,.slice A (aL ks) c,.slice B (aL xs) e] 36)]++sq) [] (news:=ct) (len':=i2+1) (ys:=cs2++ct) O E2 hF hSj O O (by rw[hlt]) (λ_=>⟨_,O,Kc<|hF.cellsAll 0 O⟩) (Ig hot) qN (O) (O) Aa ?_;intro A8 c8 i_8 w hS8_i hF hE hnew;have hDX:=hDX.step (ids':=[b7,b3,b2,b1]++(sq.map (·.1)++i_8.map (·.1))) hE qK qK;refine⟨hF.su,?_⟩;refine rn 2 ?_;intro w hF hE;have hDX:=hDX.store hE qK;refine rn 5<|Zb (Wd<|((i2+1:Nat):Int)) ?_;refine rn 2 ?_;refine Ha ⟨_,?_,i2+1,A8,c8,i_8,cs2++ct,O,Aa,hS8_i,by rw[Q1 Aa];exact hDX.sub qK,Va,hF.drop 1⟩;omega;refine rn 6 ?_;intro w hF hE;have hDX:=hDX.store hE qK;refine rn 3 ⟨_,O,?_,hF.same⟩;have ej:i2=aL xs:=Aa
 subst ej;rw[List.take_length]at hDX;rw[Oe,tQ qW];exact Rep.tree_mk hk ht (hSq.rep (pre:=[_,_,_]) (post:=sj++[]) hF (RX.nil (ids:=[])) O)<|hSj.rep (pre:=[_,_,_]++sq) (post:=[]) (aS hF) hDX (by rw[Qe,Xf,rQ]);refine rn 13 ?_;intro w hF hE;have hDX:=hDX.store hE qK;refine rn 3 ⟨_,O,?_,hF.same⟩;have ej:i2=aL xs:=Aa
 subst ej;rw[List.take_length]at hDX;rw[Oe,tQ qW];exact Rep.tree_mk hk ht (hSq.rep (pre:=[_,_,_]) (post:=sj++[]) hF (RX.nil (ids:=[])) O)<|hSj.rep (pre:=[_,_,_]++sq) (post:=[]) (aS hF) hDX (by rw[Qe,Xf,rQ])
def CX(x:Tree):RM x:=Tree.ind ZL x
end Go.Scarf
