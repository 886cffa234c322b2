/- A part of the proof. -/
import Derived.Test.YtidlkjpohhbbcaaGreatDoorP3
import Derived.Sort.Walk0
set_option linter.all false
set_option maxHeartbeats 8000000
set_option maxRecDepth 10000
namespace Go.Scarf
open Go.RowKit
theorem Tn(a b:Str):Qf a b=decide (a<b):=Go.Proofs.bytesLess_eq a b
structure Mm where
  pr:Str
  sd:Sd
def Ur(v:Tree):Bool:=decide (v.kind=0)&&(decide (v.text=[])&&(decide (v.keys=[])&&decide (v.items=[])))
def Ck(m:Mm):Bool:=Lib.validD m.pr&&(Sq m.sd 0&&(m.sd.has || Ur m.sd.val))
def Yp(t:List Mm)(i:Nat):Bool:=match t[i]? with
  | none=>true
  | some m => Ck m&&(match i with
    | 0=>true
    | j + 1 => match t[j]? with
      | none=>true
      | some q=>Qf q.pr m.pr)
def Te(t:List Mm):Bool:=(List.range t.length).all (Yp t)&&decide (t.length<=256)
def Lj(s:Sd):Sd:=if s.has then ⟨true,s.val⟩ else noS
def Xe(t:List Mm)(p:Str):Nat:=(t.takeWhile λm=>Qf m.pr p).length
def Qr(t:List Mm)(p:Str):Bool:=match t[Xe t p]? with|some m=>decide (m.pr=p)|none=>false
def Qe(t:List Mm)(c:Cf):Nat × Bool:=if (Uf c).2&&Te t then (Xe t (Uf c).1,Qr t (Uf c).1) else (0,false)
def Ef(t:List Mm)(c:Cf)(s:Sd):List Mm × Int :=
  if Te t&&((Uf c).2&&(Sq s c.cls && !(decide (c.cls=5) && !s.has))) then
    let p:=(Uf c).1
    let k:=Xe t p
    if Qr t p then (t.take k++⟨p,Lj s⟩::t.drop (k+1),0) else if t.length=256 then ([],11) else (t.take k++⟨p,Lj s⟩::t.drop k,0)
  else ([],1)
def Gg(t:List Mm)(c:Cf):List Mm × Bool:=if Te t then (if (Qe t c).2 then (t.take (Qe t c).1++t.drop ((Qe t c).1+1),true) else (t,false)) else ([],false)
def Ch(t:List Mm)(c:Cf):Sd × Bool:=if (Qe t c).2 then (match t[(Qe t c).1]? with|some m=>m.sd|none=>noS,true) else (noS,false)
def VY(t:List Mm):Prop:=t.Pairwise λa b=>a.pr<b.pr
theorem Ep{a b c:Str}(h1:a<b)(h2:b<c):a<c:=List.lt_trans h1 h2
theorem Zw{a:Str}:¬a<a:=List.lt_irrefl a
theorem FF{a b:Str}(h1:¬a<b)(h2:¬b<a):a=b:=List.le_antisymm (List.not_lt.1 h2) (List.not_lt.1 h1)
theorem asc_of:∀(t:List Mm),(∀i,Yp t i=true)->VY t/\∀m∈t,Ck m=true
  | [],_=>⟨List.Pairwise.nil,λ_ h=>(by cases h)⟩
  | m :: t, h => by
    have hm:Ck m=true:=by have:=h 0;simp only[Yp,List.getElem?_cons_zero,Bool.and_true]at this;exact this
    have ht:∀i,Yp t i=true:=λi=>by
      have h1:=h (i+1);unfold Yp at h1 ⊢;rw[List.getElem?_cons_succ]at h1;cases hi:t[i]? with
      | none=>rfl
      | some q =>
        rw[hi]at h1;simp only[Bool.and_eq_true]at h1 ⊢;refine⟨h1.1,?_⟩;cases i with
        | zero=>rfl
        | succ j=>simpa using h1.2
    obtain⟨h1,h2⟩:=asc_of t ht;refine⟨List.pairwise_cons.2 ⟨λq hq=>?_,h1⟩,λq hq=>?_⟩
    ·cases t with
     | nil=>cases hq
     | cons y t =>
       have hy:m.pr<y.pr:=by
         have:=h 1;simp only[Yp,List.getElem?_cons_succ,List.getElem?_cons_zero,Bool.and_eq_true,Tn,decide_eq_true_eq]at this;exact this.2
       rcases oQ.1 hq with rfl|hq
       ·exact hy
       exact Ep hy ((List.pairwise_cons.1 h1).1 q hq)
    rcases oQ.1 hq with rfl|hq
    ·exact hm
    exact h2 q hq
theorem asc_to{t:List Mm}(h:VY t)(hm:∀m∈t,Ck m=true):∀i,Yp t i=true:=λi=>by
  unfold Yp;cases hi:t[i]? with
  | none=>rfl
  | some m =>
    obtain⟨hlt,rfl⟩:=List.getElem?_eq_some_iff.1 hi;simp only[Bool.and_eq_true];refine⟨hm _ (eQ hlt),?_⟩;cases i with
    | zero=>rfl
    | succ j =>
      simp only;rw[List.getElem?_eq_getElem Aa];simp only[Tn,decide_eq_true_eq];exact List.pairwise_iff_getElem.1 h j (j+1) Aa hlt Aa
theorem Vh{t:List Mm}:Te t=true↔VY t/\(∀m∈t,Ck m=true)/\t.length<=256:=by
  unfold Te;rw[Bool.and_eq_true,List.all_eq_true,decide_eq_true_eq];constructor
  ·rintro⟨h, hl⟩
   have:=asc_of t λi=>by
     rcases Nat.lt_or_ge i t.length with hi|hi
     ·exact h i (List.mem_range.2 hi)
     unfold Yp;rw[List.getElem?_eq_none hi]
   exact⟨this.1,this.2,hl⟩
  rintro⟨h1, h2, h3⟩;exact⟨λi _=>asc_to h1 h2 i,h3⟩
theorem BS{t:List Mm}(h:VY t)(p:Str):(∀m∈t.take (Xe t p),m.pr<p)/\(∀m∈t.drop (Xe t p),¬m.pr<p)/\Xe t p<=t.length:=by
  unfold Xe
  induction t with
  | nil=>exact⟨λ_ h=>(by cases h),λ_ h=>(by cases h),gQ _⟩
  | cons x t ih =>
    obtain⟨h1,h2⟩:=List.pairwise_cons.1 h;obtain⟨i1,i2,i3⟩:=ih h2;rw[List.takeWhile_cons];cases hx:Qf x.pr p with
    | true =>
      have hx':x.pr<p:=by rw[Tn,decide_eq_true_eq]at hx;exact hx
      simp only[if_true,kQ,List.take_succ_cons,List.drop_succ_cons];refine⟨λm hm=>?_,i2,by omega⟩;rcases oQ.1 hm with rfl|hm
      ·exact hx'
      exact i1 m hm
    | false =>
      have hx':¬x.pr<p:=by rw[Tn,decide_eq_false_iff_not]at hx;exact hx
      simp only[Bool.false_eq_true,if_false,List.length_nil,List.take_zero,List.drop_zero];refine⟨λ_ h=>(by cases h),λm hm hlt=>?_,Nat.zero_le _⟩;rcases oQ.1 hm with rfl|hm
      ·exact hx' hlt
      exact hx' (Ep (h1 m hm) hlt)
def Vj(t:List Mm)(p:Str):Option Mm:=t.find? λm=>decide (m.pr=p)
theorem EW{t:List Mm}(h:VY t){p:Str}(hh:Qr t p=true):∃a m b,t=a++m::b/\a.length=Xe t p/\m.pr=p/\(∀q∈a,q.pr<p)/\∀q∈b,p<q.pr:=by
  unfold Qr at hh;obtain⟨c1,c2,c3⟩:=BS h p;cases hk:t[Xe t p]? with
  | none=>rw[hk]at hh;cases hh
  | some m =>
    rw[hk]at hh;obtain⟨hlt,hg⟩:=List.getElem?_eq_some_iff.1 hk;have hp:m.pr=p:=of_decide_eq_true hh;refine⟨t.take (Xe t p),m,t.drop (Xe t p+1),?_,by rw[List.length_take];omega,hp,c1,λq hq=>?_⟩
    ·conv => lhs;rw[<- List.take_append_drop (Xe t p) t]
     rw[List.drop_eq_getElem_cons hlt,hg]
    have hd : t.drop (Xe t p) = m :: t.drop (Xe t p + 1) := by rw[List.drop_eq_getElem_cons hlt, hg]
    have:=List.Pairwise.sublist (List.drop_sublist (Xe t p) t) h;rw[hd]at this;have:=(List.pairwise_cons.1 this).1 q hq
    rwa [hp]at this
theorem XU{t:List Mm}(h:VY t){p:Str}(hh:Qr t p=false):(∀q∈t.take (Xe t p),q.pr<p)/\∀q∈t.drop (Xe t p),p<q.pr:=by
  unfold Qr at hh;obtain⟨c1,c2,c3⟩:=BS h p;refine⟨c1,λq hq=>?_⟩;cases hk:t[Xe t p]? with
  | none =>
    rw[List.getElem?_eq_none_iff]at hk;rw[List.drop_eq_nil_of_le hk]at hq;cases hq
  | some m =>
    rw[hk]at hh;obtain⟨hlt,hg⟩:=List.getElem?_eq_some_iff.1 hk;have hp:¬m.pr=p:=of_decide_eq_false hh;have hd:t.drop (Xe t p)=m::t.drop (Xe t p+1):=by rw[List.drop_eq_getElem_cons hlt,hg]
    have hm:p<m.pr:=by
      have h1:=c2 m (by rw[hd];exact List.mem_cons_self);rcases Decidable.em (p<m.pr)with h2|h2
      ·exact h2
      exact absurd (FF h1 h2) hp
    have:=List.Pairwise.sublist (List.drop_sublist (Xe t p) t) h;rw[hd]at this hq;rcases oQ.1 hq with rfl|hq
    ·exact hm
    exact Ep hm ((List.pairwise_cons.1 this).1 q hq)
theorem G6{l:List Mm}{p:Str}(h:∀q∈l,q.pr≠p):Vj l p=none:=by
  unfold Vj;rw[List.find?_eq_none];intro q hq;simpa using h q hq
theorem GH(a b:List Mm)(p:Str):Vj (a++b) p=(Vj a p).or (Vj b p):=by unfold Vj;rw[List.find?_append]
theorem OC(m:Mm)(b:List Mm)(p:Str):Vj (m::b) p=if m.pr=p then some m else Vj b p:=by
  unfold Vj;rw[List.find?_cons];split <;> simp_all
theorem lt_ne{a b:Str}(h:a<b):a≠b:=λe=>Zw (e▸h)
theorem YK{t:List Mm}(h:VY t)(p:Str):Qr t p=(Vj t p).isSome/\(Qr t p=true->t[Xe t p]? = Vj t p):=by
  cases hh:Qr t p with
  | true =>
    obtain⟨a,m,b,e,ha,hp,h1,h2⟩:=EW h hh;have hl:Vj t p=some m:=by
      rw[e,GH,G6 λq hq=>lt_ne (h1 q hq),OC,if_pos hp];rfl
    rw[hl];refine⟨O,λ_=>?_⟩;rw[<-ha,e];simp
  | false =>
    obtain⟨h1,h2⟩:=XU h hh;have hl:Vj t p=none:=G6 λq hq=>by
      rw[<-List.take_append_drop (Xe t p) t]at hq;rcases mQ.1 hq with hq|hq
      ·exact lt_ne (h1 q hq)
      exact λe=>lt_ne (h2 q hq) e.symm
    rw[hl];exact⟨O,λh=>by cases h⟩
theorem MA{t:List Mm}{c:Cf}(hr:Te t=true)(hp:(Uf c).2=true):Ch t c=(match Vj t (Uf c).1 with|some m=>(m.sd,true)|none=>(noS,false)):=by
  have h:=YK (Vh.1 hr).1 (Uf c).1;unfold Ch Qe;rw[hp,hr];simp only[Bool.and_self,if_true];cases hl:Vj t (Uf c).1 with
  | none=>rw[hl]at h;rw[h.1];rfl
  | some m=>rw[hl]at h;have h1:=h.1;rw[h1,h.2 h1];rfl
open Go.RowKit Go.Proofs Go.Proofs.Tryz
theorem has_c(x:Tv)(w0:World):Calls prog 161 #[.agg (x.cells).toArray] w0 (Yc λv w'=>v=.agg #[.bool true,J (x.k),I (x.t),.slice x.A x.n x.c,.slice x.B x.m x.e]/\Same [] w0 w'):=by
 refine Fa func161 O ntmps161 Ab (Wb _) ?_;have hF:=FR.start w0 [];refine Ea (Ce hF O ?_);rintro b1 w hb1 hF -;refine Pc (cs:=#[.bool false,J 0,I [],aQ,aQ]) hF pX O ?_;rintro b2 w hb2 hF -;refine Lb (Xb (Bf aZ nZ O hF.F 1 O O) ?_);refine Ia (w':=w) (v:=.agg #[.bool true,J (x.k),I (x.t),.slice x.A x.n x.c,.slice x.B x.m x.e]) Qb (Ge hF oZ O O Pi ?_);rintro w hF -;refine Da (Db (Cb (La (Mg O (l:=[.bool true,J (x.k),I (x.t),.slice x.A x.n x.c,.slice x.B x.m x.e]) O cZ oZ O (hF.cellsAll 0 O)) ?_)));exact⟨O,hF.same⟩
structure SdOk (s:Sd):Prop where
  sz:Nb s.val<=1000000000
  ok:Tq s.val
theorem R7(s:Sd)(x:Sv)(S:Nat->Prop)(w0:World)(hX:Rep S w0 (Le s) x.cells)(hs:SdOk s)(hG:Gl w0):Calls prog 221 #[.agg x.cells.toArray] w0 (Yc λv w'=>∃y:Sv,v=.agg y.cells.toArray/\Rep (Btw w0 w') w' (Le (Bl s)) y.cells/\Same [] w0 w'):=by
 have hx:=Cd hX;refine Fa func221 O ntmps221 Ab (Wb _) ?_;have hF:=FR.start w0 [];refine Ea (Ce hF O ?_);rintro b1 w hb1 hF -;refine Pc (cs:=#[.bool false,J 0,I [],aQ,aQ]) hF pX O ?_;rintro b2 w hb2 hF -;refine Da (Ga (Ea (Ba (Mb Ni O) (Xb (X3 dZ O hF.F 1 O O) (Ba (Di O) (Da ?_))))));refine Jd O O (λhc0=>?_) (λhc0=>?_);have h0:s.has=false:=by rw[<-hx.1];simpa using hc0
 refine Ea (Ia (w':=w) (v:=.agg #[.bool false,J 0,I [],aQ,aQ]) Qb ?_);refine Ge hF oZ O O Pi ?_;rintro w hF -;refine Da (Db (Cb (La (Mg O (l:=[.bool false,J 0,I [],aQ,aQ]) O cZ oZ O (hF.cellsAll 0 O)) ?_)));have e:Bl s=noS:=by rw[Bl,if_neg (by rw[h0];decide)]
 rw[e];exact⟨⟨false,C4⟩,O,Ml,hF.same⟩;have h0:s.has=true:=by rw[<-hx.1];simpa using hc0
 refine Ka (Ha (Ea (Ba (Mb We O) (Ia (v:=.agg (x.v.cells).toArray) (Wa (l:=x.v.cells) aZ nZ O O (hF.part 1 1 O O)) ?_))));refine Eb (WS s.val hs.sz _ _ x.v.cells (hF.rep hx.2.2.2.2) hs.ok (hG.ext hF.same)) (Ma en_93 O O) ?_;rintro _ w ⟨ct,rfl,hRt,hE⟩;obtain⟨q,rfl,-⟩:=Vg hRt;have hYX:=RX.made (ids:=[b2,b1]) hF.same.size (λx hx=>hF.lt_ids (by grind)) hRt;have hF:=hF.ext hE;clear hE hRt;refine Eb (has_c q _) (Ma en_161 O O) ?_;rintro _ w ⟨rfl,hE⟩;have hF:=hF.ext hE;have hYX:=hYX.ext hE;refine Ge hF oZ O O Pi ?_;intro w hF hE;have hYX:=hYX.store hE (by grind);refine Da (Db (Cb (La (Mg O (l:=[.bool true,J (q.k),I (q.t),.slice q.A q.n q.c,.slice q.B q.m q.e]) O cZ oZ O (hF.cellsAll 0 O)) ?_)));have e:Bl s=⟨true,Vv s.val⟩:=by rw[Bl,if_pos h0]
 rw[e]
 ·exact⟨⟨true,q⟩,O,Xx (s:=⟨true,Vv s.val⟩) hYX.done,hF.same⟩
def T9(l:MapL)(k:Str)(v:Value):MapL:=match l.findIdx? (λx=>decide (x.1=k))with
  | some i=>l.set i (k,v)
  | none=>l++[(k,v)]
theorem U8{l:MapL}{k:Str}{i:Nat}(h:l.findIdx? (λx=>decide (x.1=k))=some i):∃hi:i<l.length,l[i].1=k:=by
  obtain⟨hi,h1,-⟩:=List.findIdx?_eq_some_iff_getElem.1 h;exact⟨hi,by simpa using h1⟩
theorem Nm(x:Str × Value)(l:MapL)(k:Str):Wh (x::l) k=if x.1=k then some x.2 else Wh l k:=by
  unfold Wh;rw[List.find?_cons];by_cases h:x.1=k <;> simp[h]
theorem IC(v:Value)(k k':Str):∀l:MapL,Wh (T9 l k v) k'=if k=k' then some v else Wh l k'
  | [] => by
    have e:T9 [] k v=[(k,v)]:=rfl;rw[e,Nm]
  | x :: l => by
    have ih:=IC v k k' l;unfold T9 at ih ⊢;rw[List.findIdx?_cons];by_cases h:x.1=k
    ·simp only[h, decide_true, if_true, List.set_cons_zero]
     rw[Nm,Nm];by_cases h2:k=k'
     ·rw[if_pos h2,if_pos h2]
     rw[if_neg h2,if_neg h2,if_neg (λe=>h2 (h▸e))]
    simp only[h, decide_false, Bool.false_eq_true, if_false];cases hf:l.findIdx? (λx=>decide (x.1=k))with
    | none =>
      rw[hf]at ih;simp only[Option.map_none,List.cons_append]at ih ⊢;rw[Nm,ih,Nm];by_cases h2:x.1=k'
      ·rw[if_pos h2,if_neg (λe=>h (h2.trans e.symm)),if_pos h2]
      rw[if_neg h2,if_neg h2]
    | some i =>
      rw[hf]at ih;simp only[Option.map_some,List.set_cons_succ]at ih ⊢;rw[Nm,ih,Nm];by_cases h2:x.1=k'
      ·rw[if_pos h2,if_neg (λe=>h (h2.trans e.symm)),if_pos h2]
      rw[if_neg h2,if_neg h2]
section
variable {P:Program}{R:Exit->Act->World->Prop}{n:Nat}{k:Kt}{s:Nat->Value}{w:World}{ops rest:List Oper}
variable {d:Nat}{ty:TypeId}{pos:String}{aft:Array Edge}{g:Option (Nat × Bool)}
variable {w0:World}{Ds:List Nat}{bs_:List (Nat × Obj)}{ρ:Operand->Value}{dst:Option Nat}
theorem EI(l:MapL){i:Nat}{v:Value}{key:Str}(hi:i<l.length) :
    ((Rc l 0).toArray.modify i λe=>{ e with key:=I key,val:=v })=(Rc (l.set i (key,v)) 0).toArray:=by
  apply Array.ext
  ·simp[Fi]
  intro q h1 h2;have hq:q<l.length:=by simpa[Fi]using h1
  have hq2:q<(l.set i (key,v)).length:=by rw[List.length_set];exact hq
  have e1:=Vu l 0 q hq;have e2:=Vu (l.set i (key,v)) 0 q hq2;rw[Array.getElem_modify];simp only[List.getElem_toArray,e1,e2];by_cases e:i=q
  ·subst e
   rw[if_pos rfl];simp
  rw[if_neg e];simp[List.getElem_set_ne e]
theorem OW{t kt e b:Nat}{x y z:Operand}{l:MapL}{key:Str}{v:Value}(ht:P.underlying t=some (.map kt e))(hk:P.underlying kt=some .string)
    (hx:ρ x=.map (some b)) (hy:ρ y=I key) (hv:ρ z=v) (hb:w.heap[b]? = some (Si l)) :
    (execOp ρ ⟨dst,.mapUpdate t x y z,ty,pos,aft,g⟩).run P w=.ok .skip { w with heap:=w.heap.setIfInBounds b (Si (T9 l key v)) }:=by
  unfold T9;cases hf:l.findIdx? (λx=>decide (x.1=key))with
  | none =>
    have hn:Wh l key=none:=by rw[<-Pw,hf];rfl
    exact M4 ht hk hx hy hv hb hn
  | some i =>
    obtain⟨hi,hik⟩:=U8 hf;have hfk:(l.findIdx? (λy=>decide (y.1=key))).bind (λj=>(l[j]?).map λy=>(j,y.2))=some (i,l[i].2):=by
      rw[hf];simp[hi]
    have hs:=S6 (P:=P) (o:=Si (l.set i (key,v))) hb ⟨_,_,rfl⟩;have ho:Si (l.set i (key,v))=.map ((Rc l 0).toArray.modify i λe=>{ e with key:=I key,val:=v }) l.length:=by
      rw[EI l hi,Si];simp
    rw[ho]at hs ⊢;have hes:(((Rc l 0).toArray[i]?).map (·.key)).getD (I key)=I key:=by
      have e1:=Vu l 0 i hi;rw[List.getElem?_toArray,List.getElem?_eq_getElem (by rw[Fi];exact hi),e1];show Value.string (bs l[i].1)=_;rw[hik]
    have hkt:(Instr.keyThatStays (I key) (I key)).run P w=.ok (I key) w:=by
      simp[Instr.keyThatStays,Instr.sameBits,LR]
    simp only[execOp,Instr.mapUpdate,hx,hy,hv,Sem.run_bind,run_underlying ht,Jq hb,Xo hk,Yq hk,Result.andThen,hfk,hes,hkt,hs];rfl
theorem EY(i:Nat){t kt e b:Nat}{x y z:Operand}{l:MapL}{key:Str}{v:Value}(hF:FR w0 Ds bs_ w)(ht:P.underlying t=some (.map kt e))(hk:P.underlying kt=some .string)
    (hx:ev n s x=.map (some b)) (hy:ev n s y=I key) (hv:ev n s z=v) (hi:bs_[i]? = some (b,Si l))
    (h:∀w',FR w0 Ds (bs_.set i (b,Si (T9 l key v))) w'->Same [b] w w'->Og P R n ops k rest s w')
    (hw:Hb ops n s ⟨none,.mapUpdate t x y z,ty,pos,aft,g⟩=true:=by rfl):Og P R n ops k (⟨none,.mapUpdate t x y z,ty,pos,aft,g⟩::rest) s w :=
  H3 (OW ht hk hx hy hv (hF.heap hi)) (h _ (hF.setObj i hi) (Uv w b _)) hw
end
structure Nodes where
  lab:Nat->Str
  lf:Nat->Nat
  le:∀x,lf x<=x
def turn(a b:Nodes)(x y:Nat):Nat:=if a.lab x=b.lab y then 0 else 1
def fdF(a b:Nodes):Nat->Nat->Nat->Nat->Nat->Nat
  | 0,i,k,j,l=>(k-i)+(l-j)
  | f + 1, i, k, j, l =>
    if k<=i then l-j else if l<=j then k-i else
      let m:=min (fdF a b f i (k-1) j l) (fdF a b f i k j (l-1))+1
      if i<=a.lf (k-1)/\j<=b.lf (l-1) then min m (fdF a b f i (a.lf (k-1)) j (b.lf (l-1))+fdF a b f (a.lf (k-1)) (k-1) (b.lf (l-1)) (l-1)+turn a b (k-1) (l-1)) else m
def fd(a b:Nodes)(i k j l:Nat):Nat:=fdF a b ((k-i)+(l-j)) i k j l
section
variable {a b:Nodes}{i k j l:Nat}
end
def lfOk(fs:List Int)(n:Nat):Prop:=∀j (h:j<fs.length),j<n->0<=fs[j]/\fs[j]<=(j:Int)/\∀i (hi:i<j),fs[j]<=(i:Int)->fs[j]<=fs[i]' Aa
def lfN(fs:List Int)(x:Nat):Nat:=min (fs.getD x 0).toNat x
theorem lfOk.at{fs:List Int}{n j:Nat}(h:lfOk fs n)(hj:j<fs.length)(hn:j<n):((lfN fs j:Nat):Int)=fs[j]:=by
  obtain⟨h1,h2,-⟩:=h j hj hn;have e:fs.getD j 0=fs[j]:=by simp[List.getD,hj]
  rw[lfN,e];omega
inductive Rts (fs:List Int):Nat->List Nat->Prop
  | nil:Rts fs 0 []
  | snoc {r:Nat} {l:List Nat}:Rts fs (lfN fs r) l->Rts fs (r+1) (l++[r])
theorem Rts.last{fs:List Int}{p r:Nat}{l:List Nat}(h:Rts fs p (l++[r])):p=r+1/\Rts fs (lfN fs r) l:=by
  generalize e:l++[r]=m at h;cases h with
  | nil=>simp at e
  | snoc h1 =>
    obtain⟨rfl,e2⟩:=List.append_inj' e rfl;simp only[List.cons.injEq,and_true]at e2;subst e2;exact⟨O,h1⟩
theorem Rts.none{fs:List Int}{p:Nat}(h:Rts fs p []):p=0:=by
  generalize e:([]:List Nat)=m at h;cases h with
  | nil=>rfl
  | snoc h1=>simp at e
theorem Rts.len{fs:List Int}{p:Nat}{l:List Nat}(h:Rts fs p l):l.length<=p:=by
  induction h with
  | nil=>simp
  | snoc h1 ih =>
    rename_i r l
    have:lfN fs r<=r:=Nat.min_le_right _ _;simp only[dQ,kQ,List.length_nil];omega
theorem lfOk.snoc{fs:List Int}{j:Nat}(h:lfOk fs j)(hj:j<fs.length)(h0:0<=fs[j])(h1:fs[j]<=(j:Int))(hc:∀z (hz:z<j),fs[j]<=(z:Int)->fs[j]<=fs[z]' Aa):lfOk fs (j+1):=by
  intro i hi hn;by_cases e:i=j
  ·subst e
   exact⟨h0,h1,λz hz hle=>hc z hz hle⟩
  exact h i hi Aa
section
variable {ls gs ks:List Str}{fs hs is:List Int}
end
section
variable {ls gs:List Str}{fs hs:List Int}{r:Str}
end
theorem rows_eq{α:Type}{a b:List α}{j:Nat}(h:∀i (h:i<a.length) (h2:i<b.length),i<j->a[i]=b[i])(hl:a.length=b.length)(hj:a.length<=j):a=b:=List.ext_getElem hl λi h1 h2=>h i h1 h2 Aa
theorem IY{α:Type}{a b:List α}{j:Nat}{h1:j<a.length}{h2:j<b.length}(hq:∀i (h:i<a.length) (h2:i<b.length),i<j->a[i]=b[i])(h:a[j]=b[j]):∀i (h:i<a.length) (h2:i<b.length),i<j+1->a[i]=b[i]:=λi h3 h4 h5=>by
  by_cases e:i=j
  ·subst e;exact h
  exact hq i h3 h4 Aa
theorem ints_c(S S':Nat->Prop)(w0:World)(a b:List Int)(A B:Option Addr)(c e:Nat)(hX:Rep S w0 (.slice (a.map Gj)) [.slice A a.length c])(hY:Rep S' w0 (.slice (b.map Gj)) [.slice B b.length e]):Calls prog 33 #[.slice A a.length c,.slice B b.length e] w0 (Yc λv w'=>v=.bool (decide (a=b))/\Same [] w0 w'):=by
 have hXl:=hX.slice_len;have hYl:=hY.slice_len;rw[rQ]at hXl hYl;refine Fa func33 O ntmps33 Ab (Uc _ _) ?_;have hF:=FR.start w0 [];refine Ea (Ba (Kb O) (Da (Ga (Ea (Ba (Hd O) (Ba (Nf iX O) (Ba (Hd O) (Ba (Nf iX O) (Ba (Wm O O) (Va ?_))))))))));refine Ha (Jb O O (λhc0=>?_) (λhc0=>?_));refine Ea (Ba (Kb O) (Da ?_));refine Gc (v:=.bool false) O O ?_;exact⟨congrArg Value.bool (decide_eq_false λq=>by subst q;omega).symm,hF.same⟩;refine Ka (Ha (Ga (Ea (Ba (Fb O) (Da (Qa ?_))))));have hll:a.length=b.length:=by omega
 refine Fc (λμ σ w=>∃(j:Nat),μ=a.length-j/\(j<=a.length)/\(∀i (h:i<a.length) (h2:i<b.length),i<j->a[i]=b[i])/\AllEq σ [(0,.slice A a.length c),(1,.slice B b.length e),(5,J ((j:Int)))]/\FR w0 [] [] w) _ ⟨0,O,Aa,(λi _ _ h=>by omega),Oi,hF⟩ ?_;rintro μ σ w ⟨j,rfl,hj,hq,hs,hF⟩;refine Cg.slots hs ?_;clear hs;intro σ;refine Ga (Ea (Ba (Za O) (Ba (Hd O) (Ba (Nf iX O) (Ba (Pg O O) (Da ?_))))));refine Jb O O (λhc1=>?_) (λhc1=>?_);refine Ka (Ha (Ga (Qa (Ga ?_))));refine De (zs:=.of []) (bQ [0,1,2,3,4,5,6,7,8] .nil) hF ?_;intro w hF;refine Ib O (Hd O) (Ib O (Za O) ?_);obtain⟨ad0,hA0,hk0,hx0⟩:=hX.int_elem (i:=j) Aa;refine Sa O (v:=.pointer (some (ad0.add (j*1)))) (λw hC=>Na (i:=(j:Int)) SA O hA0 O Aa Aa) (Sa O (v:=J (a[j])) (λw hC=>Nc xQ O (hC.cell0 hk0)) (Ib O (Hd O) (Ib O (Za O) ?_)));obtain⟨ad1,hA1,hk1,hx1⟩:=hY.int_elem (i:=j) Aa;refine Sa O (v:=.pointer (some (ad1.add (j*1)))) (λw hC=>Na (i:=(j:Int)) SA O hA1 O Aa Aa) (Sa O (v:=J (b[j])) (λw hC=>Nc xQ O (hC.cell0 hk1)) (Ib O (Wm O O) (Ic (Ha ?_))));refine Jb O O (λhc2=>?_) (λhc2=>?_);refine Ea (Ba (Kb O) (Da ?_));refine Gc (v:=.bool false) O O ?_;exact⟨congrArg Value.bool (decide_eq_false λq=>by subst q;exact absurd rfl (by assumption)).symm,hF.same⟩;refine Ka (Ya (Ha (Ja (Ba (Za O) (Ba (Bi (((j+1:Nat):Int)) O O) (Ba (Fb O) (Va ?_)))))));refine Ta ⟨_,?_,j+1,O,Aa,(IY hq (Classical.not_not.1 (by assumption))),Oi,hF⟩;omega;refine Bc (Yb O ?_);refine Ha (Ea (Ba (Kb O) (Da ?_)));refine Gc (v:=.bool true) O O ?_;exact⟨congrArg Value.bool (decide_eq_true (rows_eq hq hll Aa)).symm,hF.same⟩
theorem VQ{x:Tree}(h:Pf x=true):Vv x=x:=by rw[Vv,if_pos (Sp h)]
inductive Kin:Value->Value->Prop where
  | same (v:Value):Kin v v
  | int (n m:Int):-9223372036854775808<=m->m<=9223372036854775807->Kin (J n) (J m)
  | str (s t:ByteArray):t.size<=9223372036854775807->Kin (.string s) (.string t)
theorem Kin.trans{a b c:Value}(h:Kin a b)(k:Kin b c):Kin a c:=by
  cases h with
  | same=>exact k
  | int n m h1 h2 =>
    cases k with
    | same=>exact .int n m h1 h2
    | int _ q h3 h4=>exact .int n q h3 h4
  | str s t h1 =>
    cases k with
    | same=>exact .str s t h1
    | str _ q h3=>exact .str s q h3
inductive KinL:List Value->List Value->Prop where
  | nil:KinL [] []
  | cons {a b:Value} {l m:List Value}:Kin a b->KinL l m->KinL (a::l) (b::m)
theorem KinL.refl:∀l:List Value,KinL l l
  | []=>.nil
  | a::l=>.cons (.same a) (KinL.refl l)
theorem KinL.split:∀{c1 c2 d:List Value},KinL (c1++c2) d->∃d1 d2,d=d1++d2/\KinL c1 d1/\KinL c2 d2
  | [],c2,d,h=>⟨[],d,rfl,.nil,h⟩
  | a :: c1, c2, d, h => by
    cases h with
    | cons h1 h2 =>
      obtain⟨d1,d2,rfl,k1,k2⟩:=KinL.split h2;exact⟨_::d1,d2,O,.cons h1 k1,k2⟩
theorem KinL.of:∀{l m:List Value},l.length=m.length->(∀i (h:i<l.length) (h':i<m.length),Kin l[i] m[i])->KinL l m
  | [],[],_,_=>.nil
  | a::l,b::m,hl,h=>.cons (h 0 Oa Oa) (KinL.of (by simpa using hl) λi hi hi'=>h (i+1) (by simpa using hi) (by simpa using hi'))
def Mold(w w':World):Prop:=∀a v,w.cell? a=some v->∃v',w'.cell? a=some v'/\Kin v v'
theorem Mold.refl(w:World):Mold w w:=λa v h=>⟨v,h,.same v⟩
theorem Mold.trans{a b c:World}(h:Mold a b)(k:Mold b c):Mold a c:=λx v hx=>by
  obtain⟨v1,h1,k1⟩:=h x v hx;obtain⟨v2,h2,k2⟩:=k x v1 h1;exact⟨v2,h2,k1.trans k2⟩
theorem Mold.same{w w':World}(h:Same [] w w'):Mold w w':=λa v hc=>⟨v,((FR.start w []).ext h).cell0 hc,.same v⟩
theorem Mold.set{w:World}{a:Addr}{u v:Value}(hc:w.cell? a=some u)(hk:Kin u v):Mold w (w.setCell a v):=λb x hb=>by
  have key:∀c e f,w.heap[a.block]? = some (.cells c e f)->(w.setCell a v).heap[a.block]? = some (.cells (c.setIfInBounds a.off v) e f):=by
    intro c e f hh;have hs:a.spot.isSome=false:=by
      unfold World.cell? at hc;rw[hh]at hc;simp only at hc;split at hc
      ·cases hc
      rename_i h;simpa using h
    simp[World.setCell,Array.getElem?_modify,hh,hs]
  by_cases hbl:b.block=a.block
  ·unfold World.cell? at hb hc ⊢
   rw[hbl]at hb ⊢;cases hh:w.heap[a.block]? with
   | none=>rw[hh]at hb;cases hb
   | some o =>
     rw[hh]at hb hc;cases o with
     | cells c e f =>
       rw[key c e f hh];simp only at hb hc ⊢;split at hb
       ·cases hb
       rename_i hsp
       rw[if_neg hsp];split at hc
       ·cases hc
       by_cases ho : b.off = a.off
       ·rw[ho]at hb ⊢
        have hx:x=u:=by rw[hc]at hb;exact (lQ hb).symm
        subst hx;have hlt:a.off<c.size:=by
          rcases Nat.lt_or_ge a.off c.size with h|h
          ·exact h
          rw[Array.getElem?_eq_none h]at hc;cases hc
        exact⟨v,by simp[hlt],hk⟩
       exact⟨x,by rw[Array.getElem?_setIfInBounds_ne (λe=>ho e.symm)];exact hb,.same x⟩
     | _=>cases hb
  refine⟨x, ?_, .same x⟩;rw[<-hb];exact World.cell?_of_block (w:=w) (Below.heap_setCell _ _ _ _ hbl)
theorem CellsAt.mold{S:Nat->Prop}{w w':World}{ad:Addr}{cs:List Value}(h:CellsAt S w ad cs)(hm:Mold w w'):∃cs',CellsAt S w' ad cs'/\KinL cs cs':=by
  have key:∀n,n<=cs.length->∃l:List Value,l.length=n/\∀i (hi:i<l.length),w'.cell? (ad.add i)=some l[i]/\∀h':i<cs.length,Kin cs[i] l[i]:=by
    intro n
    induction n with
    | zero=>exact λ_=>⟨[],rfl,λi hi=>absurd hi Oa⟩
    | succ n ih =>
      intro hn;obtain⟨l,hl,h1⟩:=ih Aa;obtain⟨v',h2,h3⟩:=hm _ _ (h n Aa).1;refine⟨l++[v'],by simp[hl],λi hi=>?_⟩;by_cases hin:i<l.length
      ·rw[List.getElem_append_left hin];exact h1 i hin
      have hi2 : i = n := by simp at hi;omega
      subst hi2;rw[List.getElem_append_right Aa];simp only[hl,Nat.sub_self,List.getElem_cons_zero];exact⟨h2,λ_=>h3⟩
  obtain⟨l,hl,h1⟩:=key cs.length (gQ _);refine⟨l,λi hi=>⟨(h1 i hi).1,(h i Aa).2⟩,KinL.of hl.symm λi hi hi'=>(h1 i hi').2 hi⟩
theorem kin_int{n:Int}{d:List Value}(h:KinL [J n] d)(hn:-9223372036854775808<=n/\n<=9223372036854775807):∃m:Int,d=[J m]/\-9223372036854775808<=m/\m<=9223372036854775807:=by
  cases h with
  | cons h1 h2 =>
    cases h2;cases h1 with
    | same=>exact⟨n,rfl,hn⟩
    | int _ m h3 h4=>exact⟨m,rfl,h3,h4⟩
theorem LF{s:Str}{d:List Value}(h:KinL [I s] d)(hs:s.length<=9223372036854775807):∃t:Str,d=[I t]/\t.length<=9223372036854775807:=by
  cases h with
  | cons h1 h2 =>
    cases h2;cases h1 with
    | same=>exact⟨s,rfl,hs⟩
    | str _ t h3 =>
      refine⟨t.data.toList,?_,by rw[Array.length_toList];exact h3⟩;exact congrArg (λz=>[Value.string z]) (show t=bs t.data.toList by cases t;rfl)
theorem JA{A:Option Addr}{n c:Nat}{d:List Value}(h:KinL [.slice A n c] d):d=[.slice A n c]:=by
  cases h with
  | cons h1 h2=>cases h2;cases h1;rfl
theorem KC{S:Nat->Prop}{w w':World}:∀{ks:List Str}{cs cs':List Value},RepL S w (ks.map Vl) cs->KinL cs cs'->∃ks':List Str,ks'.length=ks.length/\RepL S w' (ks'.map Vl) cs'
  | [], cs, cs', h, k => by
    have:=RepL.nil_inv h;subst this;cases k;exact⟨[],O,RepL.nil_mk⟩
  | s :: ks, cs, cs', h, k => by
    obtain⟨c1,c2,rfl,h1,h2⟩:=RepL.cons_inv h;obtain⟨d1,d2,rfl,k1,k2⟩:=k.split;obtain⟨rfl,hs⟩:=Rep.str_inv h1;obtain⟨t,rfl,ht⟩:=LF k1 hs;obtain⟨ks',hl,hr⟩:=KC h2 k2;exact⟨t::ks',by simp[hl],RepL.cons_mk (Rep.lit_mk (v:=I t) ht) hr⟩
theorem CC{S:Nat->Prop}{w w':World}{ks:List Str}{A:Option Addr}{n c:Nat}(h:Rep S w (Oh ks) [.slice A n c])(hm:Mold w w'):∃ks':List Str,ks'.length=ks.length/\Rep S w' (Oh ks') [.slice A n c]:=by
  have hl:=h.slice_len;obtain⟨A',c',hA,h1,h2,h3⟩:=Rep.slice_inv h;simp only[List.cons.injEq,Value.slice.injEq,and_true]at hA;obtain⟨rfl,_,rfl⟩:=hA;by_cases hne:ks=[]
  ·subst hne
   exact⟨[],O,Rep.slice_mk (by simpa using hl.1) hl.2.1 hl.2.2 (λh=>absurd O h)⟩
  obtain⟨ad, rfl, es, hc, hr⟩ := h3 (by simpa using hne);obtain⟨es',hc',hk⟩:=hc.mold hm;obtain⟨ks',hl',hr'⟩:=KC hr hk;exact⟨ks',hl',Rep.slice_mk (by rw[hl.1];simp[hl']) hl.2.1 hl.2.2 (λ_=>⟨ad,O,es',hc',hr'⟩)⟩
def JU(x:Tree):Prop:=∀(S:Nat->Prop)(w w':World)(cs cs':List Value),Rep S w (Ob x) cs->Mold w w'->KinL cs cs'->∃x',Nb x'=Nb x/\Rep S w' (Ob x') cs'
theorem X8{S:Nat->Prop}{w w':World}(hm:Mold w w'):∀{xs:List Tree}{cs cs':List Value},(∀x∈xs,JU x)->RepL S w (Fe xs) cs->KinL cs cs'->∃xs':List Tree,xs'.length=xs.length/\Ec xs'=Ec xs/\RepL S w' (Fe xs') cs'
  | [], cs, cs', _, h, k => by
    have:=RepL.nil_inv h;subst this;cases k;exact⟨[],O,O,RepL.nil_mk⟩
  | x :: xs, cs, cs', hx, h, k => by
    obtain⟨c1,c2,rfl,h1,h2⟩:=RepL.cons_inv h;obtain⟨d1,d2,rfl,k1,k2⟩:=k.split;obtain⟨x',e1,r1⟩:=hx x Oa S w w' c1 d1 h1 hm k1;obtain⟨xs',hl,e2,r2⟩:=X8 hm (λy hy=>hx y (by simp[hy])) h2 k2;exact⟨x'::xs',by simp[hl],by rw[Ec,Ec,e1,e2],RepL.cons_mk r1 r2⟩
theorem K9{S:Nat->Prop}{w w':World}{xs:List Tree}{A:Option Addr}{n c:Nat}(hx:∀x∈xs,JU x)(h:Rep S w (.slice (Fe xs)) [.slice A n c])(hm:Mold w w'):∃xs':List Tree,xs'.length=xs.length/\Ec xs'=Ec xs/\Rep S w' (.slice (Fe xs')) [.slice A n c]:=by
  have hl:=h.slice_len;obtain⟨A',c',hA,h1,h2,h3⟩:=Rep.slice_inv h;simp only[List.cons.injEq,Value.slice.injEq,and_true]at hA;obtain⟨rfl,_,rfl⟩:=hA;by_cases hne:xs=[]
  ·subst hne
   exact⟨[],O,O,Rep.slice_mk (by simpa using hl.1) hl.2.1 hl.2.2 (λh=>absurd O h)⟩
  obtain⟨ad, rfl, es, hc, hr⟩ := h3 (λe => hne (List.eq_nil_of_length_eq_zero (by rw[<- Eh, e];rfl)));obtain⟨es',hc',hk⟩:=hc.mold hm;obtain⟨xs',hl',e',hr'⟩:=X8 hm hx hr hk;exact⟨xs',hl',e',Rep.slice_mk (by rw[hl.1];simp[hl']) hl.2.1 hl.2.2 (λ_=>⟨ad,O,es',hc',hr'⟩)⟩
theorem moldT(x:Tree):JU x:=Tree.ind (Q:=JU) (λk t ks xs ih S w w' cs cs' hR hm hk=>by
  obtain⟨A,c,B,e,rfl,h1,h2,hK,hX⟩:=hR.tree_inv;obtain⟨d1,d',rfl,k1,hk⟩:=KinL.split (c1:=[_]) hk;obtain⟨d2,d',rfl,k2,hk⟩:=KinL.split (c1:=[_]) hk;obtain⟨d3,d4,rfl,k3,k4⟩:=KinL.split (c1:=[_]) hk;obtain⟨m,rfl,hm1,hm2⟩:=kin_int k1 h1;obtain⟨u,rfl,hu⟩:=LF k2 h2;obtain rfl:=JA k3;obtain rfl:=JA k4;obtain⟨ks',-,hK'⟩:=CC hK hm;obtain⟨xs',hl',e',hX'⟩:=K9 ih hX hm;exact⟨.node m u ks' xs',by rw[Nb,Nb,e'],Rep.tree_mk ⟨hm1,hm2⟩ hu hK' hX'⟩) x
noncomputable def Sb (S:Nat->Prop) (w:World):List Nat:=by classical exact (List.range w.heap.size).filter λb=>decide (S b)
theorem Pm{S:Nat->Prop}{w:World}{b:Nat}:b∈Sb S w↔b<w.heap.size/\S b:=by simp[Sb]
structure Over (S:Nat->Prop) (w w':World):Prop where
  same:Same (Sb S w) w w'
  mold:Mold w w'
  soft:∀b,Pr w b->Pr w' b
theorem Over.refl(S:Nat->Prop)(w:World):Over S w w:=⟨.refl _ _,.refl _,λ_ h=>h⟩
theorem EC{Ds:List Nat}{w w':World}(h:Same Ds w w'){b:Nat}(hb:b∉Ds)(hs:Pr w b):Pr w' b:=by
  obtain⟨cs,T,hh⟩:=hs;exact⟨cs,T,(h.block b (Ac hh) hb).trans hh⟩
theorem soft_set{w:World}{a:Addr}{v:Value}{b:Nat}(h:Pr w b):Pr (w.setCell a v) b:=by
  obtain⟨cs,T,hh⟩:=h;by_cases e:a.block=b
  ·refine⟨if a.spot.isSome then cs else cs.setIfInBounds a.off v, T, ?_⟩
   simp[World.setCell,Array.getElem?_modify,hh,e]
  exact⟨cs,T,(Below.heap_setCell _ _ _ _ (λh=>e h.symm)).trans hh⟩
theorem IK{w:World}{a:Addr}(h:Pr w a.block):w.frozen? a=false:=by
  obtain⟨cs,T,hh⟩:=h;simp[World.frozen?,hh]
theorem Over.next{S:Nat->Prop}{w0 w w':World}{b:Nat}(h:Over S w0 w)(hs:Same [b] w w')(hb:b∈Sb S w0)(hm:Mold w w')(ho:∀x,Pr w x->Pr w' x):Over S w0 w' :=
  ⟨h.same.trans (hs.mono λx hx _=>by obtain rfl:=pQ.1 hx;exact hb),h.mold.trans hm,λx hx=>ho x (h.soft x hx)⟩
theorem Over.trans{S:Nat->Prop}{w0 w w':World}(hS:∀b,S b->b<w0.heap.size)(h:Over S w0 w)(k:Over S w w'):Over S w0 w' :=
  ⟨h.same.trans (k.same.mono λx hx _=>by have:=(Pm.1 hx).2;exact Pm.2 ⟨hS x this,this⟩),h.mold.trans k.mold,λx hx=>k.soft x (h.soft x hx)⟩
def TreeAt(S:Nat->Prop)(w:World)(A:Option Addr)(nk c:Nat)(B:Option Addr)(nx e m:Nat):Prop :=
  ∃(ks:List Str)(xs:List Tree),ks.length=nk/\xs.length=nx/\Ec xs=m/\Rep S w (Oh ks) [.slice A nk c]/\Rep S w (.slice (Fe xs)) [.slice B nx e]
theorem TreeAt.mold{S:Nat->Prop}{w w':World}{A B:Option Addr}{nk c nx e m:Nat}(h:TreeAt S w A nk c B nx e m)(hm:Mold w w'):TreeAt S w' A nk c B nx e m:=by
  obtain⟨ks,xs,h1,h2,h3,hK,hX⟩:=h;obtain⟨ks',l1,r1⟩:=CC hK hm;obtain⟨xs',l2,e2,r2⟩:=K9 (λx _=>moldT x) hX hm;exact⟨ks',xs',l1.trans h1,l2.trans h2,e2.trans h3,r1,r2⟩
theorem TreeAt.key{S:Nat->Prop}{w:World}{A B:Option Addr}{nk c nx e m:Nat}(h:TreeAt S w A nk c B nx e m){i:Nat}(hi:i<nk):∃ad s,A=some ad/\w.cell? (ad.add (i*1))=some (.string s)/\S (ad.add (i*1)).block:=by
  obtain⟨ks,xs,h1,h2,h3,hK,hX⟩:=h;have hne:ks≠[]:=by rintro rfl;simp at h1;omega
  obtain⟨A',c',hA,_,_,h4⟩:=Rep.slice_inv hK;simp only[List.cons.injEq,Value.slice.injEq,and_true]at hA;obtain⟨rfl,_,rfl⟩:=hA;obtain⟨ad,rfl,es,hc,hr⟩:=h4 (by simpa using hne);obtain⟨ad',hA',hcell,-⟩:=hK.str_elem (i:=i) Aa;obtain rfl:=lQ hA';have hlen:es.length=ks.length:=by
    have:=hr.length;have e:∀l:List Str,Wd.sizeL (l.map Vl)=l.length:=by
      intro l
      induction l with
      | nil=>rfl
      | cons a l ih=>rw[List.map_cons,Wd.sizeL,ih,kQ];simp[Vl,Wd];omega
    rw[e]at this;exact this
  exact⟨ad,_,O,hcell,by rw[Pd];exact (hc 0 Aa).2⟩
theorem TreeAt.item{S:Nat->Prop}{w:World}{A B:Option Addr}{nk c nx e m:Nat}(h:TreeAt S w A nk c B nx e m){j:Nat}(hj:j<nx) :
    ∃ad cs x,B=some ad/\cs.length=4/\(∀q (hq:q<cs.length),w.cell? ((ad.add (j*4)).add q)=some cs[q])/\Rep S w (Ob x) cs/\Nb x<=m/\S (ad.add (j*4)).block/\∃n:Int,w.cell? ((ad.add (j*4)).add 0)=some (J n):=by
  obtain⟨ks,xs,h1,h2,h3,hK,hX⟩:=h;obtain⟨ad,cs,rfl,hl,hc,hr⟩:=hX.tree_elem (i:=j) Aa;have hjx:j<xs.length:=by omega
  obtain⟨A',c',hA,_,_,h4⟩:=Rep.slice_inv hX;simp only[List.cons.injEq,Value.slice.injEq,and_true]at hA;obtain⟨rfl,_,rfl⟩:=hA;obtain⟨ad',hA',es,hce,hre⟩:=h4 (λhz=>by have h0:(Fe xs).length=0:=(by rw[hz];rfl);rw[Eh]at h0;omega);obtain rfl:=lQ hA';have hpos:0<es.length:=by
    rcases Nat.eq_zero_or_pos es.length with h|h
    ·have : es = [] := List.eq_nil_of_length_eq_zero h
     subst this;have h5:=hre.get (sz:=4) (λd hd=>by rw[Je]at hd;obtain⟨k,_,rfl⟩:=nQ.1 hd;exact Hc k) j (by simpa using hjx);have:=h5.2;simp at this
    exact h
  refine⟨ad,cs,xs[j],O,hl,hc,hr,by rw[<-h3];exact Lg (eQ hjx),by rw[Pd];exact (hce 0 hpos).2,?_⟩;have h0:=hc 0 Aa;generalize hx:xs[j]=x at hr;obtain⟨k,t,ks',ys⟩:=x;obtain⟨_,_,_,_,rfl,_⟩:=hr.tree_inv;exact⟨k,h0⟩
section
variable {P:Program}{R:Exit->Act->World->Prop}{n:Nat}{k:Kt}{s:Nat->Value}{w w0:World}{ops rest:List Oper}{Ds:List Nat}{bs_:List (Nat × Obj)}
variable {ty:TypeId}{pos:String}{aft:Array Edge}{g:Option (Nat × Bool)}
theorem X7{t:TypeId}{x y:Operand}{a:Addr}{u v:Value}(hF:FR w0 Ds bs_ w)(hs:∀w,(sizeOf t).run P w=.ok 1 w)(hx:ev n s x=.pointer (some a))(hy:ev n s y=v)(hl:v.cells=#[v])(h1:one v=true)
    (hc:w.cell? a=some u) (hso:Pr w a.block) (hD:a.block∈Ds) (hn:∀p∈bs_,p.1≠a.block) (hk:Kin u v)
    (h:∀w',FR w0 Ds bs_ w'->Same [a.block] w w'->Mold w w'->(∀b,Pr w b->Pr w' b)->Og P R n ops k rest s w')
    (hw:Hb ops n s ⟨none,.store t x y,ty,pos,aft,g⟩=true:=by rfl):Og P R n ops k (⟨none,.store t x y,ty,pos,aft,g⟩::rest) s w:=by
  have e0:Bk w a 0 [v]=w.setCell a v:=by simp only[Bk,Gp]
  refine H3 (B6 (l:=[v]) hs hx hy hl (by simpa using h1) λj hj=>?_) ?_ hw
  ·obtain rfl : j = 0 := by simp at hj;omega
   rw[Gp];exact⟨⟨u,hc⟩,IK hso⟩
  rw[e0];exact h _ (hF.touch (Same.setCell w a v) λb hb=>by
    obtain rfl:=pQ.1 hb;exact⟨λ_=>hD,hn⟩) (Same.setCell w a v) (Mold.set hc hk) (λ_ h=>soft_set h)
end
def VM(x:Tree):Prop:=∀(S:Nat->Prop)(w0:World)(cs:List Value),Rep S w0 (Ob x) cs->(∀b,S b->Pr w0 b)->Calls prog 27 #[.agg cs.toArray] w0 (Yc λv w'=>v=.tuple #[]/\Over S w0 w')
theorem Hm{w:World}{b:Nat}(h:Pr w b):b<w.heap.size:=by obtain⟨cs,T,hh⟩:=h;exact Ac hh
theorem JN(k:Int)(t:Str)(A B:Option Addr)(nk c nx e m:Nat)(S:Nat->Prop)(w0:World)(hT:TreeAt S w0 A nk c B nx e m)(hSo:∀b,S b->Pr w0 b)(ih:∀x,Nb x<=m->VM x)(hb1_:nk<=9223372036854775807)(hb2_:nx<=9223372036854775807):Calls prog 27 #[.agg #[J k,I t,.slice A nk c,.slice B nx e]] w0 (Yc λv w'=>v=.tuple #[]/\Over S w0 w'):=by
 have hO:=Over.refl S w0;refine Fa func27 O ntmps27 Ab (Wb _) ?_;have hF:=FR.start w0 (Sb S w0);refine Ea (Ce hF O ?_);intro b1 w hb1 hF hE;have hT:=hT.mold (Mold.same hE);have hO:Over S w0 w:=⟨hO.same.trans (hE.mono Oa),hO.mold.trans (Mold.same hE),λx hx=>EC hE Oa (hO.soft x hx)⟩;refine Da (Ga (Ea (Ba (Fb O) (Da (Qa ?_)))));refine Fc (λμ σ w=>∃(i:Nat),μ=nk-i/\(i<=nk)/\(TreeAt S w A nk c B nx e m)/\(Over S w0 w)/\AllEq σ [(1,V b1),(2,J ((i:Int)))]/\FR w0 (Sb S w0) [(b1,.cells #[J k,I t,.slice A nk c,.slice B nx e] 36)] w) _ ⟨0,O,(Nat.zero_le _),(hT),(hO),Rq,hF⟩ ?_;rintro μ σ w ⟨i,rfl,hi,hT,hO,hs,hF⟩;refine Cg.slots hs ?_;clear hs;intro σ;refine Ga (Ea (Ba (Za O) (Ba (Mb Tc O) (Xb (Ie yQ O hF.F 0 O O) (Ba (Nf cX O) (Ba (Pg O O) (Da ?_)))))));refine Jb O O (λhc0=>?_) (λhc0=>?_);refine Ka (Ha (Ga (Qa (Ja (Ba (Mb Tc O) (Xb (Ie yQ O hF.F 0 O O) (Ba (Za O) ?_)))))));obtain⟨ad,sk,hA,hkc,hSb⟩:=hT.key (show i<nk by omega);refine Ia (v:=.pointer (some (ad.add (i*1)))) (Na (i:=(i:Int)) Pk O hA O Aa Aa) ?_;refine X7 (a:=ad.add (i*1)) (u:=.string sk) hF sZ rfl (v:=I [115,112,111,105,108,116]) rfl rfl rfl (hkc) (hO.soft _ (hSo _ hSb)) (Pm.2 ⟨Hm (hSo _ hSb),hSb⟩) (by have h1:=Hm (hSo _ hSb);intro p hp;obtain rfl:=pQ.1 hp;show b1≠_;omega) (.str _ _ Ua) ?_;intro w hF hE hM hSo2;have hO:=hO.next hE (Pm.2 ⟨Hm (hSo _ hSb),hSb⟩) hM hSo2;have hT:=hT.mold hM;clear hE hM hSo2;refine Va (Ya (Ha (Ja (Ba (Za O) (Ba (Cl O O) (Ba (Fb O) (Va ?_)))))));refine Ta ⟨_,?_,i+1,O,Aa,(hT),(hO),Rq,hF⟩;omega;refine Bc (Yb O ?_);refine Ha (Ea (Ba (Fb O) (Da (Qa ?_))));refine Fc (λμ σ w=>∃(j:Nat),μ=nx-j/\(j<=nx)/\(TreeAt S w A nk c B nx e m)/\(Over S w0 w)/\AllEq σ [(1,V b1),(3,J ((j:Int)))]/\FR w0 (Sb S w0) [(b1,.cells #[J k,I t,.slice A nk c,.slice B nx e] 36)] w) _ ⟨0,O,(Nat.zero_le _),(hT),(hO),Rq,hF⟩ ?_
 rintro μ σ w ⟨j,rfl,hj,hT,hO,hs,hF⟩;refine Cg.slots hs ?_;clear hs;intro σ;refine Ga (Ea (Ba (Za O) (Ba (Mb Tb O) (Xb (Ie zQ O hF.F 0 O O) (Ba (Nf dX O) (Ba (Pg O O) (Da ?_)))))));refine Jb O O (λhc1=>?_) (λhc1=>?_);refine Ka (Ha (Ga (Qa (Ea (Ba (Mb Tb O) (Xb (Ie zQ O hF.F 0 O O) (Ba (Za O) ?_)))))));obtain⟨ad,cy,y,hB,hly,hcy,hry,hsy,hSb,-⟩:=hT.item (show j<nx by omega);have hoy:=hry.one_;refine Ia (v:=.pointer (some (ad.add (j*4)))) (Na (i:=(j:Int)) Wf O hB O Aa Aa) (Ia (v:=.agg (List.toArray cy)) (Wa (l:=cy) aZ nZ O hly hcy) ?_);refine Eb (ih y hsy S _ cy hry (λb hb=>hO.soft b (hSo b hb))) (Ma en_27 O O) ?_;rintro _ w ⟨rfl,hO2⟩;have hF:=hF.touch hO2.same (λb hb=>by have hSb2:=(Pm.1 hb).2;have h1:=Hm (hSo b hSb2);exact⟨λh=>Pm.2 ⟨h1,hSb2⟩,λp hp=>by obtain rfl:=pQ.1 hp;show b1≠b;omega⟩);have hT:=hT.mold hO2.mold;have hO:=hO.trans (λb hb=>Hm (hSo b hb)) hO2;clear hO2;refine Da (Ja (Ba (Mb Tb O) (Xb (Ie zQ O hF.F 0 O O) (Ba (Za O) ?_))));obtain⟨ad,cz,z,hB,-,-,-,-,hSb,n_,hn_⟩:=hT.item (show j<nx by omega);refine Ia (v:=.pointer (some (ad.add (j*4)))) (Na (i:=(j:Int)) Wf O hB O Aa Aa) (Ia (v:=.pointer (some ((ad.add (j*4)).add 0))) (Zb (a:=ad.add (j*4)) Xc O) ?_);refine X7 (a:=(ad.add (j*4)).add 0) (u:=J n_) hF sizeOf3 rfl (v:=J (-7)) rfl rfl rfl (hn_) (hO.soft _ (hSo _ (show S ((ad.add (j*4)).add 0).block by rw[Pd];exact hSb))) (Pm.2 ⟨Hm (hSo _ (show S ((ad.add (j*4)).add 0).block by rw[Pd];exact hSb)),(show S ((ad.add (j*4)).add 0).block by rw[Pd];exact hSb)⟩) (by have h1:=Hm (hSo _ (show S ((ad.add (j*4)).add 0).block by rw[Pd];exact hSb));intro p hp;obtain rfl:=pQ.1 hp;show b1≠_;omega) (.int _ _ Aa Aa) ?_;intro w hF hE hM hSo2;have hO:=hO.next hE (Pm.2 ⟨Hm (hSo _ (show S ((ad.add (j*4)).add 0).block by rw[Pd];exact hSb)),(show S ((ad.add (j*4)).add 0).block by rw[Pd];exact hSb)⟩) hM hSo2
 have hT:=hT.mold hM;clear hE hM hSo2;refine Va (Ya (Ha (Ja (Ba (Za O) (Ba (Bi (((j+1:Nat):Int)) O O) (Ba (Fb O) (Va ?_)))))));refine Ta ⟨_,?_,j+1,O,Aa,(hT),(hO),Rq,hF⟩;omega;refine Bc (Yb O ?_);refine Kh (Ve (Zj O) ?_);exact⟨O,hO⟩
theorem NT(x:Tree):VM x:=by
  have key:∀N x,Nb x<=N->VM x:=by
    intro N
    induction N with
    | zero=>intro x hx;have:=Q2 x;omega
    | succ N ih =>
      intro x hx S w0 cs hR hS;obtain⟨k,t,ks,xs⟩:=x;obtain⟨A,c,B,e,rfl,-,-,hK,hX⟩:=hR.tree_inv;have h1:=hK.slice_len;have h2:=hX.slice_len;rw[Nb]at hx;exact JN k t A B ks.length c xs.length e (Ec xs) S w0 ⟨ks,xs,O,O,O,hK,hX⟩ hS (λy hy=>ih y Aa) Aa Aa
  exact key _ x (gQ _)
theorem Cn(b:UInt8):1<=(Ri b).length/\(Ri b).length<=6:=by
  rcases GJ (BP b)with ⟨c,e,_⟩|⟨c,e,_⟩|⟨x1,x2,x3,x4,e⟩ <;> rw[e] <;> simp
theorem Jl{s:Str}{j:Nat}(h:j<s.length):Eu (s.take (j+1))=Eu (s.take j)++Ri s[j]:=by
  rw[iQ h,C7,Eu,Eu,qQ]
theorem quote_of{s acc:Str}{j:Nat}(hv:Lib.validD s=true)(hq:acc=34::Eu (s.take j))(hj:¬j<s.length):qS s=acc++[34]:=by
  rw[List.take_of_length_le Aa]at hq;rw[qS,if_pos hv,QH hv,hq];rfl
theorem PI(b:UInt8):Ri b=Ri (UInt8.ofNat b.toNat):=by rw[UInt8.ofNat_toNat]
theorem esc_q':∀n<256,n=34\/n=92->Ri (UInt8.ofNat n)=[92,UInt8.ofNat n]:=by decide +kernel
theorem YS{b:UInt8}(h:((b.toNat:Nat):Int)=34\/((b.toNat:Nat):Int)=92):Ri b=[92,b]:=by
  have:=esc_q' b.toNat (UInt8.toNat_lt b) Aa;simpa using this
theorem Co(k:Nat){t:Str}{b:UInt8}(hk:k<256)(ht:Ri (UInt8.ofNat k)=t)(h:((b.toNat:Nat):Int)=(k:Int)):Ri b=t:=by
  rw[PI,show b.toNat=k by omega,ht]
theorem esc_ctl':∀n<32,(n=8\/n=12\/n=10\/n=13\/n=9)\/Ri (UInt8.ofNat n)=[92,117,48,48,dg (n/16),dg (n%16)]:=by decide +kernel
theorem ZT{b:UInt8}(h:b.toNat<32)(h1:b.toNat≠8)(h2:b.toNat≠12)(h3:b.toNat≠10)(h4:b.toNat≠13)(h5:b.toNat≠9):Ri b=[92,117,48,48,dg (b.toNat/16),dg (b.toNat%16)]:=by
  rw[PI];exact (esc_ctl' _ h).resolve_left Aa
theorem JO:∀n<256,¬n<32->n≠34->n≠92->Ri (UInt8.ofNat n)=[UInt8.ofNat n]:=by decide +kernel
theorem IA{b:UInt8}(h:¬b.toNat<32)(h1:b.toNat≠34)(h2:b.toNat≠92):Ri b=[b]:=by
  have:=JO b.toNat (UInt8.toNat_lt b) h h1 h2;simpa using this
section
variable {P:Program}{w0 w:World}{Ds:List Nat}{pre post sb:List (Nat × Obj)}
theorem HM{t u ty e:Nat}{i:TypeInfo}{A:Option Addr}{n c:Nat}{xs:List Value}{txt:Str}
    (ht:P.underlying t=some (.slice e)) (hu:P.underlying u=some .string) (hi:P.info? e=some i) (hz:i.zero=some (.int .u8 0)) (hsize:i.size=1) (hby:i.bytes=1)
    (hF:FR w0 Ds (pre++(sb++post)) w) (hS:SlB e 1 A n c xs sb) (h0:0<txt.length) (hbytes:n+txt.length<=140737488355328) :
    ∃A' c' sb' w', (Builtin.append_ #[t, u] ty #[.slice A n c, I txt]).run P w = .ok (.slice A' (n + txt.length) c') w' /\ SlB e 1 A' (n + txt.length) c' (xs ++ Lib.byteCells txt) sb' /\ FR w0 Ds (pre ++ (sb' ++ post)) w' /\
      Same (sb.map (·.1)) w w'/\(∀p∈sb',p.1∈sb.map (·.1)\/w.heap.size<=p.1):=by
  have es:(bs txt).size=txt.length:=Ao txt;have ec:Lib.strCells (bs txt)=Lib.byteCells txt:=by simp[Lib.strCells_eq,bs]
  have hxl:xs.length=n:=by simpa using hS.1
  have hbl:(Lib.byteCells txt).length=txt.length:=by simp[Lib.byteCells]
  have hlen:(xs++Lib.byteCells txt).length=(n+txt.length)*1:=by rw[dQ,hxl,hbl,Nat.mul_one]
  have grown:∀(old:Nat),old<n+txt.length ->
      SlB e 1 (some ⟨w.heap.size,0,none⟩) (n+txt.length) (grownCap w (n+txt.length) old e) (xs++Lib.byteCells txt) [(w.heap.size,.cells (xs.toArray++(Lib.byteCells txt).toArray++Builtin.zeroCells (Value.int .u8 0).cells (grownCap w (n+txt.length) old e-(n+txt.length))) e)] /\
      FR w0 Ds (pre++([(w.heap.size,.cells (xs.toArray++(Lib.byteCells txt).toArray++Builtin.zeroCells (Value.int .u8 0).cells (grownCap w (n+txt.length) old e-(n+txt.length))) e)]++post)) (w.drew.alloc (.cells (xs.toArray++(Lib.byteCells txt).toArray++Builtin.zeroCells (Value.int .u8 0).cells (grownCap w (n+txt.length) old e-(n+txt.length))) e)) /\
      Same (sb.map (·.1)) w (w.drew.alloc (.cells (xs.toArray++(Lib.byteCells txt).toArray++Builtin.zeroCells (Value.int .u8 0).cells (grownCap w (n+txt.length) old e-(n+txt.length))) e)):=by
    intro old ho;have hge:=grownCap_ge w (n+txt.length) old e;have hcm:grownCap w (n+txt.length) old e<=maxLen:=grownCap_le_maxLen w (n+txt.length) old e (by simp only[maxLen];omega);have hsm:Same [] w (w.drew.alloc (.cells (xs.toArray++(Lib.byteCells txt).toArray++Builtin.zeroCells (Value.int .u8 0).cells (grownCap w (n+txt.length) old e-(n+txt.length))) e)):=(Same.drew w).trans (Same.alloc w.drew _);refine⟨⟨hlen,.inr ⟨w.heap.size,_,O,O,hge,hcm,?_,?_⟩⟩,hF.insert hsm (heap_alloc_new w.drew _),hsm.mono Oa⟩
    ·have hz1 : (Value.int IntKind.u8 0).cells.size = 1 := rfl
     simp only[Array.size_append,List.size_toArray,size_zeroCells,hz1,hxl,hbl];omega
    simp only[Array.toList_append, sQ];rw[<-sQ,<-hlen];exact List.take_left
  rcases hS.2 with ⟨rfl,rfl,rfl⟩|⟨g,cur,rfl,rfl,hnc,hcm,hcs,htake⟩
  ·have hx : xs = [] := List.eq_nil_of_length_eq_zero hxl
   subst hx;have hgr:=grown 0 Aa;simp only[Nat.zero_add,List.nil_append,Array.empty_append]at hgr ⊢;cases A with
   | none =>
     have hr:=run_append_nil_string (P:=P) w t u ty e i (.int .u8 0) ht hu hi hz (bs txt) Aa Aa (by rw[hby];omega);have e1:((bs txt).data.map λb=>Value.int .u8 b.toNat)=(Lib.byteCells txt).toArray:=by
       rw[<-ec];apply Array.ext';simp[Lib.strCells]
     rw[e1,es]at hr;exact⟨_,_,_,_,hr,hgr.1,hgr.2.1,hgr.2.2,λp hp=>.inr (by simp only[pQ]at hp;subst hp;exact gQ _)⟩
   | some a0 =>
     have hr:=Lib.run_append_grow_string (P:=P) w t u ty e i (.int .u8 0) ht hu hi hz a0 0 0 [] Oa (λj u hu=>by cases hu) (bs txt) Aa Aa (by rw[hby];exact growslice_fits Aa Aa);rw[ec,es]at hr;simp only[Nat.zero_add,Array.empty_append]at hr;exact⟨_,_,_,_,hr,hgr.1,hgr.2.1,hgr.2.2,λp hp=>.inr (by simp only[pQ]at hp;subst hp;exact gQ _)⟩
  have hg : w.heap[g]? = some (.cells cur e) := hF.memHeap (p := (g, .cells cur e)) Oa;have hcs':cur.size=c:=by simpa using hcs
  have ht':cur.toList.take n=xs:=by simpa using htake
  by_cases hroom:n+txt.length<=c
  ·have hr := Lib.run_append_room_string (P := P) w t u ty e i ht hu hi hsize g n c cur hg (bs txt) Aa Aa
   rw[ec,es]at hr;have hsm:Same [g] w (w.setRow g (cur.toList.take n++Lib.byteCells txt++cur.toList.drop (n+txt.length)).toArray) :=
     ⟨rfl,rfl,rfl,by simp[World.setRow],λb _ hb=>setRow_other w g b _ (by simpa using hb)⟩
   refine⟨_,_,[(g,.cells (cur.toList.take n++Lib.byteCells txt++cur.toList.drop (n+txt.length)).toArray e)],_,hr,⟨hlen,.inr ⟨g,_,O,O,hroom,hcm,?_,?_⟩⟩,hF.changeMid hsm (setRow_heap w g cur _ e _ hg),by simpa using hsm,λp hp=>.inl (by simp at hp ⊢;exact congrArg Prod.fst hp)⟩
   ·simp only[List.size_toArray, dQ, List.length_take, List.length_drop, Array.length_toList, hbl]
    omega
   rw[ht', <- hlen];exact List.take_left
  have holds : ∀j u, xs[j]? = some u -> w.cell? ((⟨g, 0, none⟩ : Addr).add j) = some u := hS.cells hF _ rfl;have hr:=Lib.run_append_grow_string (P:=P) w t u ty e i (.int .u8 0) ht hu hi hz ⟨g,0,none⟩ n c xs (by rw[hsize];simpa using hxl) holds (bs txt) Aa Aa (by rw[hby];exact growslice_fits Aa Aa);rw[ec,es]at hr;have hgr:=grown c Aa;exact⟨_,_,_,_,hr,hgr.1,hgr.2.1,hgr.2.2,λp hp=>.inr (by simp only[pQ]at hp;subst hp;exact gQ _)⟩
end
section
variable {P:Program}{R:Exit->Act->World->Prop}{n:Nat}{kt:Kt}{s:Nat->Value}{w:World}{ops rest:List Oper}
variable {d:Nat}{ty:TypeId}{pos:String}{aft:Array Edge}{g:Option (Nat × Bool)}
variable {w0:World}{Ds:List Nat}{sb:List (Nat × Obj)}
theorem As(pre post:List (Nat × Obj)){x y:Operand}{t u e:Nat}{A:Option Addr}{len c:Nat}{xs:List Value}{txt:Str}{len':Nat}{ys:List Value}(hE:Elems P t e 1 1)(hu:P.underlying u=some .string)
    (hz0:(P.info? e).map (·.zero)=some (some (.int .u8 0)))
    (hF:FR w0 Ds (pre++(sb++post)) w) (hS:SlB e 1 A len c xs sb) (hx:ev n s x=.slice A len c) (hy:ev n s y=I txt)
    (h0:0<txt.length) (hbytes:len+txt.length<=140737488355328) (hlen:len+txt.length=len') (hys:xs++Lib.byteCells txt=ys)
    (h:∀A' c' sb' w',SlB e 1 A' len' c' ys sb'->FR w0 Ds (pre++(sb'++post)) w'->Same (sb.map (·.1)) w w'->(∀p∈sb',p.1∈sb.map (·.1)\/w.heap.size<=p.1)->Og P R n ops kt rest (Hf s d (.slice A' len' c')) w')
    (hw:Hb ops n s ⟨some d,.call ⟨.builtin .append,#[x,y],#[t,u]⟩,ty,pos,aft,g⟩=true:=by rfl):Og P R n ops kt (⟨some d,.call ⟨.builtin .append,#[x,y],#[t,u]⟩,ty,pos,aft,g⟩::rest) s w:=by
  subst hlen hys;obtain⟨i,z,hi,hz,h2,h3,h4⟩:=hE.info;rw[hi]at hz0;have hz1:i.zero=some (.int .u8 0):=by simpa using hz0
  obtain⟨A',c',sb',w',hr,hS',hF',hs,hn⟩:=HM (ty:=ty) hE.ht hu hi hz1 h2 h3 hF hS h0 hbytes;exact Ia (FA hx hy hr) (h A' c' sb' w' hS' hF' hs hn) hw
end
end Go.Scarf
