/- A part of the proof. -/
import Derived.Test.YtgkmigdopohcnaaGreatDoorP5
set_option linter.all false
set_option maxHeartbeats 8000000
set_option maxRecDepth 10000
namespace Go.Scarf
open Go.RowKit
def L6(l:MapL)(k:Str)(v:Value):MapL:=match l.findIdx? (λx=>decide (x.1=k))with
  | some i=>l.set i (k,v)
  | none=>l++[(k,v)]
theorem R5{l:MapL}{k:Str}{i:Nat}(h:l.findIdx? (λx=>decide (x.1=k))=some i):∃hi:i<l.length,l[i].1=k:=by
  obtain⟨hi,h1,-⟩:=List.findIdx?_eq_some_iff_getElem.1 h;exact⟨hi,by simpa using h1⟩
theorem Ql(x:Str × Value)(l:MapL)(k:Str):Ah (x::l) k=if x.1=k then some x.2 else Ah l k:=by
  unfold Ah;rw[List.find?_cons];by_cases h:x.1=k <;> simp[h]
theorem J9(v:Value)(k k':Str):∀l:MapL,Ah (L6 l k v) k'=if k=k' then some v else Ah l k'
  | [] => by
    have e:L6 [] k v=[(k,v)]:=rfl;rw[e,Ql]
  | x :: l => by
    have ih:=J9 v k k' l;unfold L6 at ih ⊢;rw[List.findIdx?_cons];by_cases h:x.1=k
    ·simp only[h, decide_true, if_true, List.set_cons_zero]
     rw[Ql,Ql];by_cases h2:k=k'
     ·rw[if_pos h2,if_pos h2]
     rw[if_neg h2,if_neg h2,if_neg (λe=>h2 (h▸e))]
    simp only[h, decide_false, Bool.false_eq_true, if_false];cases hf:l.findIdx? (λx=>decide (x.1=k))with
    | none =>
      rw[hf]at ih;simp only[Option.map_none,List.cons_append]at ih ⊢;rw[Ql,ih,Ql];by_cases h2:x.1=k'
      ·rw[if_pos h2,if_neg (λe=>h (h2.trans e.symm)),if_pos h2]
      rw[if_neg h2,if_neg h2]
    | some i =>
      rw[hf]at ih;simp only[Option.map_some,List.set_cons_succ]at ih ⊢;rw[Ql,ih,Ql];by_cases h2:x.1=k'
      ·rw[if_pos h2,if_neg (λe=>h (h2.trans e.symm)),if_pos h2]
      rw[if_neg h2,if_neg h2]
section
variable {P:Program}{R:Exit->Act->World->Prop}{n:Nat}{k:Kt}{s:Nat->Value}{w:World}{ops rest:List Oper}
variable {d:Nat}{ty:TypeId}{pos:String}{aft:Array Edge}{g:Option (Nat × Bool)}
variable {w0:World}{Ds:List Nat}{bs_:List (Nat × Obj)}{ρ:Operand->Value}{dst:Option Nat}
theorem SG(l:MapL){i:Nat}{v:Value}{key:Str}(hi:i<l.length) :
    ((Kc l 0).toArray.modify i λe=>{ e with key:=I key,val:=v })=(Kc (l.set i (key,v)) 0).toArray:=by
  apply Array.ext
  ·simp[Nh]
  intro q h1 h2;have hq:q<l.length:=by simpa[Nh]using h1
  have hq2:q<(l.set i (key,v)).length:=by rw[List.length_set];exact hq
  have e1:=Du l 0 q hq;have e2:=Du (l.set i (key,v)) 0 q hq2;rw[Array.getElem_modify];simp only[List.getElem_toArray,e1,e2];by_cases e:i=q
  ·subst e
   rw[if_pos rfl];simp
  rw[if_neg e];simp[List.getElem_set_ne e]
theorem MR{t kt e b:Nat}{x y z:Operand}{l:MapL}{key:Str}{v:Value}(ht:P.underlying t=some (.map kt e))(hk:P.underlying kt=some .string)
    (hx:ρ x=.map (some b)) (hy:ρ y=I key) (hv:ρ z=v) (hb:w.heap[b]? = some (Vh l)) :
    (execOp ρ ⟨dst,.mapUpdate t x y z,ty,pos,aft,g⟩).run P w=.ok .skip { w with heap:=w.heap.setIfInBounds b (Vh (L6 l key v)) }:=by
  unfold L6;cases hf:l.findIdx? (λx=>decide (x.1=key))with
  | none =>
    have hn:Ah l key=none:=by rw[<-Qv,hf];rfl
    exact P2 ht hk hx hy hv hb hn
  | some i =>
    obtain⟨hi,hik⟩:=R5 hf;have hfk:(l.findIdx? (λy=>decide (y.1=key))).bind (λj=>(l[j]?).map λy=>(j,y.2))=some (i,l[i].2):=by
      rw[hf];simp[hi]
    have hs:=V6 (P:=P) (o:=Vh (l.set i (key,v))) hb ⟨_,_,rfl⟩;have ho:Vh (l.set i (key,v))=.map ((Kc l 0).toArray.modify i λe=>{ e with key:=I key,val:=v }) l.length:=by
      rw[SG l hi,Vh];simp
    rw[ho]at hs ⊢;have hes:(((Kc l 0).toArray[i]?).map (·.key)).getD (I key)=I key:=by
      have e1:=Du l 0 i hi;rw[List.getElem?_toArray,List.getElem?_eq_getElem (by rw[Nh];exact hi),e1];show Value.string (bs l[i].1)=_;rw[hik]
    have hkt:(Instr.keyThatStays (I key) (I key)).run P w=.ok (I key) w:=by
      simp[Instr.keyThatStays,Instr.sameBits,KM]
    simp only[execOp,Instr.mapUpdate,hx,hy,hv,Sem.run_bind,run_underlying ht,Ro hb,Io hk,Yp hk,Result.andThen,hfk,hes,hkt,hs];rfl
theorem TS(i:Nat){t kt e b:Nat}{x y z:Operand}{l:MapL}{key:Str}{v:Value}(hF:FR w0 Ds bs_ w)(ht:P.underlying t=some (.map kt e))(hk:P.underlying kt=some .string)
    (hx:ev n s x=.map (some b)) (hy:ev n s y=I key) (hv:ev n s z=v) (hi:bs_[i]? = some (b,Vh l))
    (h:∀w',FR w0 Ds (bs_.set i (b,Vh (L6 l key v))) w'->Same [b] w w'->Og P R n ops k rest s w')
    (hw:Fb ops n s ⟨none,.mapUpdate t x y z,ty,pos,aft,g⟩=true:=by rfl):Og P R n ops k (⟨none,.mapUpdate t x y z,ty,pos,aft,g⟩::rest) s w :=
  E6 (MR ht hk hx hy hv (hF.heap hi)) (h _ (hF.setObj i hi) (Cu w b _)) hw
end
structure Nodes where
  lab:Nat->Str
  lf:Nat->Nat
  le:∀x,lf x<=x
def turn(a b:Nodes)(x y:Nat):Nat:=if a.lab x=b.lab y then 0 else 1
section
variable {a b:Nodes}{i k j l:Nat}
end
def lfOk(fs:List Int)(n:Nat):Prop:=∀j (h:j<fs.length),j<n->0<=fs[j]/\fs[j]<=(j:Int)/\∀i (hi:i<j),fs[j]<=(i:Int)->fs[j]<=fs[i]' Aa
def lfN(fs:List Int)(x:Nat):Nat:=min (fs.getD x 0).toNat x
theorem lfOk.at{fs:List Int}{n j:Nat}(h:lfOk fs n)(hj:j<fs.length)(hn:j<n):((lfN fs j:Nat):Int)=fs[j]:=by
  obtain⟨h1,h2,-⟩:=h j hj hn;have e:fs.getD j 0=fs[j]:=by simp[List.getD,hj]
  rw[lfN,e];omega
inductive Rts (fs:List Int):Nat->List Nat->Prop
  | nil:Rts fs 0 []
  | snoc {r:Nat} {l:List Nat}:Rts fs (lfN fs r) l->Rts fs (r+1) (l++[r])
theorem Rts.none{fs:List Int}{p:Nat}(h:Rts fs p []):p=0:=by
  generalize e:([]:List Nat)=m at h;cases h with
  | nil=>rfl
  | snoc h1=>simp at e
theorem Rts.len{fs:List Int}{p:Nat}{l:List Nat}(h:Rts fs p l):l.length<=p:=by
  induction h with
  | nil=>simp
  | snoc h1 ih =>
    rename_i r l
    have:lfN fs r<=r:=Nat.min_le_right _ _;simp only[dQ,kQ,List.length_nil];omega
theorem lfOk.snoc{fs:List Int}{j:Nat}(h:lfOk fs j)(hj:j<fs.length)(h0:0<=fs[j])(h1:fs[j]<=(j:Int))(hc:∀z (hz:z<j),fs[j]<=(z:Int)->fs[j]<=fs[z]' Aa):lfOk fs (j+1):=by
  intro i hi hn;by_cases e:i=j
  ·subst e
   exact⟨h0,h1,λz hz hle=>hc z hz hle⟩
  exact h i hi Aa
section
variable {ls gs ks:List Str}{fs hs is:List Int}
end
section
variable {ls gs:List Str}{fs hs:List Int}{r:Str}
end
open Go.RowKit Go.Proofs Go.Proofs.Tryz
theorem rows_eq{α:Type}{a b:List α}{j:Nat}(h:∀i (h:i<a.length) (h2:i<b.length),i<j->a[i]=b[i])(hl:a.length=b.length)(hj:a.length<=j):a=b:=List.ext_getElem hl λi h1 h2=>h i h1 h2 Aa
theorem XR{α:Type}{a b:List α}{j:Nat}{h1:j<a.length}{h2:j<b.length}(hq:∀i (h:i<a.length) (h2:i<b.length),i<j->a[i]=b[i])(h:a[j]=b[j]):∀i (h:i<a.length) (h2:i<b.length),i<j+1->a[i]=b[i]:=λi h3 h4 h5=>by
  by_cases e:i=j
  ·subst e;exact h
  exact hq i h3 h4 Aa
theorem ints_c(S S':Nat->Prop)(w0:World)(a b:List Int)(A B:Option Addr)(c e:Nat)(hX:Rep S w0 (.slice (a.map Mi)) [.slice A a.length c])(hY:Rep S' w0 (.slice (b.map Mi)) [.slice B b.length e]):Calls prog 25 #[.slice A a.length c,.slice B b.length e] w0 (Dd λv w'=>v=.bool (decide (a=b))/\Same [] w0 w'):=by
 have hXl:=hX.slice_len;have hYl:=hY.slice_len;rw[rQ]at hXl hYl;refine Ia func25 O ntmps25 Eb (Pc _ _) ?_;have hF:=FR.start w0 [];refine Ea (Ba (Db O) (Da (Ga (Ea (Ba (Sf O) (Ba (Ch gX O) (Ba (Sf O) (Ba (Ch gX O) (Ba (Vk O O) (Ta ?_))))))))));refine Fa (Ib O O (λhc0=>?_) (λhc0=>?_));refine Ea (Ba (Db O) (Da ?_));refine Gc (v:=.bool false) O O ?_;exact⟨congrArg Value.bool (decide_eq_false λq=>by subst q;omega).symm,hF.same⟩;refine La (Fa (Ga (Ea (Ba (Gb O) (Da (Qa ?_))))));have hll:a.length=b.length:=by omega
 refine Jc (λμ σ w=>∃(j:Nat),μ=a.length-j/\(j<=a.length)/\(∀i (h:i<a.length) (h2:i<b.length),i<j->a[i]=b[i])/\AllEq σ [(0,.slice A a.length c),(1,.slice B b.length e),(5,J ((j:Int)))]/\FR w0 [] [] w) _ ⟨0,O,Aa,(λi _ _ h=>by omega),Oq,hF⟩ ?_;rintro μ σ w ⟨j,rfl,hj,hq,hs,hF⟩;refine Cg.slots hs ?_;clear hs;intro σ;refine Ga (Ea (Ba (Za O) (Ba (Sf O) (Ba (Ch gX O) (Ba (Di O O) (Da ?_))))));refine Ib O O (λhc1=>?_) (λhc1=>?_);refine La (Fa (Ga (Qa (Ga ?_))));refine Md (zs:=.of []) (bQ [0,1,2,3,4,5,6,7,8] .nil) hF ?_;intro w hF;refine Jb O (Sf O) (Jb O (Za O) ?_);obtain⟨ad0,hA0,hk0,hx0⟩:=hX.int_elem (i:=j) Aa;refine Cb O (v:=.pointer (some (ad0.add (j*1)))) (λw hC=>Sa (i:=(j:Int)) CA O hA0 O Aa Aa) (Cb O (v:=J (a[j])) (λw hC=>Qd eZ O (hC.cell0 hk0)) (Jb O (Sf O) (Jb O (Za O) ?_)));obtain⟨ad1,hA1,hk1,hx1⟩:=hY.int_elem (i:=j) Aa;refine Cb O (v:=.pointer (some (ad1.add (j*1)))) (λw hC=>Sa (i:=(j:Int)) CA O hA1 O Aa Aa) (Cb O (v:=J (b[j])) (λw hC=>Qd eZ O (hC.cell0 hk1)) (Jb O (Vk O O) (Hc (Fa ?_))));refine Ib O O (λhc2=>?_) (λhc2=>?_);refine Ea (Ba (Db O) (Da ?_));refine Gc (v:=.bool false) O O ?_;exact⟨congrArg Value.bool (decide_eq_false λq=>by subst q;exact absurd rfl (by assumption)).symm,hF.same⟩;refine La (Bb (Fa (Ha (Ba (Za O) (Ba (Ek (((j+1:Nat):Int)) O O) (Ba (Gb O) (Ta ?_)))))));refine Hb ⟨_,?_,j+1,O,Aa,(XR hq (Classical.not_not.1 (by assumption))),Oq,hF⟩;omega;refine Ec (Ac O ?_);refine Fa (Ea (Ba (Db O) (Da ?_)));refine Gc (v:=.bool true) O O ?_;exact⟨congrArg Value.bool (decide_eq_true (rows_eq hq hll Aa)).symm,hF.same⟩
theorem XL{x:Tree}(h:Yd x=true):Iu x=x:=by rw[Iu,if_pos (Jf h)]
inductive Kin:Value->Value->Prop where
  | same (v:Value):Kin v v
  | int (n m:Int):-9223372036854775808<=m->m<=9223372036854775807->Kin (J n) (J m)
  | str (s t:ByteArray):t.size<=9223372036854775807->Kin (.string s) (.string t)
theorem Kin.trans{a b c:Value}(h:Kin a b)(k:Kin b c):Kin a c:=by
  cases h with
  | same=>exact k
  | int n m h1 h2 =>
    cases k with
    | same=>exact .int n m h1 h2
    | int _ q h3 h4=>exact .int n q h3 h4
  | str s t h1 =>
    cases k with
    | same=>exact .str s t h1
    | str _ q h3=>exact .str s q h3
inductive KinL:List Value->List Value->Prop where
  | nil:KinL [] []
  | cons {a b:Value} {l m:List Value}:Kin a b->KinL l m->KinL (a::l) (b::m)
theorem KinL.refl:∀l:List Value,KinL l l
  | []=>.nil
  | a::l=>.cons (.same a) (KinL.refl l)
theorem KinL.split:∀{c1 c2 d:List Value},KinL (c1++c2) d->∃d1 d2,d=d1++d2/\KinL c1 d1/\KinL c2 d2
  | [],c2,d,h=>⟨[],d,rfl,.nil,h⟩
  | a :: c1, c2, d, h => by
    cases h with
    | cons h1 h2 =>
      obtain⟨d1,d2,rfl,k1,k2⟩:=KinL.split h2;exact⟨_::d1,d2,O,.cons h1 k1,k2⟩
theorem KinL.of:∀{l m:List Value},l.length=m.length->(∀i (h:i<l.length) (h':i<m.length),Kin l[i] m[i])->KinL l m
  | [],[],_,_=>.nil
  | a::l,b::m,hl,h=>.cons (h 0 Ma Ma) (KinL.of (by simpa using hl) λi hi hi'=>h (i+1) (by simpa using hi) (by simpa using hi'))
def Mold(w w':World):Prop:=∀a v,w.cell? a=some v->∃v',w'.cell? a=some v'/\Kin v v'
theorem Mold.refl(w:World):Mold w w:=λa v h=>⟨v,h,.same v⟩
theorem Mold.trans{a b c:World}(h:Mold a b)(k:Mold b c):Mold a c:=λx v hx=>by
  obtain⟨v1,h1,k1⟩:=h x v hx;obtain⟨v2,h2,k2⟩:=k x v1 h1;exact⟨v2,h2,k1.trans k2⟩
theorem Mold.same{w w':World}(h:Same [] w w'):Mold w w':=λa v hc=>⟨v,((FR.start w []).ext h).cell0 hc,.same v⟩
theorem Mold.set{w:World}{a:Addr}{u v:Value}(hc:w.cell? a=some u)(hk:Kin u v):Mold w (w.setCell a v):=λb x hb=>by
  have key:∀c e f,w.heap[a.block]? = some (.cells c e f)->(w.setCell a v).heap[a.block]? = some (.cells (c.setIfInBounds a.off v) e f):=by
    intro c e f hh;have hs:a.spot.isSome=false:=by
      unfold World.cell? at hc;rw[hh]at hc;simp only at hc;split at hc
      ·cases hc
      rename_i h;simpa using h
    simp[World.setCell,Array.getElem?_modify,hh,hs]
  by_cases hbl:b.block=a.block
  ·unfold World.cell? at hb hc ⊢
   rw[hbl]at hb ⊢;cases hh:w.heap[a.block]? with
   | none=>rw[hh]at hb;cases hb
   | some o =>
     rw[hh]at hb hc;cases o with
     | cells c e f =>
       rw[key c e f hh];simp only at hb hc ⊢;split at hb
       ·cases hb
       rename_i hsp
       rw[if_neg hsp];split at hc
       ·cases hc
       by_cases ho : b.off = a.off
       ·rw[ho]at hb ⊢
        have hx:x=u:=by rw[hc]at hb;exact (lQ hb).symm
        subst hx;have hlt:a.off<c.size:=by
          rcases Nat.lt_or_ge a.off c.size with h|h
          ·exact h
          rw[Array.getElem?_eq_none h]at hc;cases hc
        exact⟨v,by simp[hlt],hk⟩
       exact⟨x,by rw[Array.getElem?_setIfInBounds_ne (λe=>ho e.symm)];exact hb,.same x⟩
     | _=>cases hb
  refine⟨x, ?_, .same x⟩;rw[<-hb];exact World.cell?_of_block (w:=w) (Below.heap_setCell _ _ _ _ hbl)
theorem CellsAt.mold{S:Nat->Prop}{w w':World}{ad:Addr}{cs:List Value}(h:CellsAt S w ad cs)(hm:Mold w w'):∃cs',CellsAt S w' ad cs'/\KinL cs cs':=by
  have key:∀n,n<=cs.length->∃l:List Value,l.length=n/\∀i (hi:i<l.length),w'.cell? (ad.add i)=some l[i]/\∀h':i<cs.length,Kin cs[i] l[i]:=by
    intro n
    induction n with
    | zero=>exact λ_=>⟨[],rfl,λi hi=>absurd hi Ma⟩
    | succ n ih =>
      intro hn;obtain⟨l,hl,h1⟩:=ih Aa;obtain⟨v',h2,h3⟩:=hm _ _ (h n Aa).1;refine⟨l++[v'],by simp[hl],λi hi=>?_⟩;by_cases hin:i<l.length
      ·rw[List.getElem_append_left hin];exact h1 i hin
      have hi2 : i = n := by simp at hi;omega
      subst hi2;rw[List.getElem_append_right Aa];simp only[hl,Nat.sub_self,List.getElem_cons_zero];exact⟨h2,λ_=>h3⟩
  obtain⟨l,hl,h1⟩:=key cs.length (gQ _);refine⟨l,λi hi=>⟨(h1 i hi).1,(h i Aa).2⟩,KinL.of hl.symm λi hi hi'=>(h1 i hi').2 hi⟩
theorem kin_int{n:Int}{d:List Value}(h:KinL [J n] d)(hn:-9223372036854775808<=n/\n<=9223372036854775807):∃m:Int,d=[J m]/\-9223372036854775808<=m/\m<=9223372036854775807:=by
  cases h with
  | cons h1 h2 =>
    cases h2;cases h1 with
    | same=>exact⟨n,rfl,hn⟩
    | int _ m h3 h4=>exact⟨m,rfl,h3,h4⟩
theorem FP{s:Str}{d:List Value}(h:KinL [I s] d)(hs:s.length<=9223372036854775807):∃t:Str,d=[I t]/\t.length<=9223372036854775807:=by
  cases h with
  | cons h1 h2 =>
    cases h2;cases h1 with
    | same=>exact⟨s,rfl,hs⟩
    | str _ t h3 =>
      refine⟨t.data.toList,?_,by rw[Array.length_toList];exact h3⟩;exact congrArg (λz=>[Value.string z]) (show t=bs t.data.toList by cases t;rfl)
theorem IA{A:Option Addr}{n c:Nat}{d:List Value}(h:KinL [.slice A n c] d):d=[.slice A n c]:=by
  cases h with
  | cons h1 h2=>cases h2;cases h1;rfl
theorem X_{S:Nat->Prop}{w w':World}:∀{ks:List Str}{cs cs':List Value},RepL S w (ks.map Cn) cs->KinL cs cs'->∃ks':List Str,ks'.length=ks.length/\RepL S w' (ks'.map Cn) cs'
  | [], cs, cs', h, k => by
    have:=RepL.nil_inv h;subst this;cases k;exact⟨[],O,RepL.nil_mk⟩
  | s :: ks, cs, cs', h, k => by
    obtain⟨c1,c2,rfl,h1,h2⟩:=RepL.cons_inv h;obtain⟨d1,d2,rfl,k1,k2⟩:=k.split;obtain⟨rfl,hs⟩:=Rep.str_inv h1;obtain⟨t,rfl,ht⟩:=FP k1 hs;obtain⟨ks',hl,hr⟩:=X_ h2 k2;exact⟨t::ks',by simp[hl],RepL.cons_mk (Rep.lit_mk (v:=I t) ht) hr⟩
theorem Y_{S:Nat->Prop}{w w':World}{ks:List Str}{A:Option Addr}{n c:Nat}(h:Rep S w (Ni ks) [.slice A n c])(hm:Mold w w'):∃ks':List Str,ks'.length=ks.length/\Rep S w' (Ni ks') [.slice A n c]:=by
  have hl:=h.slice_len;obtain⟨A',c',hA,h1,h2,h3⟩:=Rep.slice_inv h;simp only[List.cons.injEq,Value.slice.injEq,and_true]at hA;obtain⟨rfl,_,rfl⟩:=hA;by_cases hne:ks=[]
  ·subst hne
   exact⟨[],O,Rep.slice_mk (by simpa using hl.1) hl.2.1 hl.2.2 (λh=>absurd O h)⟩
  obtain⟨ad, rfl, es, hc, hr⟩ := h3 (by simpa using hne);obtain⟨es',hc',hk⟩:=hc.mold hm;obtain⟨ks',hl',hr'⟩:=X_ hr hk;exact⟨ks',hl',Rep.slice_mk (by rw[hl.1];simp[hl']) hl.2.1 hl.2.2 (λ_=>⟨ad,O,es',hc',hr'⟩)⟩
def EO(x:Tree):Prop:=∀(S:Nat->Prop)(w w':World)(cs cs':List Value),Rep S w (Pb x) cs->Mold w w'->KinL cs cs'->∃x',Qb x'=Qb x/\Rep S w' (Pb x') cs'
theorem M6{S:Nat->Prop}{w w':World}(hm:Mold w w'):∀{xs:List Tree}{cs cs':List Value},(∀x∈xs,EO x)->RepL S w (Pe xs) cs->KinL cs cs'->∃xs':List Tree,xs'.length=xs.length/\Dc xs'=Dc xs/\RepL S w' (Pe xs') cs'
  | [], cs, cs', _, h, k => by
    have:=RepL.nil_inv h;subst this;cases k;exact⟨[],O,O,RepL.nil_mk⟩
  | x :: xs, cs, cs', hx, h, k => by
    obtain⟨c1,c2,rfl,h1,h2⟩:=RepL.cons_inv h;obtain⟨d1,d2,rfl,k1,k2⟩:=k.split;obtain⟨x',e1,r1⟩:=hx x Ma S w w' c1 d1 h1 hm k1;obtain⟨xs',hl,e2,r2⟩:=M6 hm (λy hy=>hx y (by simp[hy])) h2 k2;exact⟨x'::xs',by simp[hl],by rw[Dc,Dc,e1,e2],RepL.cons_mk r1 r2⟩
theorem U4{S:Nat->Prop}{w w':World}{xs:List Tree}{A:Option Addr}{n c:Nat}(hx:∀x∈xs,EO x)(h:Rep S w (.slice (Pe xs)) [.slice A n c])(hm:Mold w w'):∃xs':List Tree,xs'.length=xs.length/\Dc xs'=Dc xs/\Rep S w' (.slice (Pe xs')) [.slice A n c]:=by
  have hl:=h.slice_len;obtain⟨A',c',hA,h1,h2,h3⟩:=Rep.slice_inv h;simp only[List.cons.injEq,Value.slice.injEq,and_true]at hA;obtain⟨rfl,_,rfl⟩:=hA;by_cases hne:xs=[]
  ·subst hne
   exact⟨[],O,O,Rep.slice_mk (by simpa using hl.1) hl.2.1 hl.2.2 (λh=>absurd O h)⟩
  obtain⟨ad, rfl, es, hc, hr⟩ := h3 (λe => hne (List.eq_nil_of_length_eq_zero (by rw[<- In, e];rfl)));obtain⟨es',hc',hk⟩:=hc.mold hm;obtain⟨xs',hl',e',hr'⟩:=M6 hm hx hr hk;exact⟨xs',hl',e',Rep.slice_mk (by rw[hl.1];simp[hl']) hl.2.1 hl.2.2 (λ_=>⟨ad,O,es',hc',hr'⟩)⟩
theorem moldT(x:Tree):EO x:=Tree.ind (Q:=EO) (λk t ks xs ih S w w' cs cs' hR hm hk=>by
  obtain⟨A,c,B,e,rfl,h1,h2,hK,hX⟩:=hR.tree_inv;obtain⟨d1,d',rfl,k1,hk⟩:=KinL.split (c1:=[_]) hk;obtain⟨d2,d',rfl,k2,hk⟩:=KinL.split (c1:=[_]) hk;obtain⟨d3,d4,rfl,k3,k4⟩:=KinL.split (c1:=[_]) hk;obtain⟨m,rfl,hm1,hm2⟩:=kin_int k1 h1;obtain⟨u,rfl,hu⟩:=FP k2 h2;obtain rfl:=IA k3;obtain rfl:=IA k4;obtain⟨ks',-,hK'⟩:=Y_ hK hm;obtain⟨xs',hl',e',hX'⟩:=U4 ih hX hm;exact⟨.node m u ks' xs',by rw[Qb,Qb,e'],Rep.tree_mk ⟨hm1,hm2⟩ hu hK' hX'⟩) x
noncomputable def Sb (S:Nat->Prop) (w:World):List Nat:=by classical exact (List.range w.heap.size).filter λb=>decide (S b)
theorem DU{S:Nat->Prop}{w:World}{b:Nat}:b∈Sb S w↔b<w.heap.size/\S b:=by simp[Sb]
structure Over (S:Nat->Prop) (w w':World):Prop where
  same:Same (Sb S w) w w'
  mold:Mold w w'
  soft:∀b,BH w b->BH w' b
theorem Over.refl(S:Nat->Prop)(w:World):Over S w w:=⟨.refl _ _,.refl _,λ_ h=>h⟩
theorem Over.next{S:Nat->Prop}{w0 w w':World}{b:Nat}(h:Over S w0 w)(hs:Same [b] w w')(hb:b∈Sb S w0)(hm:Mold w w')(ho:∀x,BH w x->BH w' x):Over S w0 w' :=
  ⟨h.same.trans (hs.mono λx hx _=>by obtain rfl:=pQ.1 hx;exact hb),h.mold.trans hm,λx hx=>ho x (h.soft x hx)⟩
theorem Over.trans{S:Nat->Prop}{w0 w w':World}(hS:∀b,S b->b<w0.heap.size)(h:Over S w0 w)(k:Over S w w'):Over S w0 w' :=
  ⟨h.same.trans (k.same.mono λx hx _=>by have:=(DU.1 hx).2;exact DU.2 ⟨hS x this,this⟩),h.mold.trans k.mold,λx hx=>k.soft x (h.soft x hx)⟩
def TreeAt(S:Nat->Prop)(w:World)(A:Option Addr)(nk c:Nat)(B:Option Addr)(nx e m:Nat):Prop :=
  ∃(ks:List Str)(xs:List Tree),ks.length=nk/\xs.length=nx/\Dc xs=m/\Rep S w (Ni ks) [.slice A nk c]/\Rep S w (.slice (Pe xs)) [.slice B nx e]
theorem TreeAt.mold{S:Nat->Prop}{w w':World}{A B:Option Addr}{nk c nx e m:Nat}(h:TreeAt S w A nk c B nx e m)(hm:Mold w w'):TreeAt S w' A nk c B nx e m:=by
  obtain⟨ks,xs,h1,h2,h3,hK,hX⟩:=h;obtain⟨ks',l1,r1⟩:=Y_ hK hm;obtain⟨xs',l2,e2,r2⟩:=U4 (λx _=>moldT x) hX hm;exact⟨ks',xs',l1.trans h1,l2.trans h2,e2.trans h3,r1,r2⟩
theorem TreeAt.key{S:Nat->Prop}{w:World}{A B:Option Addr}{nk c nx e m:Nat}(h:TreeAt S w A nk c B nx e m){i:Nat}(hi:i<nk):∃ad s,A=some ad/\w.cell? (ad.add (i*1))=some (.string s)/\S (ad.add (i*1)).block:=by
  obtain⟨ks,xs,h1,h2,h3,hK,hX⟩:=h;have hne:ks≠[]:=by rintro rfl;simp at h1;omega
  obtain⟨A',c',hA,_,_,h4⟩:=Rep.slice_inv hK;simp only[List.cons.injEq,Value.slice.injEq,and_true]at hA;obtain⟨rfl,_,rfl⟩:=hA;obtain⟨ad,rfl,es,hc,hr⟩:=h4 (by simpa using hne);obtain⟨ad',hA',hcell,-⟩:=hK.str_elem (i:=i) Aa;obtain rfl:=lQ hA';have hlen:es.length=ks.length:=by
    have:=hr.length;have e:∀l:List Str,Ud.sizeL (l.map Cn)=l.length:=by
      intro l
      induction l with
      | nil=>rfl
      | cons a l ih=>rw[List.map_cons,Ud.sizeL,ih,kQ];simp[Cn,Ud];omega
    rw[e]at this;exact this
  exact⟨ad,_,O,hcell,by rw[Ei];exact (hc 0 Aa).2⟩
section
variable {P:Program}{R:Exit->Act->World->Prop}{n:Nat}{k:Kt}{s:Nat->Value}{w w0:World}{ops rest:List Oper}{Ds:List Nat}{bs_:List (Nat × Obj)}
variable {ty:TypeId}{pos:String}{aft:Array Edge}{g:Option (Nat × Bool)}
end
section
variable {P:Program}{w0 w:World}{Ds:List Nat}{pre post sb:List (Nat × Obj)}
end
section
variable {P:Program}{R:Exit->Act->World->Prop}{n:Nat}{kt:Kt}{s:Nat->Value}{w:World}{ops rest:List Oper}
variable {d:Nat}{ty:TypeId}{pos:String}{aft:Array Edge}{g:Option (Nat × Bool)}
variable {w0:World}{Ds:List Nat}{sb:List (Nat × Obj)}
end
end Go.Scarf
