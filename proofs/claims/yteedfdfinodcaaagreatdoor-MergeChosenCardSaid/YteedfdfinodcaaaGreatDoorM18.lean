/- A part of the proof. -/
import Derived.Test.YteedfdfinodcaaaGreatDoorM10
import Derived.OwnWalkIn
import Derived.RangeFuncNested
import Derived.RangeFuncCalls
import Derived.RangeFuncLeaves
set_option linter.all false
set_option maxHeartbeats 8000000
set_option maxRecDepth 10000
set_option synthInstance.maxHeartbeats 0
set_option synthInstance.maxSize 9999
namespace Go.Scarf
open List renaming length->aL
open Go.RowKit Go.Proofs Go.Proofs.Tryz
variable {rest:List Str}{f t:Str}{w w' w0:World}{bs_ sm:List (Nat × Obj)}{S:Nat->Prop}{L:List Nat}{ms:List Value}{T:Nat}
def Qj(x:Rl):Bool:=Ho x.pat&&decide (aL x.key<=1024)
def U2(l:List Rl):Bool:=l.all Qj&&decide ((aL l:Int)<=60)
theorem YH{l:List Rl}{j:Nat}{h:j<aL l}(hs:Qj l[j]=false):U2 l=false:=by grind [U2,Qj]
theorem LM{l:List Rl}{j:Nat}(hs:∀i (h:i<aL l),i<j->Qj l[i]=true)(hj:∀h:j<aL l,Qj l[j]=true):∀i (h:i<aL l),i<j+1->Qj l[i]=true:=λi h h2=>by
  grind
theorem L_{l:List Rl}{j:Nat}(hj:∀i (h:i<aL l),i<j->Qj l[i]=true)(he:¬(j<aL l/\j<100)):U2 l=decide ((aL l:Int)<=60):=by
  unfold U2;by_cases h:aL l<=60
  ·have:l.all Qj=true:=by
     rw[List.all_eq_true];intro s hs;obtain⟨i,hi,rfl⟩:=List.getElem_of_mem hs;grind
   grind
  grind
def few18_ok{l:List Rl}(h:U2 l=true):∀x∈l,RuleOk x:=λx hx=>by
  unfold U2 at h;have h1:=List.all_eq_true.1 (Bool.and_eq_true_iff.1 h).1 x hx;obtain⟨h2,h3⟩:=Bool.and_eq_true_iff.1 h1;rw[wQ]at h3;have h4:=(JW h2).2;exact⟨by_Om,λs hs=>by have:=h4 s hs;omega⟩
theorem OV{x:Rl}(h:Ho x.pat=true)(hk:(1024:Int)<(aL x.key:Int)):Qj x=false:=by grind [Qj]
theorem FL{x:Rl}(h:Ho x.pat=true)(hk:¬(1024:Int)<(aL x.key:Int)):Qj x=true:=by grind [Qj]
theorem NM{x:Rl}(h:Ho x.pat=false):Qj x=false:=by grind [Qj]
def few18_c(l:List Rl)(A:Option Addr)(c:Nat)(S:Nat->Prop)(w0:World)(hX:Rep S w0 (Ik l) [.slice A (aL l) c]):Calls prog 7 #[.slice A (aL l) c] w0 (Qb λv w'=>v=.bool (U2 l)/\Same [] w0 w'):=by
 have hXl:=hX.slice_len;simp only[rQ]at hXl;refine Ha func7 ntmps7 ?_;intro hF;refine rn 12<|Za (λμ σ w=>∃(j:Nat),μ=aL l-j/\(j<=aL l/\j<=100)/\(∀i (h:i<aL l),i<j->Qj l[i]=true)/\AllEq σ [(0,.slice A (aL l) c),(3,J<|(j:Int))]/\FR w0 [] [] w) _ ⟨0,O,fX,λi _ h=>by omega,Gc,hF⟩ ?_;rintro μ σ w ⟨j,rfl,hj,hs_,hzz,hF⟩;refine Gh hzz 9 ⟨λhg0=>?_,λhg0=>?_⟩;refine rn 6 ⟨λhc0=>?_,λhc0=>?_⟩;refine rn 8 ?_;obtain⟨ad1,B1,e1,hA1,hk1,hx1⟩:=hX.rule_elem (i:=j) fX;refine Da (v:=.pointer<|some<|ad1.add<|j*2) (Ea (i:=(j:Int)) FI hA1)<|Da (v:=.pointer<|some<|(ad1.add<|j*2).add 0) (He (a:=ad1.add<|j*2) CS)<|Da (v:=.slice (B1) (aL (l[j]).pat) e1) (Ma mZ<|hF.cell0<|hk1 0 Pt) ?_;refine Ta (shortL_c l[j].pat B1 e1 _ _ (hF.rep hx1)) ?_;rintro w hF -;refine rn 9 ⟨λhg2=>?_,λhg2=>?_⟩;refine rn 17 ?_;exact⟨xQ Value.bool (YH (j:=j) (h:=by omega)<|NM (aS hg2)).symm,hF.same⟩;refine rn 2 ?_;obtain⟨ad3,B3,e3,hA3,hk3,hx3⟩:=hX.rule_elem (i:=j) fX;refine Da (v:=.pointer<|some<|ad3.add<|j*2) (Ea (i:=(j:Int)) FI hA3)<|Da (v:=.pointer<|some<|(ad3.add<|j*2).add 1) (He (a:=ad3.add<|j*2) TC)<|Da (v:=.string<|bs<|(l[j]).key) (Ma qZ<|hF.cell0<|hk3 1 Pt) ?_;refine rn 6 ⟨λhc1=>?_,λhc1=>?_⟩;refine rn 6 ?_;exact⟨xQ Value.bool (YH (j:=j) (h:=by omega)<|OV (aS hg2) fX).symm,hF.same⟩;refine rn 5<|Tc (Le<|((j+1:Nat):Int)) ?_;refine rn 2<|Va ⟨_,?_,j+1,O,fX,LM hs_ λ_=>FL (aS hg2) fX,Gc,hF⟩;omega;refine rn 11 ?_;exact⟨xQ Value.bool (L_ (j:=j) hs_ fX).symm,hF.same⟩;refine rn 17 ?_;exact⟨xQ Value.bool (L_ (j:=j) hs_ fX).symm,hF.same⟩
open Go.RowKit
theorem Uv(x y:Int):(x<y/\Lib.compareInt x y = -1)\/(x=y/\Lib.compareInt x y=0)\/(y<x/\Lib.compareInt x y=1):=by
  unfold Lib.compareInt;grind
theorem Td(p:List Str)(x y:Str):Dc p x y = -1\/Dc p x y=0\/Dc p x y=1:=by
  unfold Dc;split
  ·rcases Uv (p.idxOf x) (p.idxOf y)with h|h|h
   all_goals grind
  grind
theorem DW(p:List Str)(x y:Str):Dc p y x = - Dc p x y:=by
  unfold Dc;by_cases h:x∈p/\y∈p
  ·rw[uQ h, uQ ⟨h.2, h.1⟩]
   rcases Uv (p.idxOf x) (p.idxOf y)with h1|h1|h1 <;> rcases Uv (p.idxOf y) (p.idxOf x)with h2|h2|h2 <;> omega
  grind
theorem Gw(b l r:List Str)(x y:Str):Pc b l r y x=(Pc b l r x y).map λc=>-c:=by grind [Pc,DW,Td]
theorem T3{b l r:List Str}{x y:Str}{c:Int}(h:Pc b l r x y=some c):c = -1\/c=0\/c=1:=by grind [Pc,Td]
def Gj(l:List Str):MapL:=l.zipIdx.map λx=>(x.1,J (x.2:Int))
theorem MV(l:List Str)(s:Str):Gj l++[(s,J (aL l:Int))]=Gj (l++[s]):=by grind [Gj]
theorem NJ(k:Str):∀(l:List Str)(n:Nat),Ad ((l.zipIdx n).map λx=>(x.1,Value.int .i64 (x.2:Int))) k=if k∈l then some (J ((n+l.idxOf k:Nat):Int)) else none
  | [],n=>rfl
  | s :: l, n => by
    rw[List.zipIdx_cons,iZ,Ef,NJ k l<|n+1];by_cases h:s=k
    ·subst h;simp
    rw[tQ h];have e1:(s==k)=false:=aS h
    by_cases h2:k∈l
    ·rw[uQ h2, uQ (fZ _ h2), List.idxOf_cons, e1]
     simp only[cond_false,Option.some.injEq,Value.int.injEq,true_and];omega
    rw[tQ h2,tQ (by simp[h2];exact λe=>h e.symm)]
theorem Cz(l:List Str)(k:Str):Ad (Gj l) k=if k∈l then some (J (l.idxOf k:Int)) else none:=by
  have:=NJ k l 0;rw[Nat.zero_add]at this;exact this
theorem Wv{l:List Str}(hn:l.Nodup){i j:Nat}(hi:i<aL l)(hj:j<aL l)(h:l[i]=l[j]):i=j:=by
  have h1:=List.pairwise_iff_getElem.1 hn;grind
def V3(names:List Str)(i j:Nat)(x y:Str):Prop :=
  (x∈names.take i/\y∈names.take i)\/(names[i]? = some x/\y∈names.take j)\/(names[i]? = some y/\x∈names.take j)
structure Bhd (b l r names:List Str) (i j:Nat) (out:Str->List Str):Prop where
  iff:∀x y,y∈out x↔x≠y/\V3 names i j x y/\Pc b l r x y=some (-1)
  nd:∀x,(out x).Nodup
def Zu(out:Str->List Str)(f t:Str):Str->List Str:=λx=>if x=f then out x++[t] else out x
theorem Bhd.start(b l r names:List Str):Bhd b l r names 0 0 (λ_=>[]) :=
  ⟨λx y=>by simp[V3],λ_=>List.nodup_nil⟩
def Bhd.row{b l r names:List Str}{i:Nat}{out:Str->List Str}(hi:i<aL names)(h:Bhd b l r names i i out):Bhd b l r names (i+1) 0 out:=by
  refine⟨λx y=>?_,h.nd⟩;rw[h.iff];have e:names[i]? = some names[i]:=List.getElem?_eq_getElem hi;have ht:∀s,s∈names.take (i+1)↔s∈names.take i\/s=names[i]:=λs=>by rw[iQ hi,mQ,pQ]
  unfold V3;rw[e,ht,ht];simp only[List.take_zero,List.not_mem_nil,and_false,or_false,Option.some.injEq];constructor
  ·rintro⟨h1, h2, h3⟩
   refine⟨h1,?_,h3⟩;rcases h2 with ⟨h2,h4⟩|⟨h2,h4⟩|⟨h2,h4⟩
   ·exact⟨.inl h2,.inl h4⟩
   ·exact⟨.inr h2.symm,.inl h4⟩
   exact⟨.inl h4,.inr h2.symm⟩
  rintro⟨h1, ⟨h2, h4⟩, h3⟩;refine⟨h1,?_,h3⟩;rcases h2 with h2|h2 <;> rcases h4 with h4|h4
  ·exact .inl ⟨h2,h4⟩
  ·exact .inr<|.inr ⟨h4.symm,h2⟩
  ·exact .inr<|.inl ⟨h2.symm,h4⟩
  exact absurd (h2.trans h4.symm) h1
section
variable {b l r names:List Str}{i j:Nat}{out:Str->List Str}
theorem VB(hj:j<i)(hi:i<aL names)(x y:Str):V3 names i (j+1) x y↔V3 names i j x y\/(x=names[i]/\y=names[j])\/(y=names[i]/\x=names[j]):=by
  have e:names[i]? = some names[i]:=qJ
  have ht:∀s,s∈names.take (j+1)↔s∈names.take j\/s=names[j]:=λs=>by rw[iQ (show j<aL names by omega),mQ,pQ]
  grind [V3]
theorem not_seen(hn:names.Nodup)(hj:j<i)(hi:i<aL names):¬V3 names i j names[i] names[j]/\¬V3 names i j names[j] names[i]/\names[i]≠names[j]:=by
  have e:names[i]? = some names[i]:=qJ
  have h1:∀m≤i,names[i]∉names.take m:=λm hm hx=>by
    obtain⟨q,hq,he⟩:=List.mem_take_iff_getElem.1 hx;have:=Wv hn fX fX he;omega
  have h2:names[j]∉names.take j:=λhx=>by
    obtain⟨q,hq,he⟩:=List.mem_take_iff_getElem.1 hx;have:=Wv hn fX fX he;omega
  have h3:names[i]≠names[j]:=λhe=>by
    have:=Wv hn fX fX he;omega
  unfold V3;rw[e];refine⟨?_,?_,h3⟩
  ·rintro (h|h|h)
   ·exact h1 i (gQ _) h.1
   ·exact h2 h.2
   exact h3<|lQ h.1
  rintro (h|h|h)
  ·exact h1 i (gQ _) h.2
  ·exact h3<|lQ h.1
  exact h2 h.2
theorem Bhd.none(hn:names.Nodup)(hj:j<i)(hi:i<aL names)(h:Bhd b l r names i j out)(hc:Pc b l r names[i] names[j]=some 0):Bhd b l r names i (j+1) out:=by
  refine⟨λx y=>?_,h.nd⟩;rw[h.iff,VB hj hi];grind [Pc,Gw]
theorem Bhd.add(hn:names.Nodup)(hj:j<i)(hi:i<aL names)(h:Bhd b l r names i j out){f t:Str}(hft:(f=names[i]/\t=names[j])\/(f=names[j]/\t=names[i]))(hc:Pc b l r f t=some (-1)) :
    Bhd b l r names i (j+1) (Zu out f t)/\t∉out f:=by
  obtain⟨n1,n2,n3⟩:=not_seen hn hj hi;have hno:¬V3 names i j f t/\f≠t:=qJ
  have hnm:t∉out f:=λhm=>hno.1 ((h.iff f t).1 hm).2.1;have hct:Pc b l r t f=some 1:=by grind [Gw]
  refine⟨⟨λx y=>?_,λx=>?_⟩,hnm⟩
  ·have hs : V3 names i (j + 1) x y ↔ V3 names i j x y \/ (x = f /\ y = t) \/ (x = t /\ y = f) := by grind [VB]
   rw[hs];unfold Zu;by_cases hx:x=f
   ·subst hx
    rw[uQ rfl,mQ,pQ,h.iff];grind
   rw[tQ hx, h.iff];grind
  unfold Zu;split
  ·rename_i e
   subst e;exact List.nodup_append.2 ⟨h.nd _,Ca,λa ha b hb e=>by rw[pQ.1 hb]at e;exact hnm<|e▸ha⟩
  exact h.nd x
def Wf(rest:List Str)(out:Str->List Str)(y:Str):Nat:=rest.countP λx=>decide (y∈out x)
theorem cnt_add{out:Str->List Str}(hn:rest.Nodup)(hf:f∈rest)(ht:t∉out f)(y:Str):Wf rest (Zu out f t) y=Wf rest out y+if y=t then 1 else 0:=by
  unfold Wf
  induction rest with
  | nil=>cases hf
  | cons a rest ih =>
    obtain⟨h1,h2⟩:=List.nodup_cons.1 hn;rw[List.countP_cons,List.countP_cons];have hsame:∀x,x≠f->Zu out f t x=out x:=λx hx=>tQ hx;by_cases e:a=f
    ·subst e
     have hrest:(rest.countP λx=>decide (y∈Zu out a t x))=rest.countP λx=>decide (y∈out x) :=
       List.countP_congr λx hx=>by rw[hsame x λe=>h1<|e▸hx]
     grind [Zu]
    grind
theorem YB{out:Str->List Str}(y:Str):∀{rest:List Str}{k:Nat}(hk:k<aL rest),Wf (rest.eraseIdx k) out y+(if y∈out rest[k] then 1 else 0)=Wf rest out y
  | a::rest,0,_=>by unfold Wf;rw[List.countP_cons];simp
  | a :: rest, k + 1, hk => by
    have ih:=YB (out:=out) y (rest:=rest) (k:=k) (aS hk);unfold Wf at ih ⊢;rw[List.eraseIdx_cons_succ,List.countP_cons,List.countP_cons,<-ih];simp only[List.getElem_cons_succ];omega
theorem free_iff(h:Bhd b l r names (aL names) 0 out)(hs:∀s∈rest,s∈names){s:Str}(hm:s∈rest):D2 b l r rest s=decide (Wf rest out s=0):=by
  have ha:∀x∈rest,(s∈out x↔x≠s/\Pc b l r x s=some (-1)):=λx hx=>by
    rw[h.iff];exact⟨λh=>⟨h.1,h.2.2⟩,λh=>⟨h.1,.inl ⟨by rw[List.take_length];exact hs x hx,by rw[List.take_length];exact hs s hm⟩,h.2⟩⟩
  unfold D2 Wf;rw[Bool.eq_iff_iff,List.all_eq_true,wQ,List.countP_eq_zero];grind
end
theorem FR.old{b:Nat}{o:Obj}(hF:FR w0 [] bs_ w)(hb:w0.heap[b]? = some o):w.heap[b]? = some o:=(hF.same.block b (Ga hb) Ca).trans hb
def plI(p:List Str)(x:Str):Int:=if x∈p then ((p.idxOf x:Nat):Int) else 0
theorem ID(p:List Str)(x:Str):(Ad (Gj p) x).getD (J 0)=J (plI p x):=by grind [Cz,plI]
theorem BF(p:List Str)(x:Str):(Ad (Gj p) x).isSome=decide (x∈p):=by grind [Cz]
theorem AY{p:List Str}{x:Str}(h:¬x∈p):Ad (Gj p) x=none:=by grind [Cz]
theorem WX{l:List Str}{j:Nat}(h:j<aL l):Gj (l.take j)++[(l[j],J (j:Int))]=Gj (l.take (j+1)):=by
  have:=MV (l.take j) l[j];rw[gZ,Nat.min_eq_left<|Nat.le_of_lt h]at this;simp_all
theorem MN{l:List Str}{j:Nat}(h:j<aL l)(hn:(l.take j).Nodup)(hx:¬l[j]∈l.take j):(l.take (j+1)).Nodup:=by
  rw[iQ h];grind
def YV{l:List Str}{j:Nat}(h:j<aL l)(hx:l[j]∈l.take j):¬l.Nodup:=λhn=>by
  obtain⟨q,hq,he⟩:=List.mem_take_iff_getElem.1 hx;have:=Wv hn fX h he;omega
def PlcAt(w:World)(v:Value)(l:List Str):Prop:=∃b,v=.map (some b)/\w.heap[b]? = some (Ub (Gj l))
def PlcAt.ext{v:Value}{l:List Str}(h:PlcAt w v l)(hs:Same [] w w'):PlcAt w' v l:=by
  obtain⟨b,h1,h2⟩:=h;exact⟨b,h1,Oc h2 hs⟩
def Ex(q:List Str)(x y:Str):Rep S w (Pd (Dc q x y)) [J (Dc q x y)]:=by
  have h:=Td q x y;exact Rep.lit_mk (v:=J<|Dc q x y) (show Wx _ from⟨by show (-9223372036854775808:Int)<=_;omega,by show _<=(9223372036854775807:Int);omega⟩)
def orI(l:List Int):Int:=(l.find? λx=>decide (x≠0)).getD 0
theorem orI_at{l:List Int}{j:Nat}(h:j<aL l)(hz:∀x∈l.take j,x=0)(hx:l[j]≠0):orI l=l[j]:=by
  have e:l=l.take j++l[j]::l.drop (j+1):=qX
  unfold orI;have e2:(l.find? λx=>decide (x≠0))=(l.take j++l[j]::l.drop (j+1)).find? λx=>decide (x≠0):=xQ (λq:List Int=>q.find? λx=>decide (x≠0)) e;rw[e2,List.find?_append];have h1:(l.take j).find? (λx=>decide (x≠0))=none:=List.find?_eq_none.2 λx hx=>by simpa using hz x hx
  rw[h1,Option.none_or,List.find?_cons_of_pos (aS hx)];simp
def orI_none{l:List Int}(hz:∀x∈l,x=0):orI l=0:=by
  unfold orI;rw[List.find?_eq_none.2 λx hx=>by simpa using hz x hx];rfl
theorem KW{l:List Int}{j:Nat}(h:j<aL l)(hz:∀x∈l.take j,x=0)(hx:¬l[j]≠0):∀x∈l.take (j+1),x=0:=by
  rw[iQ h];grind
def CJ(l:List Str)(A:Option Addr)(c:Nat)(S:Nat->Prop)(w0:World)(hL:Rep S w0 (Wa l) [.slice A (aL l) c]):Calls prog 169 #[.slice A (aL l) c] w0 (Qb λv w'=>(∃m:Option Nat,v=.tuple #[.map m,.bool (Re l)]/\(l.Nodup->PlcAt w' (.map m) l)/\(∀b,m=some b->w0.heap.size<=b)/\Same [] w0 w')):=by
 have hLl:=hL.slice_len;refine Ha func169 ntmps169 ?_;intro hF;refine rn 10<|Tj (v:=λb=>.map<|some b) hF (L1 underlying169 O) ?_;rintro b1 w hb1 hF -;refine rn 12<|Za (λμ σ w=>∃(j:Nat),μ=aL l-j/\(j<=aL l)/\((l.take j).Nodup)/\AllEq σ [(0,.slice A (aL l) c),(4,.map<|some b1),(12,.slice A (aL l) c),(13,J<|(aL l:Nat)),(14,J<|(j:Int))]/\FR w0 [] [(b1,Ub<|Gj<|l.take j)] w) _ ⟨0,O,bZ _,Ca,Gc,hF⟩ ?_;rintro μ σ w ⟨j,rfl,hj,hn,hzz,hF⟩;refine Gh hzz 7 ⟨λhc0=>?_,λhc0=>?_⟩;refine rn 7 ?_;obtain⟨ad0,hA0,hk0,hx0⟩:=hL.str_elem (i:=j) fX;refine Da (v:=.pointer<|some<|ad0.add<|j*1) (Ea (i:=(j:Int)) Hd hA0)<|Da (v:=.string<|bs<|l[j]) (Ma qZ<|hF.cell0 hk0) ?_;refine rn 9<|Da (v:=.tuple #[J<|plI (l.take j) l[j],.bool<|decide (l[j]∈l.take j)]) (Oj underlying169 bX dX O O (hF.heap (i:=0) O) (ID _ _)<|BF _ _) ?_;refine rn 13 ⟨λhc1=>?_,λhc1=>?_⟩;refine rn 7 ?_;have hnn:¬l.Nodup:=YV (j:=j) fX qK;exact⟨_,by rw[Re,dZ hnn,Bool.false_and],λh=>absurd h hnn,λb h=>bJ,hF.same⟩;refine rn 6<|Tm 0 (v:=J<|(j:Int)) hF underlying169 bX O O O O (AY qK) ?_;rintro w hF -;rw[WX fX]at hF;have hF:FR w0 [] [(b1,Ub<|Gj<|l.take<|j+1)] w:=hF;refine rn 4<|Tc (Le<|((j+1:Nat):Int)) ?_;refine rn 2<|Va ⟨_,?_,j+1,O,fX,MN fX hn qK,Gc,hF⟩;omega;refine rn 13 ?_;obtain rfl:j=aL l:=by_Om
 rw[List.take_length]at hn;have hh:=hF.heap (i:=0) rfl;rw[List.take_length]at hh;exact⟨_,by rw[Re,eZ hn,Bool.true_and];simp;omega,λ_=>⟨_,O,hh⟩,λb h=>(by cases h;exact hF.ge (i:=0) O),hF.same⟩
def once_c(l:List Str)(A:Option Addr)(c:Nat)(S:Nat->Prop)(w0:World)(hL:Rep S w0 (Wa l) [.slice A (aL l) c]):Calls prog 135 #[.slice A (aL l) c] w0 (Qb λv w'=>v=.bool (Re l)/\Same [] w0 w'):=by
 refine Ha func135 ntmps135 ?_;intro hF;refine rn 8<|Yb (CJ l A c S _<|hF.rep hL) ?_;rintro _ w ⟨m,rfl,-,-,hE⟩;have hF:=hF.ext hE;refine rn 14 ?_;exact⟨O,hF.same⟩
theorem UL(p:List Str)(x y:Str)(b:Nat)(w0:World)(hb:w0.heap[b]? = some (Ub (Gj p))):Calls prog 200 #[.map (some b),.string (bs x),.string (bs y)] w0 (Qb λv w'=>v=J (Dc p x y)/\Same [] w0 w'):=by
 refine Ha func200 ntmps200 ?_;intro hF;refine rn 9<|Da (v:=.tuple #[J<|plI p x,.bool<|decide (x∈p)]) (Oj underlying169 bX dX O O (hF.old hb) (ID _ _)<|BF _ _) ?_;refine rn 11<|Da (v:=.tuple #[J<|plI p y,.bool<|decide (y∈p)]) (Oj underlying169 bX dX O O (hF.old hb) (ID _ _)<|BF _ _) ?_;refine rn 14 ⟨λhg0=>?_,λhg0=>?_⟩;refine rn 12 ?_;exact⟨xQ (Value.int .i64) (by unfold Dc;rw[tQ];simp_all),hF.same⟩;refine rn 6 ⟨λhc0=>?_,λhc0=>?_⟩;refine rn 6 ?_;exact⟨xQ (Value.int .i64) (by unfold Dc;rw[tQ];simp_all),hF.same⟩;refine rn 6<|Ta (cmpInt_c (plI p x) (plI p y) _) ?_;rintro w hF -;refine rn 4 ?_;exact⟨xQ (Value.int .i64) (by unfold Dc plI;simp_all),hF.same⟩
def OS(l:List Int)(A:Option Addr)(c:Nat)(S:Nat->Prop)(w0:World)(hX:Rep S w0 (.slice (l.map Pd)) [.slice A (aL l) c]):Calls prog 201 #[.slice A (aL l) c] w0 (Qb λv w'=>v=J (orI l)/\Same [] w0 w'):=by
 have hXl:=hX.slice_len;rw[rQ]at hXl;refine Ha func201 ntmps201 ?_;intro hF;refine rn 19<|Za (λμ σ w=>∃(j:Nat),μ=aL l-j/\(j<=aL l)/\(∀x∈l.take j,x=0)/\AllEq σ [(3,J 0),(6,.slice A (aL l) c),(7,J<|(aL l:Nat)),(8,J<|(j:Int))]/\FR w0 [] [] w) _ ⟨0,O,bZ _,Ca,Gc,hF⟩ ?_;rintro μ σ w ⟨j,rfl,hj,hz,hzz,hF⟩;refine Gh hzz 7 ⟨λhc0=>?_,λhc0=>?_⟩;refine rn 6 ?_;obtain⟨ad0,hA0,hk0,hx0⟩:=hX.int_elem (i:=j) fX;refine Da (v:=.pointer<|some<|ad0.add<|j*1) (Ea (i:=(j:Int)) Ud hA0)<|Da (v:=J<|l[j]) (Ma oZ<|hF.cell0 hk0) ?_;refine rn 11 ⟨λhc1=>?_,λhc1=>?_⟩;refine rn 7 ?_;exact⟨xQ (Value.int .i64) (orI_at fX hz qK).symm,hF.same⟩;refine rn 4<|Tc (Le<|((j+1:Nat):Int)) ?_;refine rn 2<|Va ⟨_,?_,j+1,O,fX,KW fX hz qK,Gc,hF⟩;omega;refine rn 9 ?_;obtain rfl:j=aL l:=by_Om
 rw[List.take_length]at hz;exact⟨xQ (Value.int .i64) (orI_none hz).symm,hF.same⟩
def Pi{P:Program}{ty:TypeId}{pos:String}{aft:Array Edge}{g:Option (Nat × Bool)}{ρ:Operand->Value}{dst:Option Nat}{t e m len b o:Nat}{x y:Operand}{kk:IntKind}{i:Int}(o':Nat)(ht:P.underlying t=some (.array len e))(hs:∀w,(sizeOf e).run P w=.ok m w)(hx:ρ x=.pointer (some ⟨b,o,none⟩):=by rfl)(hy:ρ y=.int kk i:=by rfl)(h0:0<=i:=by decide)(h1:i<len:=by decide)(ho:o+i.toNat*m=o':=by rfl) :
    (execOp ρ ⟨dst,.indexAddr t x y,ty,pos,aft,g⟩).run P w=.ok (.value (.pointer (some ⟨b,o',none⟩))) w:=by
  have hu:∀w,(underlying t).run P w=.ok (.array len e) w:=run_underlying ht;have h:=Qe b o<|i.toNat*m;rw[ho]at h;simp[execOp,Instr.indexAt,hx,hy,asIntOf,hu,h0,h1,hs,Instr.sureAddr,h]
def PlcN(L:List Nat)(w:World)(v:Value)(l:List Str):Prop:=∃b,v=.map (some b)/\(∀x∈L,x<b)/\w.heap[b]? = some (Ub (Gj l))
def Plcs(L:List Nat)(w:World)(ms:List Value)(rows:List (List Str))(j:Nat):Prop:=∀i,i<j->∃l,rows[i]? = some l/\Re l=true/\PlcN L w (ms.getD i .nilIface) l
def Plcs.ext{rows:List (List Str)}{j:Nat}(h:Plcs L w ms rows j)(hs:Same [] w w'):Plcs L w' ms rows j:=λi hi=>by
  obtain⟨l,h1,h2,b,h3,h4,h5⟩:=h i hi;exact⟨l,h1,h2,b,h3,h4,Oc h5 hs⟩
def Plcs.store{rows:List (List Str)}{j x:Nat}(h:Plcs L w ms rows j)(hs:Same [x] w w')(hx:x∈L):Plcs L w' ms rows j:=λi hi=>by
  obtain⟨l,h1,h2,b,h3,h4,h5⟩:=h i hi;exact⟨l,h1,h2,b,h3,h4,(hs.block b (Ga h5) (λhm=>by have:=h4 x hx;rw[pQ]at hm;omega)).trans h5⟩
theorem Plcs.put{ms':List Value}{rows:List (List Str)}{j:Nat}{l:List Str}(h:Plcs L w ms rows j)(hj:rows[j]? = some l)(ho:Re l=true)(hp:PlcN L w (ms'.getD j .nilIface) l)(hm:∀i,i<j->ms'.getD i .nilIface=ms.getD i .nilIface):Plcs L w ms' rows (j+1):=λi hi=>by
  rcases Nat.lt_or_ge i j with h1|h1
  ·rw[hm i h1]
   exact h i h1
  grind
theorem Cy{l:List Str}(h:Re l=true):l.Nodup:=by grind [Re]
def PlcAt.off{m:Option Nat}{l:List Str}(h:PlcAt w' (.map m) l)(hn:∀b,m=some b->w.heap.size<=b)(hl:∀x∈L,x<w.heap.size):PlcN L w' (.map m) l:=by
  obtain⟨b,h1,h2⟩:=h;exact⟨b,h1,λx hx=>Nat.lt_of_lt_of_le (hl x hx)<|hn b<|Value.map.inj h1,h2⟩
def Plcs.any{rows:List (List Str)}{j:Nat}(h:Plcs L w ms rows j):Plcs [] w ms rows j:=λi hi=>by
  obtain⟨l,h1,h2,b,h3,h4,h5⟩:=h i hi;exact⟨l,h1,h2,b,h3,λx hx=>(by cases hx),h5⟩
def I2(rows:List (List Str))(hr:aL rows=3)(A:Option Addr)(c:Nat)(S:Nat->Prop)(w0:World)(hR:Rep S w0 (.slice (rows.map Wa)) [.slice A (aL rows) c]):Calls prog 134 #[.slice A (aL rows) c] w0 (Qb λv w'=>(((∃l∈rows,Re l=false)/\v=.tuple #[.agg #[.map none,.map none,.map none],.bool false])\/(∃m0 m1 m2:Value,v=.tuple #[.agg #[m0,m1,m2],.bool true]/\Plcs [] w' [m0,m1,m2] rows 3))/\Same [] w0 w'):=by
 refine Ha func134 ntmps134 ?_;intro hF;refine rn 3 ?_;rintro b1 w hb1 hF -;refine rn 6 ?_;rintro b2 w hb2 hF -;refine rn 11<|Za (λμ σ w=>∃(j:Nat),∃(m0:Option Nat),∃(m1:Option Nat),∃(m2:Option Nat),μ=3-j/\(j<=3)/\(Plcs [b2,b1] w [.map m0,.map m1,.map m2] rows j)/\AllEq σ [(2,V b1),(4,V b2),(9,.slice A (aL rows) c),(10,J<|(aL rows:Nat)),(11,J<|(j:Int))]/\FR w0 [] [(b2,.cells #[(.map m0),(.map m1),(.map m2)] 217),(b1,.cells #[.map none,.map none,.map none] 171)] w) _ ⟨0,none,none,none,O,fX,λi hi=>absurd hi<|Nat.not_lt_zero _,Gc,hF⟩ ?_;rintro μ σ w ⟨j,m0,m1,m2,rfl,hj,hP,hzz,hF⟩;refine Gh hzz 7 ⟨λhc0=>?_,λhc0=>?_⟩;refine rn 7 ?_;obtain⟨ad0,B0,e0,hA0,hk0,hx0⟩:=hR.row_elem (i:=j) fX;refine Da (v:=.pointer<|some<|ad0.add<|j*1) (Ea (i:=(j:Int)) sl_129 hA0)<|Da (v:=.slice (B0) (aL rows[j]) e0) (Ma mZ<|hF.cell0 hk0) ?_;refine rn 7<|Yb (CJ rows[j] B0 e0 S _ (hF.rep hx0)) ?_;rintro _ w ⟨m,rfl,hm1,hm2,hE⟩;have hlo:∀x∈[b2,b1],x<_:=λx hx=>hF.lt_ids (x:=x) (aS hx);have hF:=hF.ext hE;have hP:=hP.ext hE;refine rn 15 ⟨λhc1=>?_,λhc1=>?_⟩;refine rn 2<|Da (w':=w) (v:=.agg #[.map none,.map none,.map none]) Ib ?_;refine rn 1 ?_;rintro w hF -;refine rn 4 ?_;exact⟨.inl ⟨⟨_,eQ (show j<aL rows by omega),by simpa using hc1⟩,O⟩,hF.same⟩;refine rn 3 ?_;obtain hjk|hjk|hjk:j=0\/j=1\/j=2:=by_Om
 subst hjk;have ho:Re rows[0]=true:=aS hc1
 have hq:Plcs [b2,b1] _ [.map m,.map m1,.map m2] rows (0+1):=hP.put (List.getElem?_eq_getElem fX) ho ((hm1<|Cy ho).off hm2 hlo) zN;clear hP;have hP:=hq;clear hq;refine rn 2<|Da (v:=V b2) (Pi (i:=0) 0 vZ sizeOf169) ?_;refine rn 1 ?_;intro w hF hE;have hP:=hP.store hE Ca;refine rn 4<|Tc (Le<|((0+1:Nat):Int)) ?_;refine rn 2<|Va ⟨_,?_,0+1,m,m1,m2,O,fX,hP,Gc,hF⟩;omega;subst hjk;have ho:Re rows[1]=true:=aS hc1
 have hq:Plcs [b2,b1] _ [.map m0,.map m,.map m2] rows (1+1):=hP.put (List.getElem?_eq_getElem fX) ho ((hm1<|Cy ho).off hm2 hlo) zN;clear hP;have hP:=hq;clear hq;refine rn 2<|Da (v:=.pointer<|some ⟨b2,1,none⟩) (Pi (i:=1) 1 vZ sizeOf169) ?_;refine rn 1 ?_;intro w hF hE;have hP:=hP.store hE Ca;refine rn 4<|Tc (Le<|((1+1:Nat):Int)) ?_;refine rn 2<|Va ⟨_,?_,1+1,m0,m,m2,O,fX,hP,Gc,hF⟩;omega;subst hjk;have ho:Re rows[2]=true:=aS hc1
 have hq:Plcs [b2,b1] _ [.map m0,.map m1,.map m] rows (2+1):=hP.put (List.getElem?_eq_getElem fX) ho ((hm1<|Cy ho).off hm2 hlo) zN;clear hP;have hP:=hq;clear hq;refine rn 2<|Da (v:=.pointer<|some ⟨b2,2,none⟩) (Pi (i:=2) 2 vZ sizeOf169) ?_;refine rn 1 ?_;intro w hF hE;have hP:=hP.store hE Ca;refine rn 4<|Tc (Le<|((2+1:Nat):Int)) ?_;refine rn 2<|Va ⟨_,?_,2+1,m0,m1,m,O,fX,hP,Gc,hF⟩;omega;refine rn 4<|Da (v:=V b2) (Pi (i:=0) 0 vZ sizeOf169) ?_;refine rn 1<|Da (v:=.pointer<|some ⟨b2,1,none⟩) (Pi (i:=1) 1 vZ sizeOf169) ?_;refine rn 1<|Da (v:=.pointer<|some ⟨b2,2,none⟩) (Pi (i:=2) 2 vZ sizeOf169) ?_;refine rn 1<|Da (w':=w) (v:=.agg #[(.map m0),(.map m1),(.map m2)]) Ib ?_;refine rn 1 ?_;intro w hF hE;have hP:=hP.store hE Ca;refine rn 4 ?_;obtain rfl:j=3:=by_Om
 exact⟨.inr ⟨.map m0,.map m1,.map m2,O,hP.any⟩,hF.same⟩
theorem ahead_c(b l r:List Str)(x y:Str)(B1 B2 B3:Nat)(w0:World)(h1:w0.heap[B1]? = some (Ub (Gj b)))(h2:w0.heap[B2]? = some (Ub (Gj l)))(h3:w0.heap[B3]? = some (Ub (Gj r))):Calls prog 170 #[.agg #[.map (some B1),.map (some B2),.map (some B3)],.string (bs x),.string (bs y)] w0 (Qb λv w'=>v=.tuple #[J ((Pc b l r x y).getD 0),.bool (Pc b l r x y).isSome]/\Same [] w0 w'):=by
 have hsb:=Td b x y;have hsl:=Td l x y;have hsr:=Td r x y;refine Ha func170 ntmps170 ?_;intro hF;refine rn 3 ?_;rintro b1 w hb1 hF -;refine rn 5<|Fe (zs:=.of []) (bQ [0,1,2,3,5,6,7,8,10,11,12,13]<|cQ [4,9,14]<|bQ [15,16,17] .nil) hF ?_;intro w hF;refine rn 12<|Mf (UL b x y B1 _<|hF.old h1) ?_;rintro w hF -;refine Mf (UL l x y B2 _<|hF.old h2) ?_;rintro w hF -;refine Mf (UL r x y B3 _<|hF.old h3) ?_;rintro w hF -;refine rn 13 ⟨λhg0=>?_,λhg0=>?_⟩;refine rn 2<|Da (v:=J<|-(Dc b x y)) (U_ O<|Yf fX fX fX) ?_;refine rn 3 ⟨λhg1=>?_,λhg1=>?_⟩;refine rn 13<|Da (v:=J<|-(Dc b x y)) (U_ O<|Yf fX fX fX) ?_;refine rn 5 ⟨?_,hF.same⟩;unfold Pc;generalize Dc b x y=p at *;generalize Dc l x y=q at *;generalize Dc r x y=s at *;rcases hsb with rfl|rfl|rfl <;> rcases hsl with rfl|rfl|rfl <;> rcases hsr with rfl|rfl|rfl <;> first|rfl|(exfalso;omega)|simp_all
 refine rn 2<|Da (v:=J<|-(Dc b x y)) (U_ O<|Yf fX fX fX) ?_;refine rn 7 ⟨λhc0=>?_,λhc0=>?_⟩;refine rn 3<|Da (v:=J<|-(Dc b x y)) (U_ O<|Yf fX fX fX) ?_;refine rn 5 ⟨?_,hF.same⟩;unfold Pc;generalize Dc b x y=p at *;generalize Dc l x y=q at *;generalize Dc r x y=s at *;rcases hsb with rfl|rfl|rfl <;> rcases hsl with rfl|rfl|rfl <;> rcases hsr with rfl|rfl|rfl <;> first|rfl|(exfalso;omega)|simp_all
 refine rn 8 ⟨λhc1=>?_,λhc1=>?_⟩;refine rn 8 ⟨?_,hF.same⟩;unfold Pc;generalize Dc b x y=p at *;generalize Dc l x y=q at *;generalize Dc r x y=s at *;rcases hsb with rfl|rfl|rfl <;> rcases hsl with rfl|rfl|rfl <;> rcases hsr with rfl|rfl|rfl <;> first|rfl|(exfalso;omega)|simp_all
 refine rn 4 ?_;refine Da (v:=J<|(Dc l x y)*(Dc r x y)) (F8 rfl rfl<|Lk qH qH) ?_;refine rn 5 ⟨λhc2=>?_,λhc2=>?_⟩;refine rn 7 ⟨?_,hF.same⟩;unfold Pc;generalize Dc b x y=p at *;generalize Dc l x y=q at *;generalize Dc r x y=s at *;rcases hsb with rfl|rfl|rfl <;> rcases hsl with rfl|rfl|rfl <;> rcases hsr with rfl|rfl|rfl <;> first|rfl|(exfalso;omega)|simp_all
 refine rn 8 ?_;rintro b2 w hb2 hF -;refine Ta (OS [Dc l x y,Dc r x y] _ _ _ _<|hF.rowS (S:=λ_=>False) 0 O (ds:=[Dc l x y,Dc r x y].map Pd) (n:=2) (RepL.cons_mk (Ex l x y)<|RepL.cons_mk (c2:=[]) (Ex r x y) RepL.nil_mk) O fX) ?_;rintro w hF -;refine rn 5 ⟨?_,hF.same⟩;unfold Pc;generalize Dc b x y=p at *;generalize Dc l x y=q at *;generalize Dc r x y=s at *;rcases hsb with rfl|rfl|rfl <;> rcases hsl with rfl|rfl|rfl <;> rcases hsr with rfl|rfl|rfl <;> first|rfl|(exfalso;omega)|simp_all
 refine rn 23 ⟨λhc1=>?_,λhc1=>?_⟩;refine rn 8 ⟨?_,hF.same⟩;unfold Pc;generalize Dc b x y=p at *;generalize Dc l x y=q at *;generalize Dc r x y=s at *;rcases hsb with rfl|rfl|rfl <;> rcases hsl with rfl|rfl|rfl <;> rcases hsr with rfl|rfl|rfl <;> first|rfl|(exfalso;omega)|simp_all
 refine rn 4 ?_;refine Da (v:=J<|(Dc l x y)*(Dc r x y)) (F8 rfl rfl<|Lk qH qH) ?_;refine rn 5 ⟨λhc2=>?_,λhc2=>?_⟩;refine rn 7 ⟨?_,hF.same⟩;unfold Pc;generalize Dc b x y=p at *;generalize Dc l x y=q at *;generalize Dc r x y=s at *;rcases hsb with rfl|rfl|rfl <;> rcases hsl with rfl|rfl|rfl <;> rcases hsr with rfl|rfl|rfl <;> first|rfl|(exfalso;omega)|simp_all
 refine rn 8 ?_;rintro b3 w hb3 hF -;refine Ta (OS [Dc l x y,Dc r x y] _ _ _ _<|hF.rowS (S:=λ_=>False) 0 O (ds:=[Dc l x y,Dc r x y].map Pd) (n:=2) (RepL.cons_mk (Ex l x y)<|RepL.cons_mk (c2:=[]) (Ex r x y) RepL.nil_mk) O fX) ?_;rintro w hF -;refine rn 5 ⟨?_,hF.same⟩;unfold Pc;generalize Dc b x y=p at *;generalize Dc l x y=q at *;generalize Dc r x y=s at *;rcases hsb with rfl|rfl|rfl <;> rcases hsl with rfl|rfl|rfl <;> rcases hsr with rfl|rfl|rfl <;> first|rfl|(exfalso;omega)|simp_all
def strV(s:Str):Value:=.string (bs s)
def U0(E:List (Str × List Str))(x:Str):List Str:=((E.find? λp=>decide (p.1=x)).map (·.2)).getD []
theorem Sl(k:Str)(ys:List Str)(E:List (Str × List Str))(x:Str):U0 ((k,ys)::E) x=if k=x then ys else U0 E x:=by grind [U0]
inductive OutM (T:Nat):List (Str × List Str)->MapL->List (Nat × Obj)->Prop
  | nil:OutM T [] [] []
  | cons {k : Str} {ys : List Str} {A : Option Addr} {c : Nat} {st : List (Nat × Obj)} {E : List (Str × List Str)} {l : MapL} {sm : List (Nat × Obj)} (hS : SlB T 1 A (aL ys) c (ys.map strV) st) (h : OutM T E l sm) :
    OutM T ((k,ys)::E) ((k,.slice A (aL ys) c)::l) (st++sm)
theorem UB(x:Str × Value)(l:MapL)(k:Str)(v:Value):Kl (x::l) k v=if x.1=k then (k,v)::l else x::Kl l k v:=by grind [Kl]
def OutF(T:Nat)(out:Str->List Str)(l:MapL)(sm:List (Nat × Obj)):Prop:=∃E,OutM T E l sm/\U0 E=out
def OutF.nil(T:Nat):OutF T (λ_=>[]) [] []:=⟨[],.nil,rfl⟩
theorem OutM.open_{E:List (Str × List Str)}{l:MapL}(h:OutM T E l sm)(k:Str) :
    ∃(s1 st s2 : List (Nat × Obj))(A : Option Addr)(c : Nat), sm = s1 ++ (st ++ s2) /\ SlB T 1 A (aL (U0 E k)) c ((U0 E k).map strV) st /\ (Ad l k).getD (aQ) = .slice A (aL (U0 E k)) c /\
      ∀(ys:List Str)(A':Option Addr)(c':Nat)(st':List (Nat × Obj)),SlB T 1 A' (aL ys) c' (ys.map strV) st'->∃E',OutM T E' (Kl l k (.slice A' (aL ys) c')) (s1++(st'++s2))/\∀x,U0 E' x=if k=x then ys else U0 E x:=by
  induction h with
  | nil =>
    refine⟨[],[],[],none,0,O,SlB.nil _ _,O,λys A' c' st' hS=>⟨[(k,ys)],?_,λx=>?_⟩⟩
    ·have := OutM.cons (k := k) hS (OutM.nil (T := T))
     grind [Kl]
    rw[Sl]
  | @cons k0 ys0 A0 c0 st0 E l sm hS0 h ih =>
    by_cases e:k0=k
    ·subst e
     have e1:U0 ((k0,ys0)::E) k0=ys0:=by rw[Sl,uQ rfl]
     refine⟨[],st0,sm,A0,c0,O,by rw[e1];exact hS0,by rw[e1,Ef,uQ O];rfl,λys A' c' st' hS=>⟨(k0,ys)::E,?_,λx=>?_⟩⟩
     ·rw[UB, uQ rfl]
      exact OutM.cons (st:=st') hS h
     rw[Sl, Sl];split <;> rfl
    obtain⟨s1, st, s2, A, c, h1, h2, h3, h4⟩ := ih;have e1:U0 ((k0,ys0)::E) k=U0 E k:=by rw[Sl,tQ e]
    refine⟨st0++s1,st,s2,A,c,by rw[h1];simp,by rw[e1];exact h2,by rw[e1,Ef,tQ e];exact h3,λys A' c' st' hS=>?_⟩;obtain⟨E',h5,h6⟩:=h4 ys A' c' st' hS;refine⟨(k0,ys0)::E',?_,λx=>?_⟩
    ·rw[UB, tQ e]
     have:=OutM.cons (k:=k0) hS0 h5;simpa[sQ]using this
    rw[Sl, Sl, h6];by_cases e2:k0=x
    ·rw[uQ e2,uQ e2,tQ λh=>e<|e2.trans h.symm]
    rw[tQ e2,tQ e2]
theorem OutF.open_{out:Str->List Str}{l:MapL}(h:OutF T out l sm)(f:Str) :
    ∃(s1 st s2 : List (Nat × Obj))(A : Option Addr)(c : Nat), sm = s1 ++ (st ++ s2) /\ SlB T 1 A (aL (out f)) c ((out f).map strV) st /\ (Ad l f).getD (aQ) = .slice A (aL (out f)) c /\
      ∀(t:Str)(A':Option Addr)(c':Nat)(st':List (Nat × Obj)),SlB T 1 A' (aL (out f)+1) c' ((out f).map strV++[strV t]) st'->OutF T (Zu out f t) (Kl l f (.slice A' (aL (out f)+1) c')) (s1++(st'++s2)):=by
  obtain⟨E,h,rfl⟩:=h;obtain⟨s1,st,s2,A,c,h1,h2,h3,h4⟩:=h.open_ f;refine⟨s1,st,s2,A,c,h1,h2,h3,λt A' c' st' hS=>?_⟩;obtain⟨E',h5,h6⟩:=h4 (U0 E f++[t]) A' c' st' (aS hS);refine⟨E',by simpa using h5,funext λx=>?_⟩;grind [Zu]
theorem OutF.rep{out:Str->List Str}{l:MapL}{pre post:List (Nat × Obj)}{Ds:List Nat}(h:OutF T out l sm)(hF:FR w0 Ds (pre++(sm++post)) w)(hl:∀x,∀s∈out x,aL s<=maxLen)(hS:∀q∈sm,S q.1)(x:Str) :
    ∃(A:Option Addr)(c:Nat),(Ad l x).getD (aQ)=.slice A (aL (out x)) c/\Rep S w (Wa (out x)) [.slice A (aL (out x)) c]:=by
  obtain⟨s1,st,s2,A,c,rfl,h2,h3,-⟩:=h.open_ x;refine⟨A,c,h3,?_⟩;have hF':FR w0 Ds ((pre++s1)++(st++(s2++post))) w:=qJ
  have hr:RepL S w ((out x).map Hh) ((out x).map strV):=by
    have:∀l:List Str,(∀s∈l,aL s<=maxLen)->RepL S w (l.map Hh) (l.map strV):=λl=>by
      induction l with
      | nil=>intro _;exact RepL.nil_mk
      | cons s l ih =>
        intro h;exact RepL.cons_mk (c1:=[strV s]) (Rep.lit_mk (show Wx (.string<|bs s) from h s Ca))<|ih λz hz=>h z qA
    grind
  exact h2.repOf (λq hq=>⟨(hF'.own q zM).1,hS q zM⟩) hr Ca
def CntF(l:MapL)(f:Str->Nat):Prop:=∀y,(Ad l y).getD (J 0)=J ((f y:Nat):Int)
def CntF.nil:CntF [] λ_=>0:=λ_=>rfl
theorem CntF.put{l:MapL}{f:Str->Nat}(h:CntF l f)(t:Str)(n:Nat):CntF (Kl l t (J ((n:Nat):Int))) λy=>if y=t then n else f y:=λy=>by
  rw[H1];by_cases e:t=y
  ·grind
  rw[tQ e, h y];grind
def OX(rest:List Str)(out:Str->List Str)(y:Str):Wf rest out y<=aL rest:=List.countP_le_length
section
variable {b l r names:List Str}{x y:Str}{o:Option Int}{i j:Nat}
def ahead_o(B1 B2 B3:Nat)(w0:World)(h1:w0.heap[B1]? = some (Ub (Gj b)))(h2:w0.heap[B2]? = some (Ub (Gj l)))(h3:w0.heap[B3]? = some (Ub (Gj r)))(ho:o=Pc b l r x y) :
    Calls prog 170 #[.agg #[.map (some B1),.map (some B2),.map (some B3)],.string (bs x),.string (bs y)] w0 (Qb λv w'=>v=.tuple #[J (o.getD 0),.bool o.isSome]/\Same [] w0 w'):=ho▸ahead_c b l r x y B1 B2 B3 w0 h1 h2 h3
theorem IT(ho:o=Pc b l r x y)(h:0<o.getD 0):Pc b l r y x=some (-1):=by
  cases o with
  | none=>grind
  | some c=>grind [T3,Gw]
theorem XT(ho:o=Pc b l r x y)(hs:o.isSome=true)(h0:¬o.getD 0=0)(h:¬0<o.getD 0):Pc b l r x y=some (-1):=by
  cases o with
  | none=>cases hs
  | some c=>grind [T3]
theorem OP(ho:o=Pc b l r x y)(hs:o.isSome=true)(h0:o.getD 0=0):Pc b l r x y=some 0:=by
  cases o with
  | none=>cases hs
  | some c=>grind
theorem clash_of(hi:i<aL names)(hj:j<i)(h:Pc b l r names[i] names[j]=none):Vm b l r names=true:=by
  unfold Vm;rw[List.any_eq_true];refine⟨i,List.mem_range.2 hi,List.any_eq_true.2 ⟨names[j],List.mem_take_iff_getElem.2 ⟨j,by_Om,O⟩,?_⟩⟩;grind
theorem no_clash(h:∀q<aL names,∀y∈names.take q,Pc b l r (names.getD q []) y≠none):Vm b l r names=false:=by grind [Vm]
theorem DR(hj:j<aL names)(hn:∀z∈names.take j,Pc b l r x z≠none)(h:Pc b l r x names[j]≠none):∀z∈names.take (j+1),Pc b l r x z≠none:=by
  rw[iQ hj];grind
theorem ne_row(hi:i<aL names)(hn:∀q<i,∀z∈names.take q,Pc b l r (names.getD q []) z≠none)(h:∀z∈names.take i,Pc b l r names[i] z≠none):∀q<i+1,∀z∈names.take q,Pc b l r (names.getD q []) z≠none:=λq hq z hz=>by
  grind
theorem IE(ho:o=Pc b l r x y)(hs:o.isSome=true):Pc b l r x y≠none:=qJ
theorem add_len{out:Str->List Str}{N:Nat}(f t:Str)(h:∀x,aL (out x)<=N):∀x,aL (Zu out f t x)<=N+1:=λx=>by
  grind [Zu]
def CntF.add{m:MapL}{out:Str->List Str}{f t:Str}(h:CntF m (Wf names out))(hn:names.Nodup)(hf:f∈names)(ht:t∉out f):CntF (Kl m t (J ((Wf names out t+1:Nat):Int))) (Wf names (Zu out f t)):=by
  have e:(Wf names<|Zu out f t)=λy=>if y=t then Wf names out t+1 else Wf names out y:=funext λy=>by
    rw[cnt_add hn hf ht];by_cases e:y=t
    ·rw[uQ e,uQ e,e]
    rw[tQ e,tQ e];rfl
  rw[e];exact h.put t _
theorem ft_mem(hi:i<aL names)(hj:j<aL names)(h:(f=names[i]/\t=names[j])\/(f=names[j]/\t=names[i])):f∈names/\t∈names:=qJ
theorem add_all{out:Str->List Str}{Q:Str->Prop}(h:∀x,∀s∈out x,Q s)(ht:Q t):∀x,∀s∈Zu out f t x,Q s:=λx s hs=>by
  grind [Zu]
end
theorem FR.seg_ne{post:List (Nat × Obj)}{q0:Nat × Obj}(hF:FR w0 [] ((q0::bs_)++(sm++post)) w):∀q∈sm,w0.heap.size<=q.1/\q.1<w.heap.size/\q.1≠q0.1:=λq hq=>by
  have h1:=hF.own q zM;have hd:=hF.desc;grind
def QI(b l r names:List Str)(hn:names.Nodup)(hn256:aL names<=256)(hlm:∀s∈names,aL s<=maxLen)(B1 B2 B3:Nat)(A:Option Addr)(c:Nat)(S:Nat->Prop)(w0:World)(h1:w0.heap[B1]? = some (Ub (Gj b)))(h2:w0.heap[B2]? = some (Ub (Gj l)))(h3:w0.heap[B3]? = some (Ub (Gj r)))(hL:Rep S w0 (Wa names) [.slice A (aL names) c]):Calls prog 136 #[.agg #[.map (some B1),.map (some B2),.map (some B3)],.slice A (aL names) c] w0 (Qb λv w'=>((Vm b l r names=true/\v=.tuple #[.map none,.map none,.bool false])\/(∃(bo bc:Nat)(lo lc:MapL)(out:Str->List Str),v=.tuple #[.map (some bo),.map (some bc),.bool true]/\Vm b l r names=false/\w'.heap[bo]? = some (Ub lo)/\w'.heap[bc]? = some (Ub lc)/\w0.heap.size<=bo/\w0.heap.size<=bc/\bo≠bc/\CntF lc (Wf names out)/\Bhd b l r names (aL names) 0 out/\(∀x,∃(A:Option Addr)(c:Nat),(Ad lo x).getD (aQ)=.slice A (aL (out x)) c/\Rep (λg=>w0.heap.size<=g/\g<w'.heap.size/\g≠bc) w' (Wa (out x)) [.slice A (aL (out x)) c])))/\Same [] w0 w'):=by
 have hLl:=hL.slice_len;simp only[rQ]at hLl;refine Ha func136 ntmps136 ?_;intro hF;refine rn 3 ?_;rintro b1 w hb1 hF -;refine rn 7<|Tj (v:=λb=>.map<|some b) hF (Ul underlying174) ?_;rintro b2 w hb2 hF -;refine Tj (v:=λb=>.map<|some b) hF (Ul aX) ?_;rintro b3 w hb3 hF -;refine rn 13<|Za (λμ σ w=>∃(i:Nat),∃(out:Str->List Str),∃(lo:MapL),∃(lc:MapL),∃(sm:List (Nat × Obj)),μ=aL names-i/\(i<=aL names)/\(Bhd b l r names i 0 out)/\(OutF 9 out lo sm)/\(CntF lc<|Wf names out)/\(∀q<i,∀y∈names.take q,Pc b l r (names.getD q []) y≠none)/\(∀x,aL (out x)<=i*256)/\(∀x,∀s∈out x,aL s<=maxLen)/\AllEq σ [(1,.slice A (aL names) c),(2,V b1),(7,.map<|some b2),(8,.map<|some b3),(19,.slice A (aL names) c),(20,J<|(aL names:Nat)),(21,J<|(i:Int))]/\FR w0 [] ([(b3,Ub lc),(b2,Ub lo),(b1,.cells #[.map<|some B1,.map<|some B2,.map<|some B3] 171)]++(sm++[])) w) _ ⟨0,λ_=>[],[],[],[],O,bZ _,Bhd.start _ _ _ _,OutF.nil _,λy=>by simp[Ad,Wf],λq hq=>absurd hq<|Nat.not_lt_zero _,λx=>by simp,(λx s hs=>by cases hs),ae7,hF⟩ ?_;rintro μ σ w ⟨i,out,lo,lc,sm,rfl,hi,hB,hO,hC,hne,hl,hm,hzz,hF⟩;refine Gh hzz 7 ⟨λhc0=>?_,λhc0=>?_⟩;refine rn 7 ?_;obtain⟨ad0,hA0,hk0,hx0⟩:=hL.str_elem (i:=i) fX;refine Da (v:=.pointer<|some<|ad0.add<|i*1) (Ea (i:=(i:Int)) Hd hA0)<|Da (v:=.string<|bs<|names[i]) (Ma qZ<|hF.cell0 hk0) ?_;refine rn 8<|Da (v:=.slice A i c) (Ml i Hd O O fX) ?_;refine rn 5 ?_;have hil:i<aL names:=by_Om
 refine Za (λμ σ w=>∃(j:Nat),∃(out2:Str->List Str),∃(lo2:MapL),∃(lc2:MapL),∃(sm2:List (Nat × Obj)),μ=i-j/\(j<=i)/\(Bhd b l r names i j out2)/\(OutF 9 out2 lo2 sm2)/\(CntF lc2<|Wf names out2)/\(∀y∈names.take j,Pc b l r names[i] y≠none)/\(∀x,aL (out2 x)<=i*256+j)/\(∀x,∀s∈out2 x,aL s<=maxLen)/\AllEq σ [(1,.slice A (aL names) c),(2,V b1),(7,.map<|some b2),(8,.map<|some b3),(10,.string<|bs<|names[i]),(19,.slice A (aL names) c),(20,J<|(aL names:Nat)),(21,J<|(i:Int)),(28,.slice A i c),(29,J<|(i:Nat)),(30,J<|(j:Int))]/\FR w0 [] ([(b3,Ub lc2),(b2,Ub lo2),(b1,.cells #[.map<|some B1,.map<|some B2,.map<|some B3] 171)]++(sm2++[])) w) _ ⟨0,out,lo,lc,sm,O,bZ _,hB,hO,hC,Ca,hl,hm,⟨O,O,O,O,O,O,O,O,O,O,O,trivial⟩,hF⟩ ?_;rintro μ σ w ⟨j,out2,lo2,lc2,sm2,rfl,hj,hB2,hO2,hC2,hne2,hl2,hm2,hzz,hF⟩;refine Gh hzz 7 ⟨λhc1=>?_,λhc1=>?_⟩;refine rn 6 ?_;obtain⟨ad1,hA1,hk1,hx1⟩:=hL.str_elem (i:=j) fX;refine Da (v:=.pointer<|some<|ad1.add<|j*1) (Ea (i:=(j:Int)) Hd hA1)<|Da (v:=.string<|bs<|names[j]) (Ma qZ<|hF.cell0 hk1) ?_;refine rn 8 ?_;obtain⟨o,ho⟩:∃o,o=Pc b l r names[i] names[j]:=⟨_,rfl⟩;refine Ta (ahead_o B1 B2 B3 _ (hF.old h1) (hF.old h2) (hF.old h3) ho) ?_;rintro w hF -;refine rn 16<|Of (λσ w=>∃(f:Str),∃(t:Str),((f=names[i]/\t=names[j])\/(f=names[j]/\t=names[i]))/\(Pc b l r f t=some (-1))/\(Pc b l r names[i] names[j]≠none)/\AllEq σ [(1,.slice A (aL names) c),(2,V b1),(7,.map<|some b2),(8,.map<|some b3),(10,.string<|bs<|names[i]),(15,.string<|bs f),(16,.string<|bs t),(19,.slice A (aL names) c),(20,J<|(aL names:Nat)),(21,J<|(i:Int)),(28,.slice A i c),(29,J<|(i:Nat)),(30,J<|(j:Int))]/\FR w0 [] ([(b3,Ub lc2),(b2,Ub lo2),(b1,.cells #[.map<|some B1,.map<|some B2,.map<|some B3] 171)]++(sm2++[])) w) ?_ ?_
 refine rn 9 ⟨λhc2=>?_,λhc2=>?_⟩;refine rn 8 ⟨.inl ⟨clash_of (i:=i) (j:=j) fX fX ?_,O⟩,hF.same⟩;rw[<-ho];simpa using hc2;refine rn 8 ⟨λhc3=>?_,λhc3=>?_⟩;refine rn 3<|Tc (Le<|((j+1:Nat):Int)) ?_;refine rn 2 ?_;refine Va ⟨_,?_,j+1,out2,lo2,lc2,sm2,O,fX,hB2.none hn fX fX<|OP ho (aS hc2) qK,hO2,hC2,DR fX hne2<|IE ho (aS hc2),λx=>Nat.le_succ_of_le<|hl2 x,hm2,⟨O,O,O,O,O,O,O,O,O,O,O,trivial⟩,hF⟩;omega;refine rn 8 ⟨λhc4=>?_,λhc4=>?_⟩;refine rn 7 ?_;exact Va ⟨names[j],names[i],.inr ⟨O,O⟩,IT ho qK,IE ho (aS hc2),⟨O,O,O,O,O,O,O,O,O,O,O,O,O,trivial⟩,hF⟩;refine rn 2 ?_;exact Va ⟨names[i],names[j],.inl ⟨O,O⟩,XT ho (aS hc2) qK qK,IE ho (aS hc2),⟨O,O,O,O,O,O,O,O,O,O,O,O,O,trivial⟩,hF⟩;rintro σ w ⟨f,t,hft,hah,hsn,hzz,hF⟩;refine J9 hzz 3 ?_;obtain⟨s1,st,s2,A5,c5,hsm,hS5,hlk,hput⟩:=hO2.open_ f;have hof:=hl2 f;have hft2:=ft_mem fX fX hft;have hnl:aL names<=256:=hn256;subst hsm;have hF:FR w0 [] ([(b3,Ub lc2),(b2,Ub lo2),(b1,.cells #[.map<|some B1,.map<|some B2,.map<|some B3] 171)]++(s1++(st++(s2++[])))) w:=by simpa only[sQ]using hF
 refine rn 4<|Da (v:=.slice (A5) (aL (out2 f)) c5) (Sf underlying174 bX zeroValue22 O O (hF.heap (i:=1) O) hlk) ?_;refine rn 2 ?_;rintro b4 w hb4 hF -;refine KL [_,_,_,_] [s1,st,s2] 1 (news:=[.string<|bs t]) (len':=aL (out2 f)+1) (ys:=(out2 f).map strV++[strV t]) X_ hF hS5 O O (O) (λ_=>⟨_,O,Ce<|hF.cellsAll 0 O⟩) jH qR (O) (O) fX ?_;intro A2 c2 st_2 w hS2_st hF hE hnew;refine Pu 2 (v:=.slice (A2) (aL (out2 f)+1) c2) hF underlying174 bX O O O O ?_;rintro w hF -;have hF:FR w0 [] ([(b4,.cells #[.string<|bs t] 9),(b3,Ub lc2),(b2,Ub<|Kl (lo2) (f)<|.slice (A2) (aL (out2 f)+1) c2),(b1,.cells #[.map<|some B1,.map<|some B2,.map<|some B3] 171)]++(s1++(st_2++(s2++[])))) w:=hF;refine rn 5 ?_;have hcl:=OX names out2 t;refine Da (v:=J<|((Wf names out2 t:Nat):Int)) (Sf aX bX dX O O (hF.heap (i:=1) O)<|hC2 _)<|Tc (Le<|((Wf names out2 t+1:Nat):Int)) ?_;refine Pu 1 (v:=J<|((Wf names out2 t+1:Nat):Int)) hF aX bX O O O O ?_;rintro w hF -;have hF:FR w0 [] ([(b4,.cells #[.string<|bs t] 9),(b3,Ub<|Kl (lc2) (t)<|J<|((Wf names out2 t+1:Nat):Int)),(b2,Ub<|Kl (lo2) (f)<|.slice (A2) (aL (out2 f)+1) c2),(b1,.cells #[.map<|some B1,.map<|some B2,.map<|some B3] 171)]++(s1++(st_2++(s2++[])))) w:=hF;refine rn 4<|Tc (Le<|((j+1:Nat):Int)) ?_;refine rn 2 ?_;refine Va ⟨_,?_,j+1,Zu out2 f t,Kl (lo2) (f)<|.slice (A2) (aL (out2 f)+1) c2,Kl (lc2) (t)<|J<|((Wf names out2 t+1:Nat):Int),s1++(st_2++s2),O,fX,(hB2.add hn fX fX hft hah).1,hput t _ _ _ hS2_st,hC2.add hn hft2.1 (hB2.add hn fX fX hft hah).2,DR fX hne2 hsn,add_len f t hl2,add_all hm2<|hlm t hft2.2,⟨O,O,O,O,O,O,O,O,O,O,O,trivial⟩,(by have h9:=hF.drop 1;simpa only[sQ,List.drop,List.cons_append,kZ]using h9)⟩;omega
 refine rn 4<|Tc (Le<|((i+1:Nat):Int)) ?_;refine rn 2 ?_;obtain rfl:i=j:=by_Om
 refine Va ⟨_,?_,i+1,out2,lo2,lc2,sm2,O,fX,hB2.row fX,hO2,hC2,ne_row fX hne hne2,(λx=>by have:=hl2 x;omega),hm2,ae7,hF⟩;omega;refine rn 12 ?_;obtain rfl:i=aL names:=by_Om
 have hsg:=hF.seg_ne;have h32:b2≠b3:=by have hd:=hF.desc;simp only[List.cons_append,List.pairwise_cons]at hd;exact hd.1 (b2,Ub lo) Ca
 exact⟨.inr ⟨b2,b3,lo,lc,out,O,no_clash hne,hF.heap (i:=1) O,hF.heap (i:=0) O,hF.ge (i:=1) O,hF.ge (i:=0) O,h32,hC,hB,λx=>hO.rep hF hm (λq hq=>hsg q hq) x⟩,hF.same⟩
end Go.Scarf
namespace Go.Scarf.Fn
open List renaming length->aL
open Go.RowKit Go.Scarf
variable {f:FuncId}{args cs vs:Array Value}{e id len':Nat}{w':World}{Q:Value->World->Prop}{z:Value}{ty':TypeId}{pos':String}{aft':Array Edge}{A A2:Option Addr}{news xs ys:List Value}{s0 s1:Nat->Value}{li:List (Nat × Value)}
def Fw(r:Option Nat):Fence:={ Fence.wide with round:=r }
def Fw.none:Fw none=Fence.wide:=rfl
def Fw.some(l:Nat):Fw (some l)=Fence.wide.inRound l:=rfl
def YJ{r:Option Nat}{m:Nat}{P:Program}{w:World}{Q:Ending->World->Prop}(h:Calls P f args w Q):CallsIn (Fw r) m P f args w Q:=by
  have h1:CallsIn Fence.wide m P f args w Q:=callsIn_wide.2 h;exact h1
def Y0(n:Nat)(s:Nat->Value)(ds:List Deferred):Act:=⟨Array.ofFn (n:=n) λi=>s i.val,ds⟩
def Wo(n:Nat)(s:Nat->Value)(ds:List Deferred):(Y0 n s ds).eval=ev n s:=by
  rw[<-Li n s];rfl
def Tu(n:Nat)(s:Nat->Value)(ds:List Deferred)(d:Option Nat)(v:Value):(Y0 n s ds).put d v=Y0 n (Qx s d v) ds:=by
  have h:=Tg n s d v;cases d with
  | none=>rfl
  | some d =>
    simp only[Act.put,Yi,Y0,Act.mk.injEq,and_true]at h ⊢;exact h
def post(r:Option Nat)(m:Nat)(ds:List Deferred)(P:Program)(R:Exit->Act->World->Prop)(n:Nat):Kt->Exit->Act->World->Prop
  | .done=>R
  | .seq y k=>Exit.then (y.wpIn (Fw r) m P (post r m ds P R n k)) (post r m ds P R n k)
  | .block id k=>Exit.inBlock id (post r m ds P R n k)
  | .inv n' I k=>Exit.then (λa w=>∃s,a=Y0 n' s ds/\I s w) (post r m ds P R n k)
section
variable (r:Option Nat)(m:Nat)(ds:List Deferred)(P:Program)(R:Exit->Act->World->Prop)(n:Nat)
def Cg(c:Code)(k:Kt)(s:Nat->Value)(w:World):Prop:=c.wpIn (Fw r) m P (post r m ds P R n k) (Y0 n s ds) w
def Eg(e:Exit)(k:Kt)(s:Nat->Value)(w:World):Prop:=post r m ds P R n k e (Y0 n s ds) w
def Og(ops:List Oper)(k:Kt)(rest:List Oper)(s:Nat->Value)(w:World):Prop:=wpListIn (Fw r) m P ops.toArray (post r m ds P R n k) rest (Y0 n s ds) w
end
section
variable {r:Option Nat}{m:Nat}{ds:List Deferred}{P:Program}{R:Exit->Act->World->Prop}{n:Nat}{k:Kt}{s:Nat->Value}{w:World}
def Lp{x y:Code}(h:Cg r m ds P R n x (.seq y k) s w):Cg r m ds P R n (.seq x y) k s w:=wpIn_seq h
def Lu{c:Code}(h:Cg r m ds P R n c (.block id k) s w):Cg r m ds P R n (.block id c) k s w:=wpIn_block h
def X6(h:Eg r m ds P R n .normal k s w):Cg r m ds P R n .skip k s w:=wpIn_skip h
def Bo(h:Eg r m ds P R n .ret k s w):Cg r m ds P R n .ret k s w:=wpIn_ret h
def UN(h:Eg r m ds P R n (.exit id) k s w):Cg r m ds P R n (.exit id) k s w:=wpIn_exit h
def HS{l:Nat}(h:Eg r m ds P R n .normal k s w):Cg r m ds P R n (.label l) k s w:=wpIn_label h
def Uf{l:List Oper}(h:Og r m ds P R n l k l s w):Cg r m ds P R n (.region id l.toArray false) k s w:=wpIn_region_lit h
def OB{c:Operand}{x y:Code}(hc:ev n s c=.bool true)(h:Cg r m ds P R n x k s w):Cg r m ds P R n (.cond c x y) k s w:=wpIn_cond_true (by rw[Wo];exact hc) h
def W2{c:Operand}{x y:Code}(hc:ev n s c=.bool false)(h:Cg r m ds P R n y k s w):Cg r m ds P R n (.cond c x y) k s w:=wpIn_cond_false (by rw[Wo];exact hc) h
def Zn{y:Code}(h:Cg r m ds P R n y k s w):Eg r m ds P R n .normal (.seq y k) s w:=h
def My(h:Eg r m ds P R n .normal k s w):Eg r m ds P R n .normal (.block id k) s w:=h
def Va{I:(Nat->Value)->World->Prop}(h:I s w):Eg r m ds P R n .normal (.inv n I k) s w:=⟨s,rfl,h⟩
def NN(h:R .normal (Y0 n s ds) w):Eg r m ds P R n .normal .done s w:=h
theorem Ej:∀{k:Kt},R .ret (Y0 n s ds) w->Eg r m ds P R n .ret k s w
  | .done,h=>h
  | .seq _ k,h=>Ej (k:=k) h
  | .block _ k,h=>Ej (k:=k) h
  | .inv _ _ k,h=>Ej (k:=k) h
theorem Nr{id:Nat}:∀{k k':Kt},k.out id=some k'->Eg r m ds P R n .normal k' s w->Eg r m ds P R n (.exit id) k s w
  | .done,_,h,_=>by cases h
  | .seq _ k,_,h,g=>Nr (k:=k) h g
  | .block id' k, k', h, g => by
    simp only[Kt.out]at h;show (if id=id' then post r m ds P R n k .normal (Y0 n s ds) w else post r m ds P R n k (.exit id) (Y0 n s ds) w);by_cases hid:id'=id
    ·rw[uQ hid]at h;rw[uQ hid.symm]
     cases h;exact g
    rw[tQ hid]at h;rw[tQ λe => hid e.symm];exact Nr (k:=k) h g
  | .inv _ _ k,_,h,g=>Nr (k:=k) h g
def Za{c:Code}(I:Nat->(Nat->Value)->World->Prop)(j0:Nat)(h0:I j0 s w)
    (round:∀j s w,I j s w->Cg r m ds P R n c (.inv n (λs' w'=>∃j',j'<j/\I j' s' w') k) s w):Cg r m ds P R n (.loop c) k s w:=by
  intro b kk cs hro hb hr;have key:∀j s w,I j s w->∃e a' w',post r m ds P R n k e a' w'/\ArrivesIn (Machine.fenced P<|Fw r) P (lone (b.atR (Y0 n s ds)<|.code c::.inLoop c::kk) cs w) b kk cs e a' w':=by
    intro j
    induction j using Nat.strongRecOn with
    | _ j ih =>
      intro s w hI;obtain⟨e,a₁,w₁,hq,harr⟩:=round j s w hI b (.inLoop c::kk) cs hro hb hr;cases e with
      | normal =>
        obtain⟨s₁,rfl,j',hlt,hI₁⟩:=hq;obtain⟨e₂,a₂,w₂,hq₂,harr₂⟩:=ih j' hlt s₁ w₁ hI₁;exact⟨e₂,a₂,w₂,hq₂,.of_steps (StepsIn.trans harr<|.one (fenced_calm hb hr O) stepR_inLoop) harr₂⟩
      | exit id=>exact⟨_,a₁,w₁,hq,.pass (x:=.inLoop c) rfl (λ_ _=>.inl Ca) harr⟩
      | goto l=>exact⟨_,a₁,w₁,hq,.pass (x:=.inLoop c) rfl (λ_ _=>.inl Ca) harr⟩
      | ret=>exact⟨_,a₁,w₁,hq,.pass (x:=.inLoop c) rfl (λ_ _=>.inl Ca) harr⟩
      | panic ch=>exact⟨_,a₁,w₁,hq,.pass (x:=.inLoop c) rfl (λ_ _=>.inl Ca) harr⟩
      | outgrown=>exact⟨_,a₁,w₁,hq,.pass (x:=.inLoop c) rfl (λ_ _=>.inl Ca) harr⟩
  obtain⟨e,a',w',hq,harr⟩:=key j0 s w h0;exact⟨e,a',w',hq,.of_steps (.one (fenced_calm hb hr O) stepR_loop) harr⟩
variable {ops rest:List Oper}{o:Oper}
def Qp(h:Eg r m ds P R n .normal k s w):Og r m ds P R n ops k [] s w:=h
variable {d:Nat}{dst:Option Nat}{op:Op}{ty:TypeId}{pos:String}{aft:Array Edge}{g:Option (Nat × Bool)}
def wanted_eq(ops:List Oper)(n:Nat)(s:Nat->Value)(o:Oper):Region.wanted o (yielded ops.toArray (Y0 n s ds).tmps)=Ka ops n s o:=Go.Scarf.wanted_eq ops n s o
def UF(ρ:Operand->Value)(o:Oper)(h:∀c,o.op≠.defer c):o.semAt (Fw r).round ρ=execOp ρ o:=Oper.semAt_plain (Fw r) ρ o h
theorem nd_of{ρ:Operand->Value}{o:Oper}{x:Next}{w:World}(h:(execOp ρ o).run P w=.ok x w')(hx:∀d,x≠.defer d):∀c,o.op≠.defer c:=λc hc=>by
  obtain⟨dst,op,ty,pos,aft,g⟩:=o;subst hc;have e:execOp ρ ⟨dst,.defer c,ty,pos,aft,g⟩=(do let d <-resolve ρ c ty;pure (Next.defer d)):=rfl;rw[e,Sem.run_bind]at h;cases hr:(resolve ρ c ty).run P w with
  | ok d w1 =>
    rw[hr]at h;simp[Result.andThen]at h;grind
  | halt a b=>simp_all
def PC{v:Value}(hrun:(execOp (ev n s) o).run P w=.ok (.value v) w')(h:Og r m ds P R n ops k rest (Qx s o.dst v) w')(hw:Ka ops n s o=true) :
    Og r m ds P R n ops k (o::rest) s w:=by
  unfold Og wpListIn;rw[wanted_eq,uQ hw];refine⟨λ_ _=>trivial,?_⟩;rw[Wo,UF _ _<|nd_of hrun λ_ h=>bJ,hrun,Oper.uponIn_value,Tu];exact h
def og_unit(hrun:(execOp (ev n s) o).run P w=.ok .skip w')(h:Og r m ds P R n ops k rest (Qx s o.dst undef) w')(hw:Ka ops n s o=true) :
    Og r m ds P R n ops k (o::rest) s w:=by
  unfold Og wpListIn;rw[wanted_eq,uQ hw];refine⟨λ_ _=>trivial,?_⟩;rw[Wo,UF _ _<|nd_of hrun λ_ h=>bJ,hrun,Oper.uponIn_skip,Tu];exact h
def Da{v:Value}(hrun:(execOp (ev n s) ⟨some d,op,ty,pos,aft,g⟩).run P w=.ok (.value v) w')(h:Og r m ds P R n ops k rest (Lc s d v) w')(hw:Ka ops n s ⟨some d,op,ty,pos,aft,g⟩=true:=by rfl) :
    Og r m ds P R n ops k (⟨some d,op,ty,pos,aft,g⟩::rest) s w:=PC hrun h hw
def Nt(hrun:(execOp (ev n s) ⟨none,op,ty,pos,aft,g⟩).run P w=.ok .skip w')(h:Og r m ds P R n ops k rest s w')(hw:Ka ops n s ⟨none,op,ty,pos,aft,g⟩=true:=by rfl) :
    Og r m ds P R n ops k (⟨none,op,ty,pos,aft,g⟩::rest) s w:=og_unit hrun h hw
def o_off(h:Og r m ds P R n ops k rest (Lc s d undef) w)(hw:Ka ops n s ⟨some d,op,ty,pos,aft,g⟩=false:=by rfl):Og r m ds P R n ops k (⟨some d,op,ty,pos,aft,g⟩::rest) s w:=by
  unfold Og wpListIn;rw[wanted_eq,hw,Tu];exact⟨λ_ _=>trivial,h⟩
def G5(hrun:(execOp (ev n s) o).run P w=.ok (.enter f args) w')(hc:Calls P f args w' (Qb Q))
    (h:∀v w'',Q v w''->Og r m ds P R n ops k rest (Qx s o.dst v) w'') (hw:Ka ops n s o=true):Og r m ds P R n ops k (o::rest) s w:=by
  unfold Og wpListIn;rw[wanted_eq,uQ hw];refine⟨λ_ _=>trivial,?_⟩;rw[Wo,UF _ _<|nd_of hrun λ_ h=>bJ,hrun,Oper.uponIn_enter];refine⟨λh=>bJ,(YJ hc).mono λe w'' ⟨v,he,hq⟩=>?_⟩;subst he;show wpListIn (Fw r) m P ops.toArray (post r m ds P R n k) rest ((Y0 n s ds).put o.dst v) w'';rw[Tu];exact h v w'' hq
def Ed(hc:Calls P f args w' (Qb Q))(hrun:(execOp (ev n s) ⟨some d,op,ty,pos,aft,g⟩).run P w=.ok (.enter f args) w')
    (h:∀v w'',Q v w''->Og r m ds P R n ops k rest (Lc s d v) w'') (hw:Ka ops n s ⟨some d,op,ty,pos,aft,g⟩=true:=by rfl):Og r m ds P R n ops k (⟨some d,op,ty,pos,aft,g⟩::rest) s w:=G5 hrun hc h hw
def o_yield{l:Nat}{args:Array Operand}{ats:Array TypeId}{x:Operand}{Rd:Ending->World->Prop}(hY:YieldAt (Fw r) (m-1) P l vs w Rd)
    (hrun:∀{fn:FuncId}{tmps:Array Value}{as_ body:Code},(Instr.yield l vs).run P w=.ok (.round l fn tmps as_ body) w->(execOp (ev n s) ⟨some d,.call ⟨.value x,args,ats⟩,ty,pos,aft,g⟩).run P w=.ok (.round l fn tmps as_ body) w)
    (h:∀e w',Rd e w'->∃v,e=.returned v/\Og r m ds P R n ops k rest (Lc s d v) w') (hw:Ka ops n s ⟨some d,.call ⟨.value x,args,ats⟩,ty,pos,aft,g⟩=true:=by rfl):Og r m ds P R n ops k (⟨some d,.call ⟨.value x,args,ats⟩,ty,pos,aft,g⟩::rest) s w:=by
  obtain⟨fn,tmps,as_,body,hy,hR⟩:=hY;unfold Og wpListIn;rw[wanted_eq,uQ hw];refine⟨λ_ _=>trivial,?_⟩;rw[Wo,UF _ _ (by intro c h;cases h),hrun hy,Oper.uponIn_round];refine⟨λh=>bJ,hR.mono λe w' he=>?_⟩;obtain⟨v,rfl,hg⟩:=h e w' he;show wpListIn (Fw r) m P ops.toArray (post r m ds P R n k) rest ((Y0 n s ds).put (some d) v) w';rw[Tu];exact hg
def Cg.slots{c:Code}{l:List (Nat × Value)}(hs:AllEq s l)(h:∀s',Cg r m ds P R n c k (Ch s' l) w):Cg r m ds P R n c k s w:=by
  have:=h s
  rwa [<-hs.eq]at this
def Eg.slots{e:Exit}{l:List (Nat × Value)}(hs:AllEq s l)(h:∀s',Eg r m ds P R n e k (Ch s' l) w):Eg r m ds P R n e k s w:=by
  have:=h s
  rwa [<-hs.eq]at this
theorem G4{b:Bool}(hx:s d=.bool b)(ht:b=true->Og r m ds P R n ops k rest (Lc s d (.bool true)) w)(hf:b=false->Og r m ds P R n ops k rest (Lc s d (.bool false)) w):Og r m ds P R n ops k rest s w :=
  Jo (F:=λs=>Og r m ds P R n ops k rest s w) hx ht hf
theorem IK{p:Prop}{_:Decidable p}(hx:s d=.bool (decide p))(ht:p->Og r m ds P R n ops k rest (Lc s d (.bool true)) w)(hf:¬p->Og r m ds P R n ops k rest (Lc s d (.bool false)) w):Og r m ds P R n ops k rest s w:=by grind [G4]
theorem Xw{c:Code}{b:Bool}(hx:s d=.bool b)(ht:b=true->Cg r m ds P R n c k (Lc s d (.bool true)) w)(hf:b=false->Cg r m ds P R n c k (Lc s d (.bool false)) w):Cg r m ds P R n c k s w :=
  Jo (F:=λs=>Cg r m ds P R n c k s w) hx ht hf
theorem Y6{c:Code}{p:Prop}{_:Decidable p}(hx:s d=.bool (decide p))(ht:p->Cg r m ds P R n c k (Lc s d (.bool true)) w)(hf:¬p->Cg r m ds P R n c k (Lc s d (.bool false)) w):Cg r m ds P R n c k s w:=by grind [Xw]
variable {w0:World}{Ds:List Nat}{bs bs_ bs':List (Nat × Obj)}{i:Nat}{v:Value}{x y:Code}
def Cj{t:TypeId}{x:Operand}{v:Value}(hF:FR w0 Ds bs w)(hx:ev n s x=v)(hv:v.cells=cs)
    (h:∀b w',b=w.heap.size->FR w0 Ds ((b,.cells cs t)::bs) w'->Same [] w w'->Og r m ds P R n ops k rest (Lc s d (V b)) w')
    (hw:Ka ops n s ⟨some d,.box t x,ty,pos,aft,g⟩=true:=by rfl):Og r m ds P R n ops k (⟨some d,.box t x,ty,pos,aft,g⟩::rest) s w :=
  Da (AH hx) (h _ _ rfl bP<|Same.alloc w _) hw
def KE{t:TypeId}(hF:FR w0 Ds bs w)(hz:∀w,(zeroValue t).run P w=.ok z w)(hv:z.cells=cs)
    (h:∀b w',b=w.heap.size->FR w0 Ds ((b,.cells cs t)::bs) w'->Same [] w w'->Og r m ds P R n ops k rest (Lc s d (V b)) w')
    (hw:Ka ops n s ⟨some d,.alloc t,ty,pos,aft,g⟩=true:=by rfl):Og r m ds P R n ops k (⟨some d,.alloc t,ty,pos,aft,g⟩::rest) s w :=
  Da (Ru hz) (h _ _ rfl bP<|Same.alloc w _) hw
theorem Cd(i:Nat){t:TypeId}{x y:Operand}{v:Value}{l:List Value}{b off:Nat}{cs':Array Value}{T:TypeId}(hF:FR w0 Ds bs w)(hs:∀w,(sizeOf t).run P w=.ok (aL l) w)
    (hx:ev n s x=.pointer (some ⟨b,off,none⟩)) (hy:ev n s y=v) (hl:v.cells=l.toArray) (hv:∀v∈l,one v=true) (hi:bs[i]? = some (b,.cells cs T)) (hsz:off+aL l<=cs.size)
    (hcs:putA cs off l=cs')
    (h:∀w',FR w0 Ds (bs.set i (b,.cells cs' T)) w'->Same [b] w w'->Og r m ds P R n ops k rest s w')
    (hw:Ka ops n s ⟨none,.store t x y,ty,pos,aft,g⟩=true:=by rfl):Og r m ds P R n ops k (⟨none,.store t x y,ty,pos,aft,g⟩::rest) s w:=by
  have hh:=hF.heap hi;have hsp:=Hg b off (fz:=(0,0)) l 0 w cs hh;refine Nt (Ku hs hx hy hl hv λj hj=>?_) (h (putCells w ⟨b,off,none⟩ 0 l) ?_ hsp.2) hw
  ·have e : (⟨b, off, none⟩ : Addr).add j = ⟨b, off + j, none⟩ := by unfold Addr.add;split <;> simp_all
   rw[e,Ra hh];exact⟨⟨cs[off+j]' by_Om,Ca⟩,Yg hh⟩
  subst hcs;exact hF.change i hi hsp.2 (aS hsp.1)
theorem Zm{t:TypeId}{y:Operand}{v:Value}{l:List Value}(hF:FR w0 Ds bs w)(hz:∀w,(zeroValue t).run P w=.ok z w)(hs:∀w,(sizeOf t).run P w=.ok (aL l) w)
    (hzl:z.cells.size=aL l) (hy:ev n (Lc s d (.pointer (some ⟨w.heap.size,0,none⟩))) y=v) (hl:v.cells=l.toArray) (hv:∀v∈l,one v=true) (hdn:Nat.blt d n=true)
    (h:∀b w',b=w.heap.size->FR w0 Ds ((b,.cells l.toArray t)::bs) w'->Same [] w w'->Og r m ds P R n ops k rest (Lc s d (V b)) w') :
    Og r m ds P R n ops k (⟨some d,.alloc t,ty,pos,aft,none⟩::⟨none,.store t (.tmp d) y,ty',pos',aft',none⟩::rest) s w:=by
  refine Da (Ru hz) ?_ O;have hF1:=hF.alloc<|.cells z.cells t;refine Cd 0 (b:=w.heap.size) (off:=0) (cs:=z.cells) (T:=t) (cs':=l.toArray) hF1 hs (by simp[ev,Lc,hdn]) hy hl hv O by_Om ?_ (λw' hF' hS=>?_) O
  ·have key:∀(l:List Value)(off:Nat)(cs:Array Value),off+aL l=cs.size->putA cs off l=(cs.toList.take off++l).toArray:=by
     intro l
     induction l with
     | nil =>
       intro off cs h;simp only[putA,qQ];rw[cZ (by simp at h ⊢;omega)]
     | cons v l ih =>
       intro off cs h;simp only[kQ]at h;rw[putA,ih _ _ zS];have hoff:off<aL cs.toList:=by simp;omega
       have e:(cs.setIfInBounds off v).toList.take (off+1)=cs.toList.take off++[v]:=by
         rw[Array.toList_setIfInBounds,iQ (aS hoff),List.take_set_of_le<|gQ _];simp
       rw[e];simp
   grind
  refine h _ w' O hF' ⟨hS.os, hS.tape, hS.output, fQ Ca hS.size, λb hb _ => ?_⟩;rw[hS.block b zS zS];exact Below.heap_alloc w _ b hb
def Tj{v:Nat->Value}{o:Obj}{op:Op}(hF:FR w0 Ds bs_ w)(hrun:(execOp (ev n s) ⟨some d,op,ty,pos,aft,g⟩).run P w=.ok (.value (v w.heap.size)) (w.alloc o))
    (h:∀b w',b=w.heap.size->FR w0 Ds ((b,o)::bs_) w'->Same [] w w'->Og r m ds P R n ops k rest (Lc s d (v b)) w')
    (hw:Ka ops n s ⟨some d,op,ty,pos,aft,g⟩=true:=by rfl):Og r m ds P R n ops k (⟨some d,op,ty,pos,aft,g⟩::rest) s w :=
  Da hrun (h _ _ rfl (hF.alloc _)<|Same.alloc w _) hw
section
variable {C:World->Prop}
def Tc(hy:Y P (ev n s) op v)(h:Og r m ds P R n ops k rest (Lc s d v) w)(hw:Ka ops n s ⟨some d,op,ty,pos,aft,g⟩=true:=by rfl):Og r m ds P R n ops k (⟨some d,op,ty,pos,aft,g⟩::rest) s w:=Da (hy ..) h hw
def o_Y(hy:YC (λw'=>w'=w) P (ev n s) op v)(h:Og r m ds P R n ops k rest (Lc s d v) w)(hw:Ka ops n s ⟨some d,op,ty,pos,aft,g⟩=true:=by rfl):Og r m ds P R n ops k (⟨some d,op,ty,pos,aft,g⟩::rest) s w:=Da (hy _ _ _ _ _ w rfl) h hw
def c_sd{p:Prop}{_:Decidable p}(hx:ev n s (.tmp d)=.bool (decide p))(hd:Nat.blt d n=true)(ht:p->Cg r m ds P R n x k (Lc s d (.bool true)) w)(hf:¬p->Cg r m ds P R n y k (Lc s d (.bool false)) w):Cg r m ds P R n (.cond (.tmp d) x y) k s w :=
  Y6 bD (λh=>OB jT<|ht h) (λh=>W2 jT<|hf h)
def c_sb{b:Bool}(hx:ev n s (.tmp d)=.bool b)(hd:Nat.blt d n=true)(ht:b=true->Cg r m ds P R n x k (Lc s d (.bool true)) w)(hf:b=false->Cg r m ds P R n y k (Lc s d (.bool false)) w):Cg r m ds P R n (.cond (.tmp d) x y) k s w :=
  Xw bD (λh=>OB jT<|ht h) (λh=>W2 jT<|hf h)
end
end
section
variable {r:Option Nat}{m:Nat}{ds:List Deferred}{P:Program}{R:Exit->Act->World->Prop}{n:Nat}{k:Kt}{s:Nat->Value}{w w0:World}{ops rest:List Oper}{Ds:List Nat}{bs_ bs':List (Nat × Obj)}
variable {d i:Nat}{ty:TypeId}{pos:String}{aft:Array Edge}{g:Option (Nat × Bool)}{x y:Operand}{t b off ii mm:Nat}{l l':List Value}{u:Value}{T:TypeId}
def o_st(v:Value)(hF:FR w0 Ds bs_ w)(hs:∀w,(sizeOf t).run P w=.ok 1 w)(hx:ev n s x=.pointer (some ⟨b,off,none⟩))(hy:ev n s y=v)(hb:AtI ii bs_ (b,.cells l.toArray T) (b,.cells l'.toArray T) bs')(hc:AtI off l u v l')(h:∀w',FR w0 Ds bs' w'->Same [b] w w'->Og r m ds P R n ops k rest s w')(hv:v.cells=#[v]:=by rfl)(ho:one v=true:=by rfl)(hw:Ka ops n s ⟨none,.store t x y,ty,pos,aft,g⟩=true:=by rfl):Og r m ds P R n ops k (⟨none,.store t x y,ty,pos,aft,g⟩::rest) s w :=
  Cd ii hF (l:=[v]) hs hx hy hv (aS ho) hb.get jF (by rw[Ss,hc.set]) zF hw
def o_sg(hF:FR w0 Ds bs_ w)(hs:∀w,(sizeOf t).run P w=.ok mm w)(hx:ev n s x=V b)(hy:ev n s y=.agg l'.toArray)(hb:AtI ii bs_ (b,.cells l.toArray T) (b,.cells l'.toArray T) bs')(h:∀w',FR w0 Ds bs' w'->Same [b] w w'->Og r m ds P R n ops k rest s w')(hm:aL l'=mm:=by rfl)(hl:aL l=aL l':=by rfl)(ho:l'.all one=true:=by rfl)(hw:Ka ops n s ⟨none,.store t x y,ty,pos,aft,g⟩=true:=by rfl):Og r m ds P R n ops k (⟨none,.store t x y,ty,pos,aft,g⟩::rest) s w :=
  Cd ii hF (l:=l') bW hx hy rfl (List.all_eq_true.1 ho) hb.get (by simp[hl]) (Vg (aS hl)) zF hw
def o_bx(v:Value)(hF:FR w0 Ds bs_ w)(hy:ev n s x=v)(h:∀b w',b=w.heap.size->FR w0 Ds ((b,.cells #[v] t)::bs_) w'->Same [] w w'->Og r m ds P R n ops k rest (Lc s d (V b)) w')(hv:v.cells=#[v]:=by rfl)(hw:Ka ops n s ⟨some d,.box t x,ty,pos,aft,g⟩=true:=by rfl):Og r m ds P R n ops k (⟨some d,.box t x,ty,pos,aft,g⟩::rest) s w:=Cj hF hy hv h hw
def o_bg(hF:FR w0 Ds bs_ w)(hy:ev n s x=.agg cs)(h:∀b w',b=w.heap.size->FR w0 Ds ((b,.cells cs t)::bs_) w'->Same [] w w'->Og r m ds P R n ops k rest (Lc s d (V b)) w')(hw:Ka ops n s ⟨some d,.box t x,ty,pos,aft,g⟩=true:=by rfl):Og r m ds P R n ops k (⟨some d,.box t x,ty,pos,aft,g⟩::rest) s w:=Cj hF hy rfl h hw
def o_ly(v:Value)(hF:FR w0 Ds bs_ w)(hz:∀w,(zeroValue t).run P w=.ok z w)(hs:∀w,(sizeOf t).run P w=.ok 1 w)(hy:ev n (Lc s d (.pointer (some ⟨w.heap.size,0,none⟩))) y=v)(h:∀b w',b=w.heap.size->FR w0 Ds ((b,.cells #[v] t)::bs_) w'->Same [] w w'->Og r m ds P R n ops k rest (Lc s d (V b)) w')(hzl:z.cells.size=1:=by rfl)(hv:v.cells=#[v]:=by rfl)(ho:one v=true:=by rfl)(hdn:Nat.blt d n=true:=by rfl):Og r m ds P R n ops k (⟨some d,.alloc t,ty,pos,aft,none⟩::⟨none,.store t (.tmp d) y,ty',pos',aft',none⟩::rest) s w:=Zm (l:=[v]) hF hz hs hzl hy hv (aS ho) hdn h
def o_lyg(hF:FR w0 Ds bs_ w)(hz:∀w,(zeroValue t).run P w=.ok z w)(hs:∀w,(sizeOf t).run P w=.ok mm w)(hy:ev n (Lc s d (.pointer (some ⟨w.heap.size,0,none⟩))) y=.agg l.toArray)(h:∀b w',b=w.heap.size->FR w0 Ds ((b,.cells l.toArray t)::bs_) w'->Same [] w w'->Og r m ds P R n ops k rest (Lc s d (V b)) w')(hm:aL l=mm:=by rfl)(hzl:z.cells.size=aL l:=by rfl)(ho:l.all one=true:=by rfl)(hdn:Nat.blt d n=true:=by rfl):Og r m ds P R n ops k (⟨some d,.alloc t,ty,pos,aft,none⟩::⟨none,.store t (.tmp d) y,ty',pos',aft',none⟩::rest) s w:=Zm (l:=l) hF hz bW hzl hy rfl (List.all_eq_true.1 ho) hdn h
end
section
variable {r:Option Nat}{md:Nat}{ds:List Deferred}{P:Program}{R:Exit->Act->World->Prop}{n:Nat}{kt:Kt}{s:Nat->Value}{w w0:World}{ops rest:List Oper}{Ds:List Nat}{bs_ sb:List (Nat × Obj)}{pre post:List (Nat × Obj)}
variable {d:Nat}{ty:TypeId}{pos:String}{aft:Array Edge}{g:Option (Nat × Bool)}
def Qo(pre post:List (Nat × Obj)){x y:Operand}{t m bytes:Nat}{len c k c2:Nat}(hE:Elems P t e m bytes)
    (hF:FR w0 Ds (pre++(sb++post)) w) (hS:SlB e m A len c xs sb) (hx:ev n s x=.slice A len c) (hy:ev n s y=.slice A2 k c2)
    (hl:aL news=k*m) (hnews:k≠0->∃a,A2=some a/\∀j u,news[j]? = some u->w.cell? (a.add j)=some u) (h1:∀u∈news,u.oneCell'=true)
    (h63:len+k<=maxLen)   (hlen:len+k=len') (hys:xs++news=ys) (hbytes:(len+k)*bytes<=140737488355328)
    (h:∀A' c' sb' w',SlB e m A' len' c' ys sb'->FR w0 Ds (pre++(sb'++post)) w'->Same (sb.map (·.1)) w w'->(∀p∈sb',p.1∈sb.map (·.1)\/w.heap.size<=p.1)->Og r md ds P R n ops kt rest (Lc s d (.slice A' len' c')) w')
    (hw:Ka ops n s ⟨some d,.call ⟨.builtin .append,#[x,y],#[t,t]⟩,ty,pos,aft,g⟩=true:=by rfl):Og r md ds P R n ops kt (⟨some d,.call ⟨.builtin .append,#[x,y],#[t,t]⟩,ty,pos,aft,g⟩::rest) s w:=by
  subst hlen hys;obtain⟨i,z,hi,hz,h2,h3,h4⟩:=hE.info;obtain⟨A',c',sb',w',hr,hS',hF',hs,hn⟩:=Zv (ty:=ty) (c2:=c2) hE.ht hi hz h2 h3 h4 hF hS hl hnews h1 h63 hbytes;exact Da (Vs hx hy hr) (h A' c' sb' w' hS' hF' hs hn) hw
def RQ{x y:Operand}{t m bytes:Nat}{len c k c2:Nat}(hE:Elems P t e m bytes)
    (hF:FR w0 Ds bs_ w) (hS:SlB e m A len c xs sb) (hx:ev n s x=.slice A len c) (hy:ev n s y=.slice A2 k c2)
    (hl:aL news=k*m) (hnews:k≠0->∃a,A2=some a/\∀j u,news[j]? = some u->w.cell? (a.add j)=some u) (h1:∀u∈news,u.oneCell'=true)
    (h63:len+k<=maxLen)   (hlen:len+k=len') (hys:xs++news=ys) (hbytes:(len+k)*bytes<=140737488355328)
    (h:∀A' c' sb' w',SlB e m A' len' c' ys sb'->FR w0 Ds (pre++(sb'++post)) w'->Same (sb.map (·.1)) w w'->(∀p∈sb',p.1∈sb.map (·.1)\/w.heap.size<=p.1)->Og r md ds P R n ops kt rest (Lc s d (.slice A' len' c')) w')
    (hw:Ka ops n s ⟨some d,.call ⟨.builtin .append,#[x,y],#[t,t]⟩,ty,pos,aft,g⟩=true:=by rfl) (hsp:Spl bs_ pre sb post:=by repeat (first|exact Spl.z|apply Spl.c|apply Spl.a)):Og r md ds P R n ops kt (⟨some d,.call ⟨.builtin .append,#[x,y],#[t,t]⟩,ty,pos,aft,g⟩::rest) s w :=
  Qo pre post hE (hsp.eq▸hF) hS hx hy hl hnews h1 h63 hlen hys hbytes h hw
end
section
variable {r:Option Nat}{m:Nat}{ds:List Deferred}{P:Program}{R:Exit->Act->World->Prop}{n:Nat}{k:Kt}{s:Nat->Value}{w w0:World}{Ds:List Nat}{bs_:List (Nat × Obj)}
def same_put(w:World)(l:Nat)(o:Obj):Same [l] w (w.putObj l o):=⟨rfl,rfl,rfl,by simp[World.putObj],λb hb hn=>World.putObj_heap_other (aS hn)⟩
theorem FR.put(hF:FR w0 Ds bs_ w)(i:Nat){l:Nat}{o:Obj}(o':Obj)(hi:bs_[i]? = some (l,o)):FR w0 Ds (bs_.set i (l,o')) (w.putObj l o'):=by
  have hlt:l<w.heap.size:=Ga<|hF.heap hi;exact hF.change i hi (same_put w l o')<|World.putObj_heap_same hlt
def Xu(fn:FuncId)(n:Nat)(s:Nat->Value)(ps:Array Tmp)(as_ body:Code)(D:Nat)(st:LoopState):Obj:=.loop { state:=st,pending:=none,fn:=fn,tmps:=(Y0 n s []).tmps,params:=ps,assign:=as_,body:=body,defers:=D }
def mark(D:Nat):List Deferred:=[{ target:=.collected D,args:=#[] }]
variable {fn l D:Nat}{ps:Array Tmp}{as_ body:Code}{Rd:Ending->World->Prop}
def TJ:Kt->Bool
  | .done=>true
  | .seq _ k=>TJ k
  | .block _ k=>TJ k
  | .inv _ _ _=>false
theorem SF{ds':List Deferred}:∀{k:Kt},TJ k=true->post r m ds P R n k=post r m ds' P R n k
  | .done,_=>rfl
  | .seq y k,h=>by rw[post,post,SF (k:=k) h]
  | .block id k,h=>by rw[post,post,SF (k:=k) h]
  | .inv _ _ _,h=>by cases h
theorem c_range{g:Operand}{gf:FuncId}{lb:Array Value}(hF:FR w0 Ds bs_ w)(hg:ev n s g=.func (.func gf) #[] lb)(eg:Ia P gf)
    (h:∀fn D l w',FR w0 Ds ((l,Xu fn n s ps as_ body D .ready)::(D,.deferred (some []))::bs_) w'->Same [] w w' ->
      Calls P gf (#[.func (.yield l) #[] #[]]++lb) w' (Qb λ_ w3=>∃st,st≠.busy/\w3.heap[l]? = some (Xu fn n s ps as_ body D st)/\Eg none m (mark D) P R n .normal k s (w3.putObj l (Xu fn n s ps as_ body D .exhausted)))) (hk:TJ k=true:=by rfl) :
    Cg none m [] P R n (.rangeFunc g ps as_ body) k s w:=by
  refine wpIn_rangeFunc ?_;intro fn _;have hF1:=hF.alloc<|.deferred<|some [];have hF2:=hF1.alloc<|Xu fn n s ps as_ body w.heap.size .ready;rw[World.size_alloc]at hF2;refine⟨w.heap.size+1,mark w.heap.size,(w.alloc<|.deferred<|some []).alloc (Xu fn n s ps as_ body w.heap.size .ready),{ target:=.fn (.func gf) lb,args:=#[.func (.yield<|w.heap.size+1) #[] #[]] },(w.alloc<|.deferred<|some []).alloc (Xu fn n s ps as_ body w.heap.size .ready),gf,
    #[.func (.yield<|w.heap.size+1) #[] #[]]++lb,(w.alloc<|.deferred<|some []).alloc (Xu fn n s ps as_ body w.heap.size .ready),?_,?_,?_,?_,λh=>bJ,?_⟩
  ·exact run_enterLoop_outer _ _ _ _ _
  ·have hg' : (Y0 n s []).eval g = .func (.func gf) #[] lb := by rw[Wo];exact hg
   simp only[resolve,hg'];simp[go_sem]
  ·intro f' _
   trivial
  ·simp[invoke,go_sem,eg _ _]
  refine (YJ<|h fn w.heap.size (w.heap.size + 1) _ hF2<|(Same.alloc w _).trans (Same.alloc _ _)).mono ?_;rintro e w3 ⟨v,rfl,st,hst,hl,hE⟩;refine⟨none,_,run_endLoop hl hst,?_⟩;have hE':=hE;unfold Eg at hE';rw[SF (ds':=[]) hk]at hE';exact hE'
def y_round{s':Nat->Value}(hl:w.heap[l]? = some (Xu fn n s ps as_ body D .ready))(hsz:vs.size=ps.size)(hs:(ps.zip vs).foldl (λtmps (x:Tmp × Value)=>tmps.setIfInBounds x.1 x.2) (Y0 n s []).tmps=(Y0 n s' []).tmps)
    (h:Cg (some l) m [] P (Exit.then (λa1 w1=>∃w2,(Instr.beginRound l).run P w1=.ok () w2/\body.wpIn (Fw (some l)) m P (roundPost P l Rd) a1 w2) (λ_ _ _=>False)) n as_ .done s' w):YieldAt (Fw none) m P l vs w Rd:=by
  refine⟨fn,_,as_,body,run_yield hl hsz,?_⟩;refine roundIn_of_wpIn trivial ?_;have e:({ tmps:=(ps.zip vs).foldl (λtmps (x:Tmp × Value)=>tmps.setIfInBounds x.1 x.2) (Y0 n s []).tmps,defers:=[] }:Act)=Y0 n s' []:=by rw[hs];rfl
  exact e▸h
def as_end(hl:w.heap[l]? = some (Xu fn n s0 ps as_ body D .ready))(h:Cg (some l) m [] P (roundPost P l Rd) n body .done s1 (w.putObj l (Xu fn n s0 ps as_ body D .busy))) :
    Eg (some l) m [] P (Exit.then (λa1 w1=>∃w2,(Instr.beginRound l).run P w1=.ok () w2/\body.wpIn (Fw (some l)) m P (roundPost P l Rd) a1 w2) (λ_ _ _=>False)) n .normal .done s1 w :=
  ⟨_,run_beginRound hl rfl,h⟩
theorem body_end(hl:w.heap[l]? = some (Xu fn n s0 ps as_ body D .busy))(h:Rd (.returned (.bool true)) (w.putObj l (Xu fn n s0 ps as_ body D .ready))) :
    Eg (some l) m [] P (roundPost P l Rd) n .normal .done s1 w:=⟨_,_,run_endRound none hl,h⟩
def NF{fn:Func}{c:Code}(hf:P.funcs[f]? = some fn)(hb:fn.body=some c)(hn:fn.ntmps=n)(hsz:args.size<=n)
    (hs:∀i,args.getD i undef=Ch (λ_=>undef) li i)
    (h:Cg none m [] P (bodyPostM Fence.wide m P fn (Qb Q)) n c .done (Ch (λ_=>undef) li) w):Calls P f args w (Qb Q):=by
  refine (callsIn_wide (n:=m)).1 (callsIn_of_wp_marks hf hb trivial ?_ O);rw[hn,C5 n args hsz,show (λi=>args.getD i undef)=Ch (λ_=>undef) li from funext hs];exact h
def AV{fn:Func}{v:Value}(hK:w.heap[D]? = some (.deferred (some [])))(hr:(results fn (Yi n s).tmps).run P (w.putObj D (.deferred none))=.ok v (w.putObj D (.deferred none)))(h:Q v (w.putObj D (.deferred none))) :
    bodyPostM Fence.wide m P fn (Qb Q) .ret (Y0 n s (mark D)) w:=by
  refine⟨by simp[mark],.inl ⟨_,_,O,run_takeDeferred hK,?_⟩⟩;exact⟨v,hr,v,O,h⟩
def TF{fn:Func}{c:Code}(hf:P.funcs[f]? = some fn)(hb:fn.body=some c)(hn:fn.ntmps=n)(hsz:args.size<=n)
    (hs:∀i,args.getD i undef=Ch (λ_=>undef) li i)
    (h:Cg none m [] P (bodyPost P fn (Qb Q)) n c .done (Ch (λ_=>undef) li) w):Calls P f args w (Qb Q):=by
  refine (callsIn_wide (n:=m)).1 (callsIn_of_wp hf hb trivial ?_ O);rw[hn,C5 n args hsz,show (λi=>args.getD i undef)=Ch (λ_=>undef) li from funext hs];exact h
end
section
variable {P:Program}{ρ:Operand->Value}{dst:Option Nat}{ty:TypeId}{pos:String}{aft:Array Edge}{g:Option (Nat × Bool)}{w:World}
end
attribute [irreducible] Cg Eg Og
end Go.Scarf.Fn
