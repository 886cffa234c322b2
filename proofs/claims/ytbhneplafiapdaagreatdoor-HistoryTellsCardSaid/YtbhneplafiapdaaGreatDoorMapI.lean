/- A part of the proof. -/
import Derived.Test.YtbhneplafiapdaaGreatDoorE9
set_option linter.all false
set_option maxHeartbeats 8000000
set_option maxRecDepth 10000
namespace Go.Scarf
open Go.RowKit
abbrev MapI:=List (Int × Value)
def entryJ(x:(Int × Value) × Nat):MapEntry:=⟨J x.1.1,x.1.2,x.2⟩
def Nh(l:MapI)(n:Nat):List MapEntry:=(l.zipIdx n).map entryJ
def Dj(l:MapI):Obj:=.map (Nh l 0).toArray l.length
def Du(l:MapI)(k:Int):Option Value:=(l.find? (λx=>decide (x.1=k))).map (·.2)
theorem Rw(k:Int):∀(l:MapI)(n i:Nat),Instr.findNow (.int .i64) (J k) (Nh l n) i=some ((l.findIdx? (λx=>decide (x.1=k))).bind λj=>(l[j]?).map λx=>(i+j,x.2))
  | [],n,i=>by simp[Nh,Instr.findNow]
  | x :: l, n, i => by
    have ih:=Rw k l (n+1) (i+1);unfold Nh at ih ⊢;rw[List.zipIdx_cons,List.map_cons,Instr.findNow,List.findIdx?_cons];have hs:Instr.sameNow (.int .i64) (J k) (entryJ (x,n)).key=some (decide (x.1=k)):=by
      simp only[entryJ,Instr.sameNow,if_true]
      congr 1
      by_cases h:k=x.1
      ·simp[h]
      simp[h,show ¬x.1=k from λe=>h e.symm]
    rw[hs];by_cases h:x.1=k
    ·simp[h,entryJ]
    simp only[h, decide_false, Bool.false_eq_true, if_false];rw[ih];cases hf:List.findIdx? (λx=>decide (x.1=k)) l with
    | none=>simp
    | some j=>simp;congr 1;funext y;congr 1;omega
theorem KG(l:MapI)(k:Int):((l.findIdx? (λx=>decide (x.1=k))).bind λj=>l[j]?)=l.find? (λx=>decide (x.1=k)):=by
  induction l with
  | nil=>rfl
  | cons x l ih =>
    rw[List.findIdx?_cons,List.find?_cons];by_cases h:x.1=k
    ·simp[h]
    simp only[h, decide_false, Bool.false_eq_true, if_false];rw[<-ih];cases List.findIdx? (λx=>decide (x.1=k)) l <;> simp
section
variable {P:Program}{R:Exit->Act->World->Prop}{n:Nat}{k:Kt}{s:Nat->Value}{w:World}{ops rest:List Oper}
variable {d:Nat}{ty:TypeId}{pos:String}{aft:Array Edge}{g:Option (Nat × Bool)}
variable {w0:World}{Ds:List Nat}{bs_:List (Nat × Obj)}{ρ:Operand->Value}{dst:Option Nat}
theorem Vp{b:Nat}{l:MapI}(h:w.heap[b]? = some (Dj l)):(getObj b).run P w=.ok (.map (Nh l 0).toArray l.length) w:=by
  simp[getObj,Sem.run,h,Dj]
theorem Uz(m:Nat){kt:TypeId}{e:Bool}{x:Int}(hk:P.underlying kt=some (.int .i64)):(Instr.checkKey e (m+1) kt (J x)).run P w=.ok () w:=by
  simp[Instr.checkKey,run_underlying hk]
theorem Hi{kt:TypeId}{e:Bool}{x:Int}(hk:P.underlying kt=some (.int .i64)):(Instr.checkKey e 10000 kt (J x)).run P w=.ok () w:=Uz 9999 hk
theorem Ko{kt:TypeId}{l:MapI}{x:Int}(hk:P.underlying kt=some (.int .i64)) :
    (Instr.findKey kt (J x) (Nh l 0)).run P w=.ok ((l.findIdx? (λy=>decide (y.1=x))).bind λj=>(l[j]?).map λy=>(j,y.2)) w:=by
  simp only[Instr.findKey,Sem.run_bind,run_underlying hk,Result.andThen_ok,Rw,Nat.zero_add];rfl
theorem M1(l:MapI)(x:Int):((l.findIdx? (λy=>decide (y.1=x))).bind λj=>(l[j]?).map λy=>(j,y.2)).map (·.2)=Du l x:=by
  unfold Du;rw[<-KG];cases List.findIdx? (λy=>decide (y.1=x)) l with
  | none=>rfl
  | some j=>simp only[Option.bind_some,Option.map_map];rfl
theorem DG{t kt e b:Nat}{x y:Operand}{l:MapI}{key:Int}{z:Value}(ht:P.underlying t=some (.map kt e))(hk:P.underlying kt=some (.int .i64))(hz:∀w,(zeroValue e).run P w=.ok z w)
    (hx:ρ x=.map (some b)) (hy:ρ y=J key) (hb:w.heap[b]? = some (Dj l)) :
    (execOp ρ ⟨dst,.lookup t x y false,ty,pos,aft,g⟩).run P w=.ok (.value ((Du l key).getD z)) w:=by
  have h:=M1 l key;cases hf:((l.findIdx? (λy=>decide (y.1=key))).bind λj=>(l[j]?).map λy=>(j,y.2))with
  | none=>rw[hf]at h;simp only[Option.map_none]at h;rw[<-h];simp[execOp,Instr.lookup,hx,hy,run_underlying ht,Vp hb,Hi hk,Ko hk,hf,hz]
  | some q=>rw[hf]at h;simp only[Option.map_some]at h;rw[<-h];simp[execOp,Instr.lookup,hx,hy,run_underlying ht,Vp hb,Hi hk,Ko hk,hf]
theorem Y2(l:MapI)(x:Int × Value)(n:Nat):Nh (l++[x]) n=Nh l n++[⟨J x.1,x.2,n+l.length⟩]:=by
  simp[Nh,List.zipIdx_append,entryJ]
theorem M7{b:Nat}{l:MapI}{o:Obj}(h:w.heap[b]? = some (Dj l))(ho:∃es c,o=.map es c):(setObj b o).run P w=.ok () { w with heap:=w.heap.setIfInBounds b o }:=by
  obtain⟨es,c,rfl⟩:=ho;simp[setObj,Sem.run,h,Dj]
theorem G6{t kt e b:Nat}{x y z:Operand}{l:MapI}{key:Int}{v:Value}(ht:P.underlying t=some (.map kt e))(hk:P.underlying kt=some (.int .i64))
    (hx:ρ x=.map (some b)) (hy:ρ y=J key) (hv:ρ z=v) (hb:w.heap[b]? = some (Dj l)) (hn:Du l key=none) :
    (execOp ρ ⟨dst,.mapUpdate t x y z,ty,pos,aft,g⟩).run P w=.ok .skip { w with heap:=w.heap.setIfInBounds b (Dj (l++[(key,v)])) }:=by
  have h:=M1 l key;rw[hn]at h;have hf:((l.findIdx? (λy=>decide (y.1=key))).bind λj=>(l[j]?).map λy=>(j,y.2))=none:=by
    cases hf:((l.findIdx? (λy=>decide (y.1=key))).bind λj=>(l[j]?).map λy=>(j,y.2))with
    | none=>rfl
    | some q=>rw[hf]at h;cases h
  have ho:Dj (l++[(key,v)])=.map (Nh l 0++[(⟨J key,v,l.length⟩:MapEntry)]).toArray (l.length+1):=by
    simp[Dj,Y2]
  have hs:=M7 (P:=P) (o:=Dj (l++[(key,v)])) hb ⟨_,_,rfl⟩;rw[ho]at hs ⊢;simp[execOp,Instr.mapUpdate,hx,hy,hv,run_underlying ht,Vp hb,Hi hk,Ko hk,hf,hs]
theorem F0{t kt e b:Nat}{x y:Operand}{l:MapI}{key:Int}{z v:Value}(ht:P.underlying t=some (.map kt e))(hk:P.underlying kt=some (.int .i64))(hz:∀w,(zeroValue e).run P w=.ok z w)
    (hx:ρ x=.map (some b)) (hy:ρ y=J key) (hb:w.heap[b]? = some (Dj l)) (hv:(Du l key).getD z=v) :
    (execOp ρ ⟨dst,.lookup t x y false,ty,pos,aft,g⟩).run P w=.ok (.value v) w:=hv▸DG ht hk hz hx hy hb
theorem Nt(i:Nat){t kt e b:Nat}{x y z:Operand}{l:MapI}{key:Int}{v:Value}(hF:FR w0 Ds bs_ w)(ht:P.underlying t=some (.map kt e))(hk:P.underlying kt=some (.int .i64))
    (hx:ev n s x=.map (some b)) (hy:ev n s y=J key) (hv:ev n s z=v) (hi:bs_[i]? = some (b,Dj l)) (hn:Du l key=none)
    (h:∀w',FR w0 Ds (bs_.set i (b,Dj (l++[(key,v)]))) w'->Same [b] w w'->Og P R n ops k rest s w')
    (hw:Kb ops n s ⟨none,.mapUpdate t x y z,ty,pos,aft,g⟩=true:=by rfl):Og P R n ops k (⟨none,.mapUpdate t x y z,ty,pos,aft,g⟩::rest) s w :=
  H0 (G6 ht hk hx hy hv (hF.heap hi) hn) (h _ (hF.setObj i hi) (Xj w b _)) hw
end
abbrev LN:=List (Int × Nat)
def XY(l:LN)(k:Int)(v:Nat):LN:=match l.findIdx? (λx=>decide (x.1=k))with
  | some i=>l.set i (k,v)
  | none=>l++[(k,v)]
def toJ(l:LN):MapI:=l.map λx=>(x.1,Value.int .i64 (x.2:Int))
def LastOk(fs:List Int)(j:Nat)(l:LN):Prop:=(l.map (·.1)).Nodup/\∀k v,(k,v)∈l↔v<j/\fs.getD v 0=k/\∀i,v<i->i<j->fs.getD i 0≠k
theorem LastOk.nil(fs:List Int):LastOk fs 0 []:=⟨by simp,λk v=>by simp⟩
theorem NF{l:LN}{k:Int}(h:l.findIdx? (λx=>decide (x.1=k))=none):∀v,(k,v)∉l:=λv hv=>by
  rw[List.findIdx?_eq_none_iff]at h;have:=h _ hv;simp at this
theorem SH{l:LN}{k:Int}{i:Nat}(h:l.findIdx? (λx=>decide (x.1=k))=some i):∃hi:i<l.length,l[i].1=k:=by
  rw[List.findIdx?_eq_some_iff_getElem]at h;obtain⟨hi,h1,-⟩:=h;exact⟨hi,by simpa using h1⟩
theorem R8{l:LN}(hn:(l.map (·.1)).Nodup){i j:Nat}(hi:i<l.length)(hj:j<l.length)(h:l[i].1=l[j].1):i=j:=by
  have hp:=List.pairwise_iff_getElem.1 hn;refine Classical.byContradiction λhne=>?_;rcases Nat.lt_or_gt_of_ne hne with h1|h1
  ·exact hp i j (by simpa using hi) (by simpa using hj) h1 (by simpa using h)
  exact hp j i (by simpa using hj) (by simpa using hi) h1 (by simpa using h.symm)
theorem LastOk.step{fs:List Int}{j:Nat}{l:LN}(h:LastOk fs j l):LastOk fs (j+1) (XY l (fs.getD j 0) j):=by
  obtain⟨hn,hm⟩:=h;unfold XY;cases hf:l.findIdx? (λx=>decide (x.1=fs.getD j 0))with
  | none =>
    have hno:=NF hf;refine⟨?_,λk v=>?_⟩
    ·rw[jQ, List.nodup_append]
     refine⟨hn,by simp,λa ha b hb=>?_⟩;simp only[List.map_cons,List.map_nil,pQ]at hb;subst hb;rintro rfl;obtain⟨x,hx,hxe⟩:=nQ.1 ha;exact hno x.2 (by rw[<-hxe];exact hx)
    rw[mQ, pQ];constructor
    ·rintro (h1|h1)
     ·obtain⟨h2, h3, h4⟩ := (hm k v).1 h1
      refine⟨by omega,h3,λi hi1 hi2=>?_⟩;by_cases e:i=j
      ·subst e;intro e2;subst e2;exact hno v h1
      exact h4 i hi1 U
     obtain⟨rfl, rfl⟩ := Prod.mk.inj h1;exact⟨by omega,O,λi hi1 hi2=>by omega⟩
    rintro⟨h1, h2, h3⟩;by_cases e:v=j
    ·subst e;exact .inr (by rw[h2])
    exact .inl ((hm k v).2 ⟨by omega,h2,λi hi1 hi2=>h3 i hi1 U⟩)
  | some i =>
    obtain⟨hi,hik⟩:=SH hf;have hmem:∀k v,(k,v)∈l.set i (fs.getD j 0,j)↔(k=fs.getD j 0/\v=j)\/((k,v)∈l/\k≠fs.getD j 0):=λk v=>by
      rw[List.mem_iff_getElem];constructor
      ·rintro⟨q, hq, he⟩
       rw[List.length_set]at hq;by_cases e:i=q
       ·subst e
        rw[List.getElem_set_self]at he;obtain⟨rfl,rfl⟩:=Prod.mk.inj he;exact .inl ⟨O,O⟩
       rw[List.getElem_set_ne e]at he;refine .inr ⟨by rw[<-he];exact eQ _,λe2=>e ?_⟩;refine R8 hn hi hq ?_;rw[hik,he];exact e2.symm
      rintro (⟨rfl, rfl⟩|⟨h1, h2⟩)
      ·exact⟨i,by rw[List.length_set];exact hi,List.getElem_set_self _⟩
      obtain⟨q, hq, he⟩ := List.mem_iff_getElem.1 h1;have e:i≠q:=λe=>by subst e;rw[he]at hik;exact h2 hik
      exact⟨q,by rw[List.length_set];exact hq,by rw[List.getElem_set_ne e];exact he⟩
    refine⟨?_,λk v=>?_⟩
    ·have e:(l.set i (fs.getD j 0,j)).map (·.1)=l.map (·.1):=by
       rw[List.map_set];show (l.map (·.1)).set i (fs.getD j 0)=_;rw[<-hik];have:(l.map (·.1))[i]'(by simpa using hi)=l[i].1:=by simp
       rw[<-this];exact List.set_getElem_self _
     rw[e];exact hn
    rw[hmem];constructor
    ·rintro (⟨rfl, rfl⟩|⟨h1, h2⟩)
     ·exact⟨by omega,O,λq hq1 hq2=>by omega⟩
     obtain⟨h3, h4, h5⟩ := (hm k v).1 h1;refine⟨by omega,h4,λq hq1 hq2=>?_⟩;by_cases e:q=j
     ·subst e;exact λe2=>h2 e2.symm
     exact h5 q hq1 U
    rintro⟨h1, h2, h3⟩;by_cases e:v=j
    ·subst e;exact .inl ⟨h2.symm,rfl⟩
    exact .inr ⟨(hm k v).2 ⟨by omega,h2,λq hq1 hq2=>h3 q hq1 U⟩,λe2=>h3 j U U e2.symm⟩
theorem Ak{α:Type}[DecidableEq α]{a b:List α}(ha:a.Nodup)(hb:b.Nodup)(h:∀x,x∈a↔x∈b):a.Perm b:=by
  rw[List.perm_iff_count];intro x;by_cases hx:x∈a
  ·rw[List.Nodup.count ha,List.Nodup.count hb,if_pos hx,if_pos ((h x).1 hx)]
  rw[List.count_eq_zero.2 hx,List.count_eq_zero.2 (λhq=>hx ((h x).2 hq))]
theorem LastOk.perm{fs:List Int}{l:LN}(h:LastOk fs fs.length l):(l.map (·.2)).Perm (Q5 fs):=by
  obtain⟨hn,hm⟩:=h;refine Ak ?_ ((MG fs).imp λh=>by omega) λv=>?_
  ·refine List.pairwise_iff_getElem.2 λi j hi hj hij e => ?_
   simp only[List.getElem_map]at e;simp only[rQ]at hi hj;have h1:=(hm l[i].1 l[i].2).1 (eQ hi);have h2:=(hm l[j].1 l[j].2).1 (eQ hj);have:l[i].1=l[j].1:=by rw[<-h1.2.1,<-h2.2.1,e]
   have:=R8 hn hi hj this;omega
  rw[CA];constructor
  ·intro hv
   obtain⟨x,hx,rfl⟩:=nQ.1 hv;obtain⟨h1,h2,h3⟩:=(hm x.1 x.2).1 hx;exact⟨h1,λq hq1 hq2=>by rw[h2];exact h3 q hq2 hq1⟩
  rintro⟨h1, h2⟩;exact nQ.2 ⟨(fs.getD v 0,v),(hm _ _).2 ⟨h1,O,λq hq1 hq2=>h2 q hq2 hq1⟩,O⟩
section
variable {P:Program}{R:Exit->Act->World->Prop}{n:Nat}{k:Kt}{s:Nat->Value}{w:World}{ops rest:List Oper}
variable {d:Nat}{ty:TypeId}{pos:String}{aft:Array Edge}{g:Option (Nat × Bool)}
variable {w0:World}{Ds:List Nat}{bs_:List (Nat × Obj)}{ρ:Operand->Value}{dst:Option Nat}
theorem Jx{t kt e:Nat}(ht:P.underlying t=some (.map kt e)) :
    (execOp ρ ⟨dst,.makeMap t none,ty,pos,aft,g⟩).run P w=.ok (.value (.map (some w.heap.size))) (w.alloc (Dj [])):=by
  simp[execOp,Instr.makeMap,run_underlying ht,newObj,Sem.run,Dj,Nh]
end
end Go.Scarf
