/- A part of the proof. -/
import Derived.Test.YtndkhbfnfagbgaaGreatDoorHi6
set_option linter.all false
set_option maxHeartbeats 8000000
set_option maxRecDepth 10000
namespace Go.Scarf
open Go.RowKit
section
variable {P:Program}{R:Exit->Act->World->Prop}{n:Nat}{k:Kt}{s:Nat->Value}{w:World}{ops:List Oper}{zs:Lt}
theorem Wg.slots{L:Array Bool}{m:Nat}{C:World->Prop}{l:List (Nat × Value)}(hs:AllEq s l)(h:∀s',Wg P R n ops k zs L m C (Pr s' l) w):Wg P R n ops k zs L m C s w:=by
  have:=h s
  rwa [<-hs.eq]at this
end
def Ht(ops:List Oper)(i:Nat):List Nat:=match ops[i]? with
  | some o=>(o.after.toList.filter λe=>Region.binds .any e).map (·.on)
  | none=>[]
def lowOk(ops:List Oper):Bool:=(List.range ops.length).all λi=>(Ht ops i).all λd=>decide (d<i)
def Clo(ops:List Oper)(S:Nat->Bool):Prop:=∀i,i<ops.length->S i=true->∀d∈Ht ops i,S d=true
def FW(i:Nat)(S:Nat->Bool):Nat->Bool:=λk=>k==i || S k
def YS(l:Array Bool):Nat:=l.toList.count false
section
variable {P:Program}{R:Exit->Act->World->Prop}{n:Nat}{k:Kt}{ops:List Oper}{zs:Lt}{C:World->Prop}
theorem C5{j:Nat}{next:(World->Prop)->(Nat->Value)->World->Prop}{s:Nat->Value}{w:World}{K:Act->World->Prop}(hz:zs.contains j=false)
    (hk:∀C' s' w',next C' s' w'->K (Hn n s') w') (h:PP P n ops zs j next C s w):opStep P ops.toArray j K (Hn n s) w:=by
  unfold PP at h;cases ho:ops[j]? with
  | none=>rw[ho]at h;exact h.elim
  | some o =>
    rw[ho]at h;have hoA:ops.toArray[j]? = some o:=by simpa using ho
    have fin:∀(s':Nat->Value)(w':World),Dk (zs.contains j) zs.D C (λC'=>next C' s') w'->K (Hn n s') w':=by
      intro s' w' hh;unfold Dk at hh;rw[if_neg (by rw[hz];decide)]at hh;obtain⟨C',-,-,hD⟩:=hh;exact hk _ _ _ hD
    unfold opStep;simp only[hoA];rw[Vl];simp only[]at h;split
    ·rename_i hw1
     rw[if_pos hw1]at h;unfold StepN;rw[Jm];generalize (execOp (ev n s) o).run P w=r at *;cases r with
     | ok nx w' =>
       cases nx <;> simp only[]at h ⊢
       case value v=>rw[Gk];exact fin _ _ h
       case skip=>rw[Gk];exact fin _ _ h
       case enter f args=>exact h.mono λe w'' ⟨v,he,hk⟩=>⟨v,he,by dsimp only;rw[Gk];exact fin _ _ hk⟩
     | halt x w'=>simp only[]at h
    rename_i hw1
    rw[if_neg hw1]at h;rw[Gk];exact fin _ _ h
theorem LB{i:Nat}{o:Oper}(ho:ops[i]? = some o){d:Nat}:d∈Ht ops i↔∃e∈o.after,Region.binds .any e=true/\e.on=d:=by
  unfold Ht;rw[ho];simp only[nQ,List.mem_filter,Array.mem_toList_iff];constructor
  ·rintro⟨e,⟨h1,h2⟩,h3⟩;exact⟨e,h1,h2,h3⟩
  rintro⟨e,h1,h2,h3⟩;exact⟨e,⟨h1,h2⟩,h3⟩
theorem T7{listed:Array Bool}{j:Nat}(h:j∈Region.ready .any ops.toArray listed):listed.getD j true=false/\j<ops.length/\∀d∈Ht ops j,listed.getD d false=true:=by
  obtain⟨h1,o,ho,h2⟩:=mem_ready.1 h;have ho':ops[j]? = some o:=by simpa using ho
  refine⟨h1,(List.getElem?_eq_some_iff.1 ho').1,λd hd=>?_⟩;obtain⟨e,he,hb,rfl⟩:=(LB ho').1 hd;exact h2 e he hb
theorem GN{listed:Array Bool}{j:Nat}(h1:listed.getD j true=false)(h2:j<ops.length)(h3:∀d∈Ht ops j,listed.getD d false=true):j∈Region.ready .any ops.toArray listed:=by
  have ho':ops[j]? = some ops[j]:=List.getElem?_eq_getElem h2;refine mem_ready.2 ⟨h1,ops[j],by simpa using ho',λe he hb=>h3 _ ((LB ho').2 ⟨e,he,hb,O⟩)⟩
theorem ZG{l:Array Bool}{i:Nat}(h:i<l.size)(a b:Bool):l.getD i a=l.getD i b:=by simp[h]
theorem OH{l:Array Bool}{i:Nat}(h:l.getD i true=false):YS (l.setIfInBounds i true)+1=YS l:=by
  have hi:i<l.size:=by
    rcases Nat.lt_or_ge i l.size with h'|h'
    ·exact h'
    simp[Array.getElem?_eq_none h']at h
  have hv:l.toList[i]'(by simpa using hi)=false:=by simpa[hi]using h
  unfold YS;rw[Array.toList_setIfInBounds];have key:∀(L:List Bool)(i:Nat)(hi:i<L.length),L[i]=false->(L.set i true).count false+1=L.count false:=by
    intro L
    induction L with
    | nil=>intro i hi;simp at hi
    | cons a L ih =>
      intro i hi hv;cases i with
      | zero=>simp at hv;subst hv;simp
      | succ i =>
        have:=ih i (by simpa using hi) (by simpa using hv);simp only[List.set_cons_succ,List.count_cons];omega
  exact key l.toList i (by simpa using hi) hv
def Does(P:Program)(n:Nat)(ops:List Oper)(i:Nat)(s:Nat->Value)(w:World)(Q:(Nat->Value)->World->Prop):Prop :=
  ∀K:Act->World->Prop,(∀s' w',Q s' w'->K (Hn n s') w')->opStep P ops.toArray i K (Hn n s) w
def ZI(P:Program)(n:Nat)(ops:List Oper)(Inv:(Nat->Bool)->(Nat->Value)->World->Prop)(i:Nat):Prop :=
  ∀(S:Nat->Bool)(s:Nat->Value)(w:World),S i=false->(∀d∈Ht ops i,S d=true)->Clo ops S->Inv S s w->Does P n ops i s w (Inv (FW i S))
variable {i d:Nat}{s:Nat->Value}{w w':World}{Q:(Nat->Value)->World->Prop}{op:Op}{ty:Nat}{pos:String}{aft:Array Edge}{g:Option (Nat × Bool)}
theorem does_val{v:Value}(hi:ops[i]? = some ⟨some d,op,ty,pos,aft,g⟩)(hrun:(execOp (ev n s) ⟨some d,op,ty,pos,aft,g⟩).run P w=.ok (.value v) w')(h:Q (Ng s d v) w')(hw:Vb ops n s ⟨some d,op,ty,pos,aft,g⟩=true:=by rfl):Does P n ops i s w Q:=λK hk=>by
  refine C5 (zs:=.of []) (C:=λ_=>True) (next:=λ_ s' w'=>Q s' w') O (λ_ s' w' h=>hk s' w' h) ?_;unfold PP;rw[hi];simp only[hw,if_true,hrun];exact⟨λ_=>True,λ_ h=>h,trivial,h⟩
theorem DT{f:FuncId}{args:Array Value}{Qc:Value->World->Prop}(hi:ops[i]? = some ⟨some d,op,ty,pos,aft,g⟩)(hc:Calls P f args w' (Td Qc))(hrun:(execOp (ev n s) ⟨some d,op,ty,pos,aft,g⟩).run P w=.ok (.enter f args) w')
    (h:∀v w'',Qc v w''->Q (Ng s d v) w'') (hw:Vb ops n s ⟨some d,op,ty,pos,aft,g⟩=true:=by rfl):Does P n ops i s w Q:=λK hk=>by
  refine C5 (zs:=.of []) (C:=λ_=>True) (next:=λ_ s' w'=>Q s' w') O (λ_ s' w' h=>hk s' w' h) ?_;unfold PP;rw[hi];simp only[hw,if_true,hrun];exact hc.mono λe w'' ⟨v,he,hk⟩=>⟨v,he,λ_=>True,λ_ h=>h,trivial,h v w'' hk⟩
variable {Inv:(Nat->Bool)->(Nat->Value)->World->Prop}
theorem all_c(hlow:lowOk ops=true)(hstep:∀i,i<ops.length->ZI P n ops Inv i)
    (hend:∀s w,Inv (λ_=>true) s w->Eg P R n .normal k s w) :
    ∀(m:Nat)(listed:Array Bool)(s:Nat->Value)(w:World),listed.size=ops.length->YS listed=m->Clo ops (λi=>listed.getD i true)->Inv (λi=>listed.getD i true) s w->Wg P R n ops k (.of []) listed m (λ_=>True) s w:=by
  have hS:∀(S S':Nat->Bool)(s:Nat->Value)(w:World),(∀i,S i=S' i)->Inv S s w->Inv S' s w:=λS S' s w h hI=>by rwa [<-funext h]
  have h1:∀i,i<ops.length->∀d∈Ht ops i,d<i:=by
    unfold lowOk at hlow;simpa only[List.all_eq_true,List.mem_range,decide_eq_true_eq]using hlow
  have toF:∀s w,Inv (λ_=>true) s w->k.post P R .normal (Hn n s) w:=λs w h=>by
    have:=hend s w h;unfold Eg at this;exact this
  intro m
  induction m with
  | zero =>
    intro listed s w hsz hcn hdn hI;have hn:∀i,listed.getD i true=true:=λi=>by
      cases hv:listed.getD i true with
      | true=>rfl
      | false=>have:=OH hv;omega
    unfold Wg;refine⟨List.eq_nil_iff_forall_not_mem.2 λi hi=>?_,toF _ _ (hS _ _ _ _ hn hI)⟩;have:=(T7 hi).1;rw[hn i]at this;cases this
  | succ m ih =>
    intro listed s w hsz hcn hdn hI;have hne:Region.ready .any ops.toArray listed≠[]:=by
      have hex:∃c,c<ops.length/\listed.getD c true=false:=by
        refine Classical.byContradiction λhno=>?_;have hn:∀b∈listed.toList,b=true:=λb hb=>by
          obtain⟨c,hc,rfl⟩:=List.mem_iff_getElem.1 hb;cases hv:listed.toList[c]with
          | true=>rfl
          | false=>exact absurd ⟨c,by rw[<-hsz];simpa using hc,by have hc':c<listed.size:=(by simpa using hc);simpa[hc']using hv⟩ hno
        have:YS listed=0:=List.count_eq_zero.2 λhm=>by cases hn _ hm
        omega
      have hmin:∀(t:Nat),(∃c,c<t/\c<ops.length/\listed.getD c true=false)->∃c,c<ops.length/\listed.getD c true=false/\∀d,d<c->listed.getD d true=true:=λt=>by
        induction t with
        | zero=>rintro⟨c,h,-⟩;omega
        | succ t iht =>
          rintro⟨c,h,hc,hv⟩;by_cases hb:∃c,c<t/\c<ops.length/\listed.getD c true=false
          ·exact iht hb
          refine⟨c, hc, hv, λd hd => ?_⟩;cases hvd:listed.getD d true with
          | true=>rfl
          | false=>exact absurd ⟨d,by omega,by omega,hvd⟩ hb
      obtain⟨c0,hc0,hv0⟩:=hex;obtain⟨c,hc,hv,hlow⟩:=hmin (c0+1) ⟨c0,by omega,hc0,hv0⟩;intro he;have:=GN (listed:=listed) hv hc (λd hd=>by
        have hd':=h1 c hc d hd;rw[ZG sX false true];exact hlow d hd')
      rw[he]at this;cases this
    unfold Wg;refine⟨trivial,λh0=>absurd h0 hne,λi hi=>?_⟩;obtain⟨r1,r2,r3⟩:=T7 hi;have r3':∀d∈Ht ops i,listed.getD d true=true:=λd hd=>by
      have hd':=h1 i r2 d hd;rw[ZG sX true false];exact r3 d hd
    refine hstep i r2 (λi=>listed.getD i true) s w r1 r3' hdn hI _ λs' w' hI'=>?_;rw[if_neg (by simp[Lt.contains])];have hi':i<listed.size:=by omega
    have hg:∀q,(listed.setIfInBounds i true).getD q true=FW i (λk=>listed.getD k true) q:=λq=>by
      unfold FW;by_cases hq:q=i
      ·subst hq;simp[hi']
      rw[getD_set_ne true (Ne.symm hq)];have:(q==i)=false:=by simpa using hq
      rw[this,Bool.false_or]
    refine⟨trivial,?_⟩;have:=ih (listed.setIfInBounds i true) s' w' (by simpa using hsz) (by have:=OH r1;omega) (λq hq (hl:(listed.setIfInBounds i true).getD q true=true) d hd=>show (listed.setIfInBounds i true).getD d true=true from ?_) (hS _ _ _ _ (λq=>(hg q).symm) hI')
    ·unfold Wg at this;exact this
    by_cases hdi : d = i
    ·subst hdi;simp[hi']
    rw[getD_set_ne true (Ne.symm hdi)];by_cases hqi:q=i
    ·subst hqi;exact r3' d hd
    rw[getD_set_ne true (Ne.symm hqi)]at hl;exact hdn q hq hl d hd
theorem c_all{id:Nat}(N:Nat)(hm:P.follows .mixedOrders=true)(hlow:lowOk ops=true)(hI:Inv (λi=>!decide (i<N)) s w.drew)(hstep:∀i,i<N->ZI P n ops Inv i)
    (hend:∀s w,Inv (λ_=>true) s w->Eg P R n .normal k s w) (hN:ops.length=N:=by rfl):Cg P R n (.region id ops.toArray true) k s w:=by
  subst hN;have hS:∀(S S':Nat->Bool)(s:Nat->Value)(w:World),(∀i,S i=S' i)->Inv S s w->Inv S' s w:=λS S' s w h hI=>by rwa [<-funext h]
  have hg:∀i,(Array.replicate ops.length false).getD i true = !decide (i<ops.length):=λi=>by
    by_cases h:i<ops.length <;> simp[h]
  have hW:=all_c (R:=R) (k:=k) hlow hstep hend ops.length (Array.replicate ops.length false) s w.drew Da (by simp[YS]) (λi hi (hl:(Array.replicate ops.length false).getD i true=true)=>by
    rw[hg i,decide_eq_true hi]at hl;cases hl) (hS _ _ _ _ (λi=>(hg i).symm) hI)
  unfold Cg;refine wp_region_any hm (Sn (zs:=.of []) (Q:=k.post P R .normal) (λ_ _ h=>h) _ (λ_=>True) _ _ _ ?_);unfold Wg at hW;simpa using hW
end
theorem F_{s:Nat->Value}{d:Nat}{v:Value}:Ng s d v d=v:=by simp[Ng]
theorem C_{s:Nat->Value}{d e:Nat}{v:Value}(h:e≠d):Ng s d v e=s e:=by
  have:Nat.beq e d=false:=by
    cases hb:Nat.beq e d with
    | false=>rfl
    | true=>exact absurd (Nat.eq_of_beq_eq_true hb) h
  rw[Ng,this,cond_false]
abbrev Fact:=Nat × Nat × (Option Value->Value->World->Prop)
def TA(A:Nat × Nat)(S:Nat->Bool)(s:Nat->Value):Option Value:=if S A.1=true then some (s A.2) else none
def AllG(A:Nat × Nat)(S:Nat->Bool)(s:Nat->Value)(w:World)(l:List Fact):Prop:=∀(k:Nat)(f:Fact),l[k]? = some f->S f.1=true->f.2.2 (TA A S s) (s f.2.1) w
def StabG(l:List Fact):Prop:=∀(k:Nat)(f:Fact),l[k]? = some f->∀(a:Option Value)(v:Value)(w w':World),Same [] w w'->f.2.2 a v w->f.2.2 a v w'
def StabN(l:List Fact):Prop:=∀(k:Nat)(f:Fact),l[k]? = some f->∀(v:Value)(w w':World),Same [] w w'->f.2.2 none v w->f.2.2 (some (.pointer (some ⟨w.heap.size,0,none⟩))) v w'
theorem StabG.nil:StabG []:=λk f h=>by simp at h
theorem StabG.cons{f:Fact}{l:List Fact}(h:∀a v w w',Same [] w w'->f.2.2 a v w->f.2.2 a v w')(hl:StabG l):StabG (f::l):=λk g hg=>by
  cases k with
  | zero => obtain rfl : f = g := by simpa using hg
            exact h
  | succ k=>exact hl k g (by simpa using hg)
theorem StabN.nil:StabN []:=λk f h=>by simp at h
theorem StabN.cons{f:Fact}{l:List Fact}(h:∀v w w',Same [] w w'->f.2.2 none v w->f.2.2 (some (.pointer (some ⟨w.heap.size,0,none⟩))) v w')(hl:StabN l):StabN (f::l):=λk g hg=>by
  cases k with
  | zero => obtain rfl : f = g := by simpa using hg
            exact h
  | succ k=>exact hl k g (by simpa using hg)
def TR(A:Nat × Nat)(l:List Fact):Bool:=decide (A.2::l.map (·.2.1)).Nodup&&decide (A.1::l.map (·.1)).Nodup
theorem DJ{l:List Nat}(hn:l.Nodup){i j:Nat}(hi:i<l.length)(hj:j<l.length)(h:l[i]=l[j]):i=j:=by
  have hp:=List.pairwise_iff_getElem.1 hn;rcases Nat.lt_trichotomy i j with h'|h'|h'
  ·exact absurd h (hp i j hi hj h')
  ·exact h'
  exact absurd h.symm (hp j i hj hi h')
theorem CO{i k:Nat}{S:Nat->Bool}(h:k≠i):FW i S k=S k:=by
  unfold FW;have:(k==i)=false:=by simpa using h
  rw[this,Bool.false_or]
section
variable {A:Nat × Nat}{S:Nat->Bool}{s:Nat->Value}{w w':World}{l:List Fact}{v:Value}
theorem AllG.put(hI:AllG A S s w l)(hst:StabG l)(hd:TR A l=true)(k:Nat){i d:Nat}{G:Option Value->Value->World->Prop}(hk:l[k]? = some (i,d,G))(hs:Same [] w w')(hv:G (TA A S s) v w'):AllG A (FW i S) (Ng s d v) w' l:=by
  unfold TR at hd;rw[Bool.and_eq_true,decide_eq_true_eq,decide_eq_true_eq,List.nodup_cons,List.nodup_cons]at hd;obtain⟨hkl,hke⟩:=List.getElem?_eq_some_iff.1 hk;have nA1:A.1≠i:=λh=>hd.2.1 (nQ.2 ⟨_,List.mem_iff_getElem.2 ⟨k,hkl,hke⟩,h.symm⟩);have nA2:A.2≠d:=λh=>hd.1.1 (nQ.2 ⟨_,List.mem_iff_getElem.2 ⟨k,hkl,hke⟩,h.symm⟩);have eA:TA A (FW i S) (Ng s d v)=TA A S s:=by unfold TA;rw[CO nA1,C_ nA2]
  intro k' f hf hS;rw[eA];obtain⟨hkl',hke'⟩:=List.getElem?_eq_some_iff.1 hf;by_cases e:k'=k
  ·subst e
   rw[hk]at hf;obtain rfl:=lQ hf;show G _ (Ng s d v d) w';rw[F_];exact hv
  have n1 : f.2.1 ≠ d := λh => e (DJ hd.1.2 (i := k') (j := k) (by simpa using hkl') (by simpa using hkl) (by simp[hke, hke', h]));have n2:f.1≠i:=λh=>e (DJ hd.2.2 (i:=k') (j:=k) (by simpa using hkl') (by simpa using hkl) (by simp[hke,hke',h]));rw[CO n2]at hS;rw[C_ n1];exact hst k' f hf _ _ _ _ hs (hI k' f hf hS)
theorem AllG.putA(hI:AllG A S s w l)(hst:StabN l)(hd:TR A l=true)(hA:S A.1=false)(hs:Same [] w w'):AllG A (FW A.1 S) (Ng s A.2 (.pointer (some ⟨w.heap.size,0,none⟩))) w' l:=by
  unfold TR at hd;rw[Bool.and_eq_true,decide_eq_true_eq,decide_eq_true_eq,List.nodup_cons,List.nodup_cons]at hd;have eA:TA A (FW A.1 S) (Ng s A.2 (.pointer (some ⟨w.heap.size,0,none⟩)))=some (.pointer (some ⟨w.heap.size,0,none⟩)):=by
    unfold TA FW;simp[F_]
  intro k f hf hS;rw[eA];obtain⟨hkl,hke⟩:=List.getElem?_eq_some_iff.1 hf;have n1:f.2.1≠A.2:=λh=>hd.1.1 (nQ.2 ⟨_,List.mem_iff_getElem.2 ⟨k,hkl,hke⟩,h⟩);have n2:f.1≠A.1:=λh=>hd.2.1 (nQ.2 ⟨_,List.mem_iff_getElem.2 ⟨k,hkl,hke⟩,h⟩);rw[CO n2]at hS;rw[C_ n1];have:=hI k f hf hS;rw[show TA A S s=none by unfold TA;rw[hA];rfl]at this;exact hst k f hf _ _ _ hs this
theorem AllG.ext{S':Nat->Bool}(hI:AllG A S s w l)(h:∀i,S i=S' i):AllG A S' s w l:=by
  have:S=S':=funext h;rw[<-this];exact hI
theorem AllG.at(hI:AllG A S s w l)(k:Nat){i d:Nat}{G:Option Value->Value->World->Prop}(hk:l[k]? = some (i,d,G))(hS:S i=true):G (TA A S s) (s d) w:=hI k _ hk hS
end
theorem YR{w:World}{b n:Nat}{l:List Value}{T:TypeId}{ds:List D}(h:w.heap[b]? = some (.cells l.toArray T))(hr:RepL (λ_=>True) w ds l)(hn:ds.length=n)(hm:n<=9223372036854775807):Rep (λ_=>True) w (.slice ds) [W b n n] :=
  Rep.slice_mk hn.symm (gQ _) hm λ_=>⟨_,rfl,l,λj hj=>⟨by
    have e:(⟨b,0,none⟩:Addr).add j=⟨b,0+j,none⟩:=by unfold Addr.add;split <;> simp_all
    rw[e,Pb h (0+j)];simp[hj],trivial⟩,hr⟩
abbrev FactH:=Nat × Nat × (Value->World->Prop)
def AllH(S:Nat->Bool)(s:Nat->Value)(w:World)(l:List FactH):Prop:=∀(k:Nat)(f:FactH),l[k]? = some f->S f.1=true->f.2.2 (s f.2.1) w
def IH(w00:World)(sl:List (Nat × Value))(l:List FactH)(S:Nat->Bool)(s:Nat->Value)(w:World):Prop:=AllEq s sl/\Same [] w00 w/\AllH S s w l
structure PhH (sl:List (Nat × Value)) (l:List FactH):Prop where
  st:∀f∈l,∀v w w',Same [] w w'->f.2.2 v w->f.2.2 v w'
  di:(decide (l.map (·.2.1)).Nodup&&(decide (l.map (·.1)).Nodup&&sl.all λx=>!(l.map (·.2.1)).contains x.1))=true
theorem RP{α β:Type}{l:List α}{f:α->β}(h:(l.map f).Nodup){a b:α}(ha:a∈l)(hb:b∈l)(e:f a=f b):a=b:=by
  obtain⟨i,hi,rfl⟩:=List.getElem_of_mem ha;obtain⟨j,hj,rfl⟩:=List.getElem_of_mem hb;have:=(List.getElem_inj (xs:=l.map f) (h₀:=by simpa using hi) (h₁:=by simpa using hj) h).1 (by simpa using e);subst this;rfl
theorem updS'{s:Nat->Value}{d:Nat}{v:Value}:∀{l:List (Nat × Value)},AllEq s l->(∀x∈l,x.1≠d)->AllEq (Ng s d v) l
  | [],_,_=>trivial
  | (e,u)::l,h,hn=>⟨by rw[C_ (hn (e,u) Da)];exact h.1,updS' h.2 λx hx=>hn x (by simp[hx])⟩
section
variable {P:Program}{R:Exit->Act->World->Prop}{n:Nat}{k:Kt}{ops:List Oper}{w00:World}{sl:List (Nat × Value)}{l:List FactH}{S:Nat->Bool}{s:Nat->Value}{w w':World}{i d:Nat}{op:Op}{ty:Nat}{pos:String}{aft:Array Edge}{g:Option (Nat × Bool)}{G:Value->World->Prop}
theorem IH.put(h:IH w00 sl l S s w)(hp:PhH sl l)(k:Nat)(hk:l[k]? = some (i,d,G))(hs:Same [] w w'){v:Value}(hv:G v w'):IH w00 sl l (FW i S) (Ng s d v) w':=by
  obtain⟨h1,h2,h3⟩:=h;have hm:(i,d,G)∈l:=List.mem_of_getElem? hk;have hd:=hp.di;rw[Bool.and_eq_true,Bool.and_eq_true,decide_eq_true_eq,decide_eq_true_eq]at hd;refine⟨updS' h1 λx hx e=>?_,h2.trans hs,λk' f hf hS=>?_⟩
  ·have := List.all_eq_true.1 hd.2.2 x hx
   have hc:(l.map (·.2.1)).contains x.1=true:=List.contains_iff_mem.2 (nQ.2 ⟨_,hm,e.symm⟩);rw[hc]at this;cases this
  have hfm : f ∈ l := List.mem_of_getElem? hf;by_cases e:f.1=i
  ·obtain rfl := RP (f := λx : FactH => x.1) hd.2.1 hfm hm e
   show G (Ng s d v d) w';rw[F_];exact hv
  have hS':S f.1=true:=by
    unfold FW at hS;rw[Bool.or_eq_true]at hS;exact hS.resolve_left λh=>e (by simpa using h)
  have hn:f.2.1≠d:=λe'=>e (congrArg (·.1) (RP (f:=λx:FactH=>x.2.1) hd.1 hfm hm e'));rw[C_ hn];exact hp.st f hfm _ _ _ hs (h3 k' f hf hS')
theorem IH.dep(h:IH w00 sl l S s w)(hd:∀d∈Ht ops i,S d=true)(k:Nat){k' d':Nat}{G':Value->World->Prop}(hk:l[k]? = some (k',d',G'))(hm:(Ht ops i).contains k'=true):G' (s d') w :=
  h.2.2 k _ hk (hd k' (List.contains_iff_mem.1 hm))
theorem B3(hp:PhH sl l)(k:Nat)(hk:l[k]? = some (i,d,G))(hi:ops[i]? = some ⟨some d,op,ty,pos,aft,g⟩)
    (h:∀S s w,(∀d∈Ht ops i,S d=true)->IH w00 sl l S s w->∃dl v w',AllEq s dl/\(∀s,(execOp (ev n (Pr s dl)) ⟨some d,op,ty,pos,aft,g⟩).run P w=.ok (.value v) w')/\Same [] w w'/\G v w')
    (hw:∀s,Vb ops n s ⟨some d,op,ty,pos,aft,g⟩=true:=by exact λ_=>rfl):ZI P n ops (IH w00 sl l) i:=λS s w hS hd _ hI=>by
  obtain⟨dl,v,w',he,hr,hs,hG⟩:=h S s w hd hI;have hr:=hr s;rw[<-he.eq]at hr;exact does_val hi hr (hI.put hp k hk hs hG) (hw s)
theorem h_call(hp:PhH sl l)(k:Nat)(hk:l[k]? = some (i,d,G))(hi:ops[i]? = some ⟨some d,op,ty,pos,aft,g⟩)
    (h:∀S s w,(∀d∈Ht ops i,S d=true)->IH w00 sl l S s w->∃f args w' Qc,Calls P f args w' (Td Qc)/\(execOp (ev n s) ⟨some d,op,ty,pos,aft,g⟩).run P w=.ok (.enter f args) w'/\∀v w'',Qc v w''->Same [] w w''/\G v w'')
    (hw:∀s,Vb ops n s ⟨some d,op,ty,pos,aft,g⟩=true:=by exact λ_=>rfl):ZI P n ops (IH w00 sl l) i:=λS s w hS hd _ hI=>by
  obtain⟨f,args,w',Qc,hc,hr,hq⟩:=h S s w hd hI;exact DT hi hc hr (λv w'' hQ=>hI.put hp k hk (hq v w'' hQ).1 (hq v w'' hQ).2) (hw s)
theorem IH.start{N:Nat}(hs:AllEq s sl)(h:(l.all λf=>decide (f.1<N))=true):IH w sl l (λi=>!decide (i<N)) s w:=by
  refine⟨hs,Same.refl _ _,λk f hf hS=>?_⟩;have:=of_decide_eq_true (List.all_eq_true.1 h f (List.mem_of_getElem? hf));simp[this]at hS
theorem Xl{Q:Nat->Prop}{m:Nat}(h:∀i,i<m->Q i)(hm:Q m):∀i,i<m+1->Q i:=λi hi=>by
  rcases Nat.lt_or_ge i m with h'|h'
  ·exact h i h'
  obtain rfl : i = m := by omega
  exact hm
theorem stepsA0{Q:Nat->Prop}:∀i,i<0->Q i:=λi hi=>absurd hi (Nat.not_lt_zero i)
end
set_option allowUnsafeReducibility true
attribute [irreducible] ZI Does
open Go.RowKit Go.Proofs Go.Proofs.Tryz
def NarC(x:Tree):Prop:=∀(S:Nat->Prop)(w0:World)(cs:List Value),Rep S w0 (Zb x) cs->Calls prog 18 #[.agg cs.toArray] w0 (Td λv w'=>∃b:Bool,v=.bool b/\Same [] w0 w')
theorem LK(k:Int)(t:Str)(ks:List Str)(xs:List Tree)(ih:∀x,x∈xs->NarC x):NarC (.node k t ks xs):=by
 intro S w0 cs hR;obtain⟨A,c,B,e,rfl,-,-,hK,hX⟩:=hR.tree_inv;have hXl:=hX.slice_len;rw[Hi]at hXl;refine Ga func18 O ntmps18 Fb (Ad _) ?_;have hF:=FR.start w0 [];refine Ja (Ve hF O ?_);rintro b1 w hb1 hF -;refine Ca (Hc O) (Ea (Ha (Ja (Ca (Sc O) (Ea (Va ?_))))));refine Rc (λμ σ w=>∃(j:Nat),μ=xs.length-j/\(j<=xs.length)/\AllEq σ [(1,V b1),(3,J ((j:Int)))]/\FR w0 [] [(b1,.cells #[J k,I t,.slice A ks.length c,.slice B xs.length e] 27)] w) _ ⟨0,O,(Nat.zero_le _),ED,hF⟩ ?_;rintro μ σ w ⟨j,rfl,hj,hs,hF⟩;refine Cg.slots hs ?_;clear hs;intro σ;refine Ha (Ja (Ca (Kb O) (Ca (Xb Jc O) (Yc (Rf yQ O hF.F 0 O O) (Ca (Ye fX O) (Ca (Kl O O) (Ea ?_)))))));refine Pc O O (λhc0=>?_) (λhc0=>?_);refine Ta (Ia (Ha (Va (Ja (Ca (Xb Jc O) (Yc (Rf yQ O hF.F 0 O O) (Ca (Kb O) ?_)))))));obtain⟨ad0,cs0,hA0,hl0,hk0,hx0⟩:=hX.tree_elem (i:=j) sX;have ho0:=hx0.one_;refine Ka (v:=.pointer (some (ad0.add (j*4)))) (Pa (i:=(j:Int)) Hj O hA0 O sX sX) (Ka (v:=.agg (List.toArray cs0)) (Ya (l:=cs0) aZ oZ O hl0 (hF.cells0 hk0)) ?_);refine Cb (ih xs[j] (eQ sX) _ _ cs0 (hF.rep hx0)) (Ra en_18 O O) ?_;rintro _ w ⟨q0,rfl,hE⟩;have hF:=hF.ext hE;refine Ca (Hc O) (Fc (Ca (Ae O) (Ca (Zj O) (Ca (Ae O) ?_))));refine Oe (d:=20) O (λhg1=>?_) (λhg1=>?_);refine Oa (Oa (Oa (Oa (Oa (Oa (Oa (Oa (Oa (Oa (Oa (Oa (Ca (Nd O O) (Db ?_)))))))))))));refine Ia (Ge O (Ja (Ca (Hc O) (Ea ?_))));refine Qd (v:=.bool false) O O ?_;exact⟨_,O,hF.same⟩;refine Ca (Xb Wh O) (Yc (Xs bZ O hF.F 0 O O) (Ca (Pq O O) (Ca (Ae O) ?_)));refine Dd (d:=24) O (λhg2=>?_) (λhg2=>?_);refine Ca (Xb Jc O) (Yc (Rf yQ O hF.F 0 O O) (Ca (Kb O) ?_));obtain⟨ad3,cs3,hA3,hl3,hk3,hx3⟩:=hX.tree_elem (i:=j) sX;have ho3:=hx3.one_;refine Ka (v:=.pointer (some (ad3.add (j*4)))) (Pa (i:=(j:Int)) Hj O hA3 O sX sX) (Ka (v:=.agg (List.toArray cs3)) (Ya (l:=cs3) aZ oZ O hl3 (hF.cells0 hk3)) ?_)
 refine Gb hF (NW xs[j] 8 Ua Ua _ _ cs3 (hF.rep hx3)) (Za en_6 O O O) ?_;intro w hF;refine Ca (Zj O) (Ca (Nd O O) (Ca (Md O O) (Ea ?_)));refine Uf O O (λhc1=>?_) (λhc1=>?_);refine Ja (Ca (Hc O) (Ea ?_));refine Qd (v:=.bool false) O O ?_;exact⟨_,O,hF.same⟩;refine Ta (Ib (Ia (Fa (Ca (Kb O) (Ca (Ok (((j+1:Nat):Int)) O O) (Ca (Sc O) (Db ?_)))))));refine Yb ⟨_,?_,j+1,O,sX,ED,hF⟩;omega;refine Oa (Oa (Oa (Oa (Oa (Oa (Oa (Ca (Md O O) (Ca (Md O O) (Ea (Kg O (Ta (Ib ?_))))))))))));refine Ia (Fa (Ca (Kb O) (Ca (Ok (((j+1:Nat):Int)) O O) (Ca (Sc O) (Db ?_)))));refine Yb ⟨_,?_,j+1,O,sX,ED,hF⟩;omega;refine Nc (Kc O ?_);refine Ia (Ja (Ca (Hc O) (Ea ?_)));refine Qd (v:=.bool true) O O ?_;exact⟨_,O,hF.same⟩
theorem narrow_c(x:Tree):NarC x:=Tree.ind LK x
def FewH(h:List Cm)(most:Int):Prop:=h.length<=66/\∀i (hi:i<h.length),M3 h[i].val most=true/\h[i].par.length<=70
theorem XO{h:List Cm}{most:Int}{j:Nat}(hs:∀i (hi:i<h.length),i<j->M3 h[i].val most=true/\h[i].par.length<=70)(hj:∀hj:j<h.length,M3 h[j].val most=true/\h[j].par.length<=70):∀i (hi:i<h.length),i<j+1->M3 h[i].val most=true/\h[i].par.length<=70:=λi hi h2=>by
  by_cases e:i=j
  ·subst e;exact hj hi
  exact hs i hi sX
theorem few31_c(h:List Cm)(most:Int)(hm0:0<=most)(hm1:most<=1000000)(A:Option Addr)(c:Nat)(S:Nat->Prop)(w0:World)(hX:Rep S w0 (Nr h) [.slice A h.length c]):Calls prog 5 #[.slice A h.length c,J most] w0 (Td λv w'=>∃b:Bool,v=.bool b/\(b=true->FewH h most)/\Same [] w0 w'):=by
 have hXl:=hX.slice_len;simp only[rQ]at hXl;refine Ga func5 O ntmps5 Fb (Zc _ _) ?_;have hF:=FR.start w0 [];refine Ja (Ca (Hc O) (Ea (Ha (Ja (Ca (Sc O) (Ea (Va ?_)))))));refine Rc (λμ σ w=>∃(j:Nat),μ=h.length-j/\(j<=h.length/\j<=70)/\(∀i (hi:i<h.length),i<j->M3 h[i].val most=true/\h[i].par.length<=70)/\AllEq σ [(0,.slice A h.length c),(1,J most),(5,J ((j:Int)))]/\FR w0 [] [] w) _ ⟨0,O,sX,(λi _ h=>by omega),I7,hF⟩ ?_;rintro μ σ w ⟨j,rfl,hj,hs_,hs,hF⟩;refine Cg.slots hs ?_;clear hs;intro σ;refine Ha (Ja (Ca (Kb O) (Ca (Pd O) (Ca (Ye aX O) (Ca (Kl O O) (Ca (Ae O) ?_))))));refine Dd (d:=11) O (λhg0=>?_) (λhg0=>?_);refine Ca (Kb O) (Ca (Kl O O) (Ca (Nd O O) (Ea ?_)));refine Pc O O (λhc0=>?_) (λhc0=>?_);refine Ta (Ia (Ha (Va (Ja (Ca (Pd O) (Ca (Kb O) ?_))))));obtain⟨ad1,q1,hA1,hk1,hn1,hx1,hy1⟩:=hX.cm_elem (i:=j) sX;refine Ka (v:=.pointer (some (ad1.add (j*5)))) (Pa (i:=(j:Int)) Pt O hA1 O sX sX) (Ka (v:=.pointer (some ((ad1.add (j*5)).add 1))) (Wc (a:=ad1.add (j*5)) Un O) (Ka (v:=.agg (q1.v.cells).toArray) (Ya (l:=q1.v.cells) aZ oZ O O (Zg (hF.cells0 hk1) 1 O)) (Ca (Kb O) ?_)));refine Gb hF (NW h[j].val most hm0 hm1 _ _ q1.v.cells (hF.rep hy1)) (Za en_6 O O O) ?_;intro w hF;refine Ca (Ae O) (Oe (d:=24) O (λhg2=>?_) (λhg2=>?_));refine Ca (Pd O) (Ca (Kb O) ?_);obtain⟨ad3,q3,hA3,hk3,hn3,hx3,hy3⟩:=hX.cm_elem (i:=j) sX;refine Ka (v:=.pointer (some (ad3.add (j*5)))) (Pa (i:=(j:Int)) Pt O hA3 O sX sX) (Ka (v:=.pointer (some ((ad3.add (j*5)).add 1))) (Wc (a:=ad3.add (j*5)) Un O) (Ka (v:=.agg (q3.v.cells).toArray) (Ya (l:=q3.v.cells) aZ oZ O O (Zg (hF.cells0 hk3) 1 O)) ?_));refine Cb (narrow_c h[j].val _ _ q3.v.cells (hF.rep hy3)) (Ra en_18 O O) ?_;rintro _ w ⟨q0,rfl,hE⟩;have hF:=hF.ext hE;refine Ca (Nd O O) (Ca (Hc O) (Fc (Ca (Ae O) (Ca (Zj O) (Ca (Ae O) ?_)))))
 refine Oe (d:=34) O (λhg4=>?_) (λhg4=>?_);refine Oa (Oa (Oa (Oa (Oa (Oa (Oa (Ca (Nd O O) (Ea (Ge O (Ja (Ca (Hc O) ?_)))))))))));refine Ea (Qd (v:=.bool false) O O ?_);exact⟨_,O,λhb=>(by cases hb),hF.same⟩;refine Ca (Pd O) (Ca (Kb O) ?_);obtain⟨ad5,q5,hA5,hk5,hn5,hx5,hy5⟩:=hX.cm_elem (i:=j) sX;refine Ka (v:=.pointer (some (ad5.add (j*5)))) (Pa (i:=(j:Int)) Pt O hA5 O sX sX) (Ka (v:=.pointer (some ((ad5.add (j*5)).add 0))) (Wc (a:=ad5.add (j*5)) U1 O) (Ka (v:=.slice q5.A q5.n q5.c) (Jb vQ O (hF.cell0 (hk5 0 Fb))) (Ca (Ye bX O) (Ca (QB O O) (Ca (Md O O) (Ea ?_))))));refine Pc O O (λhc1=>?_) (λhc1=>?_);refine Ja (Ca (Hc O) (Ea ?_));refine Qd (v:=.bool false) O O ?_;exact⟨_,O,λhb=>(by cases hb),hF.same⟩;refine Ta (Ib (Ia (Fa (Ca (Kb O) (Ca (Ok (((j+1:Nat):Int)) O O) (Ca (Sc O) (Db ?_)))))));refine Yb ⟨_,?_,j+1,rfl,sX,(XO hs_ (λ_=>⟨by first|assumption|simp_all,by omega⟩)),I7,hF⟩;omega;refine Oa (Oa (Oa (Oa (Oa (Oa (Ca (Md O O) (Ca (Hc O) (Fc (Ca (Ae O) (Ca (Zj (b:=false) O) ?_))))))))));refine Ca (Ae O) (Oa (Oa (Oa (Oa (Oa (Oa (Oa (Ca (Nd O O) (Ea (Ge O (Ja ?_)))))))))));refine Ca (Hc O) (Ea ?_);refine Qd (v:=.bool false) O O ?_;exact⟨_,O,λhb=>(by cases hb),hF.same⟩;refine Nc (Kc O ?_);refine Ia (Ja (Ca (Pd O) (Ca (Ye aX O) (Ca (HW O O) (Ca (Hc O) (Ea ?_))))));refine Qd (v:=.bool _) O O ?_;exact⟨_,O,λhb=>by have:=of_decide_eq_true hb;exact⟨by omega,λi hi=>hs_ i hi sX⟩,hF.same⟩;refine Oa (Oa (Ca (Md O O) (Ea (Kg O ?_))));refine Nc (Kc O ?_);refine Ia (Ja (Ca (Pd O) (Ca (Ye aX O) (Ca (HW O O) (Ca (Hc O) (Ea ?_))))));refine Qd (v:=.bool _) O O ?_;exact⟨_,O,λhb=>by have:=of_decide_eq_true hb;exact⟨by omega,λi hi=>hs_ i hi sX⟩,hF.same⟩
end Go.Scarf
