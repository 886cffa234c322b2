/- A part of the proof. -/
import Derived.Test.YtgkmigdopohcnaaGreatDoorMore
set_option linter.all false
set_option maxHeartbeats 8000000
set_option maxRecDepth 10000
namespace Go.Scarf
open Go.RowKit
section
variable {P:Program}{R:Exit->Act->World->Prop}{n:Nat}{k:Kt}{s:Nat->Value}{w:World}{ops:List Oper}{zs:Lt}
theorem Wg.slots{L:Array Bool}{m:Nat}{C:World->Prop}{l:List (Nat × Value)}(hs:AllEq s l)(h:∀s',Wg P R n ops k zs L m C (Nk s' l) w):Wg P R n ops k zs L m C s w:=by
  have:=h s
  rwa [<-hs.eq]at this
end
def Jg(ops:List Oper)(i:Nat):List Nat:=match ops[i]? with
  | some o=>(o.after.toList.filter λe=>Region.binds .any e).map (·.on)
  | none=>[]
def SR(ops:List Oper):Bool:=(List.range ops.length).all λi=>(Jg ops i).all λd=>decide (d<i)
def Clo(ops:List Oper)(S:Nat->Bool):Prop:=∀i,i<ops.length->S i=true->∀d∈Jg ops i,S d=true
def BF(i:Nat)(S:Nat->Bool):Nat->Bool:=λk=>k==i || S k
def NL(l:Array Bool):Nat:=l.toList.count false
section
variable {P:Program}{R:Exit->Act->World->Prop}{n:Nat}{k:Kt}{ops:List Oper}{zs:Lt}{C:World->Prop}
theorem Rr{j:Nat}{next:(World->Prop)->(Nat->Value)->World->Prop}{s:Nat->Value}{w:World}{K:Act->World->Prop}(hz:zs.contains j=false)
    (hk:∀C' s' w',next C' s' w'->K (Ok n s') w') (h:ZK P n ops zs j next C s w):opStep P ops.toArray j K (Ok n s) w:=by
  unfold ZK at h;cases ho:ops[j]? with
  | none=>rw[ho]at h;exact h.elim
  | some o =>
    rw[ho]at h;have hoA:ops.toArray[j]? = some o:=by simpa using ho
    have fin:∀(s':Nat->Value)(w':World),Dk (zs.contains j) zs.D C (λC'=>next C' s') w'->K (Ok n s') w':=by
      intro s' w' hh;unfold Dk at hh;rw[if_neg (by rw[hz];decide)]at hh;obtain⟨C',-,-,hD⟩:=hh;exact hk _ _ _ hD
    unfold opStep;simp only[hoA];rw[wanted_eq];simp only[]at h;split
    ·rename_i hw1
     rw[if_pos hw1]at h;unfold StepN;rw[Oj];generalize (execOp (ev n s) o).run P w=r at *;cases r with
     | ok nx w' =>
       cases nx <;> simp only[]at h ⊢
       case value v=>rw[Mi];exact fin _ _ h
       case skip=>rw[Mi];exact fin _ _ h
       case enter f args=>exact h.mono λe w'' ⟨v,he,hk⟩=>⟨v,he,by dsimp only;rw[Mi];exact fin _ _ hk⟩
     | halt x w'=>simp only[]at h
    rename_i hw1
    rw[if_neg hw1]at h;rw[Mi];exact fin _ _ h
theorem G5{i:Nat}{o:Oper}(ho:ops[i]? = some o){d:Nat}:d∈Jg ops i↔∃e∈o.after,Region.binds .any e=true/\e.on=d:=by
  unfold Jg;rw[ho];simp only[nQ,List.mem_filter,Array.mem_toList_iff];constructor
  ·rintro⟨e,⟨h1,h2⟩,h3⟩;exact⟨e,h1,h2,h3⟩
  rintro⟨e,h1,h2,h3⟩;exact⟨e,⟨h1,h2⟩,h3⟩
theorem W1{listed:Array Bool}{j:Nat}(h:j∈Region.ready .any ops.toArray listed):listed.getD j true=false/\j<ops.length/\∀d∈Jg ops j,listed.getD d false=true:=by
  obtain⟨h1,o,ho,h2⟩:=mem_ready.1 h;have ho':ops[j]? = some o:=by simpa using ho
  refine⟨h1,(List.getElem?_eq_some_iff.1 ho').1,λd hd=>?_⟩;obtain⟨e,he,hb,rfl⟩:=(G5 ho').1 hd;exact h2 e he hb
theorem GI{listed:Array Bool}{j:Nat}(h1:listed.getD j true=false)(h2:j<ops.length)(h3:∀d∈Jg ops j,listed.getD d false=true):j∈Region.ready .any ops.toArray listed:=by
  have ho':ops[j]? = some ops[j]:=List.getElem?_eq_getElem h2;refine mem_ready.2 ⟨h1,ops[j],by simpa using ho',λe he hb=>h3 _ ((G5 ho').2 ⟨e,he,hb,O⟩)⟩
theorem AD{l:Array Bool}{i:Nat}(h:i<l.size)(a b:Bool):l.getD i a=l.getD i b:=by simp[h]
theorem TE{l:Array Bool}{i:Nat}(h:l.getD i true=false):NL (l.setIfInBounds i true)+1=NL l:=by
  have hi:i<l.size:=by
    rcases Nat.lt_or_ge i l.size with h'|h'
    ·exact h'
    simp[Array.getElem?_eq_none h']at h
  have hv:l.toList[i]'(by simpa using hi)=false:=by simpa[hi]using h
  unfold NL;rw[Array.toList_setIfInBounds];have key:∀(L:List Bool)(i:Nat)(hi:i<L.length),L[i]=false->(L.set i true).count false+1=L.count false:=by
    intro L
    induction L with
    | nil=>intro i hi;simp at hi
    | cons a L ih =>
      intro i hi hv;cases i with
      | zero=>simp at hv;subst hv;simp
      | succ i =>
        have:=ih i (by simpa using hi) (by simpa using hv);simp only[List.set_cons_succ,List.count_cons];omega
  exact key l.toList i (by simpa using hi) hv
def Does(P:Program)(n:Nat)(ops:List Oper)(i:Nat)(s:Nat->Value)(w:World)(Q:(Nat->Value)->World->Prop):Prop :=
  ∀K:Act->World->Prop,(∀s' w',Q s' w'->K (Ok n s') w')->opStep P ops.toArray i K (Ok n s) w
def StepA(P:Program)(n:Nat)(ops:List Oper)(Inv:(Nat->Bool)->(Nat->Value)->World->Prop)(i:Nat):Prop :=
  ∀(S:Nat->Bool)(s:Nat->Value)(w:World),S i=false->(∀d∈Jg ops i,S d=true)->Clo ops S->Inv S s w->Does P n ops i s w (Inv (BF i S))
variable {i d:Nat}{s:Nat->Value}{w w':World}{Q:(Nat->Value)->World->Prop}{op:Op}{ty:Nat}{pos:String}{aft:Array Edge}{g:Option (Nat × Bool)}
theorem XE{v:Value}(hi:ops[i]? = some ⟨some d,op,ty,pos,aft,g⟩)(hrun:(execOp (ev n s) ⟨some d,op,ty,pos,aft,g⟩).run P w=.ok (.value v) w')(h:Q (Ge s d v) w')(hw:Wa ops n s ⟨some d,op,ty,pos,aft,g⟩=true:=by rfl):Does P n ops i s w Q:=λK hk=>by
  refine Rr (zs:=.of []) (C:=λ_=>True) (next:=λ_ s' w'=>Q s' w') O (λ_ s' w' h=>hk s' w' h) ?_;unfold ZK;rw[hi];simp only[hw,if_true,hrun];exact⟨λ_=>True,λ_ h=>h,trivial,h⟩
theorem IM{f:FuncId}{args:Array Value}{Qc:Value->World->Prop}(hi:ops[i]? = some ⟨some d,op,ty,pos,aft,g⟩)(hc:Calls P f args w' (Pc Qc))(hrun:(execOp (ev n s) ⟨some d,op,ty,pos,aft,g⟩).run P w=.ok (.enter f args) w')
    (h:∀v w'',Qc v w''->Q (Ge s d v) w'') (hw:Wa ops n s ⟨some d,op,ty,pos,aft,g⟩=true:=by rfl):Does P n ops i s w Q:=λK hk=>by
  refine Rr (zs:=.of []) (C:=λ_=>True) (next:=λ_ s' w'=>Q s' w') O (λ_ s' w' h=>hk s' w' h) ?_;unfold ZK;rw[hi];simp only[hw,if_true,hrun];exact hc.mono λe w'' ⟨v,he,hk⟩=>⟨v,he,λ_=>True,λ_ h=>h,trivial,h v w'' hk⟩
theorem FW(R:Exit->Act->World->Prop)(k:Kt)(h:Dg P R n ops (.inv n Q k) (.of []) (.act i .nil) (λ_=>True) s w):Does P n ops i s w Q:=λK hk=>by
  unfold Dg Dw at h;refine Rr (zs:=.of []) O (λC' s' w' hn=>?_) h;unfold Dw at hn;obtain⟨s'',he,hI'⟩:∃s'',Ok n s'=Ok n s''/\Q s'' w':=hn;rw[he];exact hk _ _ hI'
variable {Inv:(Nat->Bool)->(Nat->Value)->World->Prop}
theorem allS_c(hlow:SR ops=true)(hstep:∀i,i<ops.length->StepA P n ops Inv i)
    (hend:∀s w,Inv (λ_=>true) s w->Eg P R n .normal k s w) :
    ∀(m:Nat)(listed:Array Bool)(s:Nat->Value)(w:World),listed.size=ops.length->NL listed=m->Clo ops (λi=>listed.getD i true)->Inv (λi=>listed.getD i true) s w->Wg P R n ops k (.of []) listed m (λ_=>True) s w:=by
  have hS:∀(S S':Nat->Bool)(s:Nat->Value)(w:World),(∀i,S i=S' i)->Inv S s w->Inv S' s w:=λS S' s w h hI=>by rwa [<-funext h]
  have h1:∀i,i<ops.length->∀d∈Jg ops i,d<i:=by
    unfold SR at hlow;simpa only[List.all_eq_true,List.mem_range,decide_eq_true_eq]using hlow
  have toF:∀s w,Inv (λ_=>true) s w->k.post P R .normal (Ok n s) w:=λs w h=>by
    have:=hend s w h;unfold Eg at this;exact this
  intro m
  induction m with
  | zero =>
    intro listed s w hsz hcn hdn hI;have hn:∀i,listed.getD i true=true:=λi=>by
      cases hv:listed.getD i true with
      | true=>rfl
      | false=>have:=TE hv;omega
    unfold Wg;refine⟨List.eq_nil_iff_forall_not_mem.2 λi hi=>?_,toF _ _ (hS _ _ _ _ hn hI)⟩;have:=(W1 hi).1;rw[hn i]at this;cases this
  | succ m ih =>
    intro listed s w hsz hcn hdn hI;have hne:Region.ready .any ops.toArray listed≠[]:=by
      have hex:∃c,c<ops.length/\listed.getD c true=false:=by
        refine Classical.byContradiction λhno=>?_;have hn:∀b∈listed.toList,b=true:=λb hb=>by
          obtain⟨c,hc,rfl⟩:=List.mem_iff_getElem.1 hb;cases hv:listed.toList[c]with
          | true=>rfl
          | false=>exact absurd ⟨c,by rw[<-hsz];simpa using hc,by have hc':c<listed.size:=(by simpa using hc);simpa[hc']using hv⟩ hno
        have:NL listed=0:=List.count_eq_zero.2 λhm=>by cases hn _ hm
        omega
      have hmin:∀(t:Nat),(∃c,c<t/\c<ops.length/\listed.getD c true=false)->∃c,c<ops.length/\listed.getD c true=false/\∀d,d<c->listed.getD d true=true:=λt=>by
        induction t with
        | zero=>rintro⟨c,h,-⟩;omega
        | succ t iht =>
          rintro⟨c,h,hc,hv⟩;by_cases hb:∃c,c<t/\c<ops.length/\listed.getD c true=false
          ·exact iht hb
          refine⟨c, hc, hv, λd hd => ?_⟩;cases hvd:listed.getD d true with
          | true=>rfl
          | false=>exact absurd ⟨d,by omega,by omega,hvd⟩ hb
      obtain⟨c0,hc0,hv0⟩:=hex;obtain⟨c,hc,hv,hlow⟩:=hmin (c0+1) ⟨c0,by omega,hc0,hv0⟩;intro he;have:=GI (listed:=listed) hv hc (λd hd=>by
        have hd':=h1 c hc d hd;rw[AD Ba false true];exact hlow d hd')
      rw[he]at this;cases this
    unfold Wg;refine⟨trivial,λh0=>absurd h0 hne,λi hi=>?_⟩;obtain⟨r1,r2,r3⟩:=W1 hi;have r3':∀d∈Jg ops i,listed.getD d true=true:=λd hd=>by
      have hd':=h1 i r2 d hd;rw[AD Ba true false];exact r3 d hd
    refine hstep i r2 (λi=>listed.getD i true) s w r1 r3' hdn hI _ λs' w' hI'=>?_;rw[if_neg (by simp[Lt.contains])];have hi':i<listed.size:=by omega
    have hg:∀q,(listed.setIfInBounds i true).getD q true=BF i (λk=>listed.getD k true) q:=λq=>by
      unfold BF;by_cases hq:q=i
      ·subst hq;simp[hi']
      rw[getD_set_ne true (Ne.symm hq)];have:(q==i)=false:=by simpa using hq
      rw[this,Bool.false_or]
    refine⟨trivial,?_⟩;have:=ih (listed.setIfInBounds i true) s' w' (by simpa using hsz) (by have:=TE r1;omega) (λq hq (hl:(listed.setIfInBounds i true).getD q true=true) d hd=>show (listed.setIfInBounds i true).getD d true=true from ?_) (hS _ _ _ _ (λq=>(hg q).symm) hI')
    ·unfold Wg at this;exact this
    by_cases hdi : d = i
    ·subst hdi;simp[hi']
    rw[getD_set_ne true (Ne.symm hdi)];by_cases hqi:q=i
    ·subst hqi;exact r3' d hd
    rw[getD_set_ne true (Ne.symm hqi)]at hl;exact hdn q hq hl d hd
theorem UZ{id:Nat}(N:Nat)(hm:P.follows .mixedOrders=true)(hlow:SR ops=true)(hI:Inv (λi=>!decide (i<N)) s w.drew)(hstep:∀i,i<N->StepA P n ops Inv i)
    (hend:∀s w,Inv (λ_=>true) s w->Eg P R n .normal k s w) (hN:ops.length=N:=by rfl):Cg P R n (.region id ops.toArray true) k s w:=by
  subst hN;have hS:∀(S S':Nat->Bool)(s:Nat->Value)(w:World),(∀i,S i=S' i)->Inv S s w->Inv S' s w:=λS S' s w h hI=>by rwa [<-funext h]
  have hg:∀i,(Array.replicate ops.length false).getD i true = !decide (i<ops.length):=λi=>by
    by_cases h:i<ops.length <;> simp[h]
  have hW:=allS_c (R:=R) (k:=k) hlow hstep hend ops.length (Array.replicate ops.length false) s w.drew La (by simp[NL]) (λi hi (hl:(Array.replicate ops.length false).getD i true=true)=>by
    rw[hg i,decide_eq_true hi]at hl;cases hl) (hS _ _ _ _ (λi=>(hg i).symm) hI)
  unfold Cg;refine wp_region_any hm (Km (zs:=.of []) (Q:=k.post P R .normal) (λ_ _ h=>h) _ (λ_=>True) _ _ _ ?_);unfold Wg at hW;simpa using hW
end
theorem X3{s:Nat->Value}{d:Nat}{v:Value}:Ge s d v d=v:=by simp[Ge]
theorem Q0{s:Nat->Value}{d e:Nat}{v:Value}(h:e≠d):Ge s d v e=s e:=by
  have:Nat.beq e d=false:=by
    cases hb:Nat.beq e d with
    | false=>rfl
    | true=>exact absurd (Nat.eq_of_beq_eq_true hb) h
  rw[Ge,this,cond_false]
abbrev Fact:=Nat × Nat × (Option Value->Value->World->Prop)
def Yo(A:Nat × Nat)(S:Nat->Bool)(s:Nat->Value):Option Value:=if S A.1=true then some (s A.2) else none
def AllG(A:Nat × Nat)(S:Nat->Bool)(s:Nat->Value)(w:World)(l:List Fact):Prop:=∀(k:Nat)(f:Fact),l[k]? = some f->S f.1=true->f.2.2 (Yo A S s) (s f.2.1) w
def StabG(l:List Fact):Prop:=∀(k:Nat)(f:Fact),l[k]? = some f->∀(a:Option Value)(v:Value)(w w':World),Same [] w w'->f.2.2 a v w->f.2.2 a v w'
def StabN(l:List Fact):Prop:=∀(k:Nat)(f:Fact),l[k]? = some f->∀(v:Value)(w w':World),Same [] w w'->f.2.2 none v w->f.2.2 (some (.pointer (some ⟨w.heap.size,0,none⟩))) v w'
theorem StabG.nil:StabG []:=λk f h=>by simp at h
theorem StabG.cons{f:Fact}{l:List Fact}(h:∀a v w w',Same [] w w'->f.2.2 a v w->f.2.2 a v w')(hl:StabG l):StabG (f::l):=λk g hg=>by
  cases k with
  | zero => obtain rfl : f = g := by simpa using hg
            exact h
  | succ k=>exact hl k g (by simpa using hg)
theorem StabN.nil:StabN []:=λk f h=>by simp at h
theorem StabN.cons{f:Fact}{l:List Fact}(h:∀v w w',Same [] w w'->f.2.2 none v w->f.2.2 (some (.pointer (some ⟨w.heap.size,0,none⟩))) v w')(hl:StabN l):StabN (f::l):=λk g hg=>by
  cases k with
  | zero => obtain rfl : f = g := by simpa using hg
            exact h
  | succ k=>exact hl k g (by simpa using hg)
def Q6(A:Nat × Nat)(l:List Fact):Bool:=decide (A.2::l.map (·.2.1)).Nodup&&decide (A.1::l.map (·.1)).Nodup
theorem CD{l:List Nat}(hn:l.Nodup){i j:Nat}(hi:i<l.length)(hj:j<l.length)(h:l[i]=l[j]):i=j:=by
  have hp:=List.pairwise_iff_getElem.1 hn;rcases Nat.lt_trichotomy i j with h'|h'|h'
  ·exact absurd h (hp i j hi hj h')
  ·exact h'
  exact absurd h.symm (hp j i hj hi h')
theorem Ql{i k:Nat}{S:Nat->Bool}(h:k≠i):BF i S k=S k:=by
  unfold BF;have:(k==i)=false:=by simpa using h
  rw[this,Bool.false_or]
section
variable {A:Nat × Nat}{S:Nat->Bool}{s:Nat->Value}{w w':World}{l:List Fact}{v:Value}
theorem AllG.put(hI:AllG A S s w l)(hst:StabG l)(hd:Q6 A l=true)(k:Nat){i d:Nat}{G:Option Value->Value->World->Prop}(hk:l[k]? = some (i,d,G))(hs:Same [] w w')(hv:G (Yo A S s) v w'):AllG A (BF i S) (Ge s d v) w' l:=by
  unfold Q6 at hd;rw[Bool.and_eq_true,decide_eq_true_eq,decide_eq_true_eq,List.nodup_cons,List.nodup_cons]at hd;obtain⟨hkl,hke⟩:=List.getElem?_eq_some_iff.1 hk;have nA1:A.1≠i:=λh=>hd.2.1 (nQ.2 ⟨_,List.mem_iff_getElem.2 ⟨k,hkl,hke⟩,h.symm⟩);have nA2:A.2≠d:=λh=>hd.1.1 (nQ.2 ⟨_,List.mem_iff_getElem.2 ⟨k,hkl,hke⟩,h.symm⟩);have eA:Yo A (BF i S) (Ge s d v)=Yo A S s:=by unfold Yo;rw[Ql nA1,Q0 nA2]
  intro k' f hf hS;rw[eA];obtain⟨hkl',hke'⟩:=List.getElem?_eq_some_iff.1 hf;by_cases e:k'=k
  ·subst e
   rw[hk]at hf;obtain rfl:=lQ hf;show G _ (Ge s d v d) w';rw[X3];exact hv
  have n1 : f.2.1 ≠ d := λh => e (CD hd.1.2 (i := k') (j := k) (by simpa using hkl') (by simpa using hkl) (by simp[hke, hke', h]));have n2:f.1≠i:=λh=>e (CD hd.2.2 (i:=k') (j:=k) (by simpa using hkl') (by simpa using hkl) (by simp[hke,hke',h]));rw[Ql n2]at hS;rw[Q0 n1];exact hst k' f hf _ _ _ _ hs (hI k' f hf hS)
theorem AllG.putA(hI:AllG A S s w l)(hst:StabN l)(hd:Q6 A l=true)(hA:S A.1=false)(hs:Same [] w w'):AllG A (BF A.1 S) (Ge s A.2 (.pointer (some ⟨w.heap.size,0,none⟩))) w' l:=by
  unfold Q6 at hd;rw[Bool.and_eq_true,decide_eq_true_eq,decide_eq_true_eq,List.nodup_cons,List.nodup_cons]at hd;have eA:Yo A (BF A.1 S) (Ge s A.2 (.pointer (some ⟨w.heap.size,0,none⟩)))=some (.pointer (some ⟨w.heap.size,0,none⟩)):=by
    unfold Yo BF;simp[X3]
  intro k f hf hS;rw[eA];obtain⟨hkl,hke⟩:=List.getElem?_eq_some_iff.1 hf;have n1:f.2.1≠A.2:=λh=>hd.1.1 (nQ.2 ⟨_,List.mem_iff_getElem.2 ⟨k,hkl,hke⟩,h⟩);have n2:f.1≠A.1:=λh=>hd.2.1 (nQ.2 ⟨_,List.mem_iff_getElem.2 ⟨k,hkl,hke⟩,h⟩);rw[Ql n2]at hS;rw[Q0 n1];have:=hI k f hf hS;rw[show Yo A S s=none by unfold Yo;rw[hA];rfl]at this;exact hst k f hf _ _ _ hs this
theorem AllG.ext{S':Nat->Bool}(hI:AllG A S s w l)(h:∀i,S i=S' i):AllG A S' s w l:=by
  have:S=S':=funext h;rw[<-this];exact hI
theorem AllG.at(hI:AllG A S s w l)(k:Nat){i d:Nat}{G:Option Value->Value->World->Prop}(hk:l[k]? = some (i,d,G))(hS:S i=true):G (Yo A S s) (s d) w:=hI k _ hk hS
end
theorem E9{w:World}{b n:Nat}{l:List Value}{T:TypeId}{ds:List D}(h:w.heap[b]? = some (.cells l.toArray T))(hr:RepL (λ_=>True) w ds l)(hn:ds.length=n)(hm:n<=9223372036854775807):Rep (λ_=>True) w (.slice ds) [W b n n] :=
  Rep.slice_mk hn.symm (gQ _) hm λ_=>⟨_,rfl,l,λj hj=>⟨by
    have e:(⟨b,0,none⟩:Addr).add j=⟨b,0+j,none⟩:=by unfold Addr.add;split <;> simp_all
    rw[e,Cc h (0+j)];simp[hj],trivial⟩,hr⟩
def AF(v:Value):Option Value->Value->World->Prop:=λ_ u _=>u=v
def Yx(N:Nat)(o:Obj):Option Value->Value->World->Prop:=λ_ u w=>∃b,u=W b N N/\w.heap[b]? = some o
theorem Gp{w w':World}{b:Nat}{o:Obj}(h:w.heap[b]? = some o)(hs:Same [] w w'):w'.heap[b]? = some o:=(hs.block b (Kb h) La).trans h
theorem Cy{v:Value}:∀a u w w',Same [] w w'->AF v a u w->AF v a u w':=λ_ _ _ _ _ h=>h
theorem EL{N:Nat}{o:Obj}:∀a u w w',Same [] w w'->Yx N o a u w->Yx N o a u w':=λ_ _ _ _ hs ⟨b,e,h⟩=>⟨b,e,Gp h hs⟩
theorem By{v:Value}:∀u w w',Same [] w w'->AF v none u w->AF v (some (.pointer (some ⟨w.heap.size,0,none⟩))) u w':=λ_ _ _ _ h=>h
theorem UI{N:Nat}{o:Obj}:∀u w w',Same [] w w'->Yx N o none u w->Yx N o (some (.pointer (some ⟨w.heap.size,0,none⟩))) u w':=λ_ _ _ hs ⟨b,e,h⟩=>⟨b,e,Gp h hs⟩
def IG(Z:Nat->World->Prop)(w00:World)(sl:List (Nat × Value))(A:Nat × Nat)(l:List Fact)(S:Nat->Bool)(s:Nat->Value)(w:World):Prop :=
  AllEq s sl/\Same [] w00 w/\AllG A S s w l/\(S A.1=true->∃b,s A.2=V b/\Z b w/\w00.heap.size<=b)
def Ou(st:Nat)(J1 J2:(Nat->Bool)->(Nat->Value)->World->Prop)(S:Nat->Bool)(s:Nat->Value)(w:World):Prop:=if S st=true then J2 S s w else J1 S s w
def RH(sl:List (Nat × Value))(A:Nat × Nat)(l:List Fact):Bool:=sl.all λx=>!(A.2::l.map (·.2.1)).contains x.1
structure Ph (Z:Nat->World->Prop) (sl:List (Nat × Value)) (A:Nat × Nat) (l:List Fact):Prop where
  st:StabG l
  sn:StabN l
  di:Q6 A l=true
  ap:RH sl A l=true
  z:∀b w w',Same [] w w'->Z b w->Z b w'
theorem AllEq.updS{s:Nat->Value}{d:Nat}{v:Value}:∀{l:List (Nat × Value)},AllEq s l->(∀x∈l,x.1≠d)->AllEq (Ge s d v) l
  | [],_,_=>trivial
  | (e,u)::l,h,hn=>⟨by rw[Q0 (hn (e,u) La)];exact h.1,AllEq.updS h.2 λx hx=>hn x (by simp[hx])⟩
section
variable {P:Program}{R:Exit->Act->World->Prop}{n:Nat}{k:Kt}{ops:List Oper}{Z:Nat->World->Prop}{w00:World}{sl:List (Nat × Value)}{A:Nat × Nat}{l:List Fact}{S:Nat->Bool}{s:Nat->Value}{w w':World}{i d:Nat}{op:Op}{ty:Nat}{pos:String}{aft:Array Edge}{g:Option (Nat × Bool)}{G:Option Value->Value->World->Prop}
theorem IG.put(h:IG Z w00 sl A l S s w)(hp:Ph Z sl A l)(k:Nat)(hk:l[k]? = some (i,d,G))(hs:Same [] w w'){v:Value}(hv:G (Yo A S s) v w'):IG Z w00 sl A l (BF i S) (Ge s d v) w':=by
  obtain⟨h1,h2,h3,h4⟩:=h;have hm:(i,d,G)∈l:=List.mem_of_getElem? hk;have hdi:=hp.di;unfold Q6 at hdi;rw[Bool.and_eq_true,decide_eq_true_eq,decide_eq_true_eq,List.nodup_cons,List.nodup_cons]at hdi;have nA1:A.1≠i:=λh=>hdi.2.1 (nQ.2 ⟨_,hm,h.symm⟩);have nA2:A.2≠d:=λh=>hdi.1.1 (nQ.2 ⟨_,hm,h.symm⟩);have hap:=hp.ap;unfold RH at hap;refine⟨h1.updS λx hx e=>?_,h2.trans hs,h3.put hp.st hp.di k hk hs hv,λhA=>?_⟩
  ·have := List.all_eq_true.1 hap x hx
   have hc:(A.2::l.map (·.2.1)).contains x.1=true:=List.contains_iff_mem.2 (List.mem_cons_of_mem _ (nQ.2 ⟨_,hm,e.symm⟩));rw[hc]at this;cases this
  rw[Ql nA1]at hA;obtain⟨b,e,hz,hb⟩:=h4 hA;exact⟨b,by rw[Q0 nA2];exact e,hp.z _ _ _ hs hz,hb⟩
theorem IG.putA(h:IG Z w00 sl A l S s w)(hp:Ph Z sl A l)(hA:S A.1=false)(hs:Same [] w w')(hz:Z w.heap.size w'):IG Z w00 sl A l (BF A.1 S) (Ge s A.2 (.pointer (some ⟨w.heap.size,0,none⟩))) w':=by
  obtain⟨h1,h2,h3,h4⟩:=h;have hap:=hp.ap;unfold RH at hap;refine⟨h1.updS λx hx e=>?_,h2.trans hs,h3.putA hp.sn hp.di hA hs,λ_=>⟨_,X3,hz,h2.size⟩⟩;have:=List.all_eq_true.1 hap x hx;have hc:(A.2::l.map (·.2.1)).contains x.1=true:=List.contains_iff_mem.2 (by rw[e];simp);rw[hc]at this;cases this
theorem Vk(h:Nat.blt d n=true):ev n s (.tmp d)=s d:=by
  show (bif Nat.blt d n then s d else undef)=s d;rw[h];rfl
theorem IG.dep(h:IG Z w00 sl A l S s w)(hd:∀d∈Jg ops i,S d=true)(k:Nat){k' d':Nat}{G':Option Value->Value->World->Prop}(hk:l[k]? = some (k',d',G'))(hm:(Jg ops i).contains k'=true):G' (Yo A S s) (s d') w :=
  h.2.2.1 k _ hk (hd k' (List.contains_iff_mem.1 hm))
theorem Sr(hp:Ph Z sl A l)(k:Nat)(hk:l[k]? = some (i,d,G))(hi:ops[i]? = some ⟨some d,op,ty,pos,aft,g⟩)
    (h:∀S s w,(∀d∈Jg ops i,S d=true)->IG Z w00 sl A l S s w->∃v w',(execOp (ev n s) ⟨some d,op,ty,pos,aft,g⟩).run P w=.ok (.value v) w'/\Same [] w w'/\G (Yo A S s) v w')
    (hw:∀s,Wa ops n s ⟨some d,op,ty,pos,aft,g⟩=true:=by exact λ_=>rfl):StepA P n ops (IG Z w00 sl A l) i:=λS s w hS hd _ hI=>by
  obtain⟨v,w',hr,hs,hG⟩:=h S s w hd hI;exact XE hi hr (hI.put hp k hk hs hG) (hw s)
theorem VR(hp:Ph Z sl A l)(k:Nat)(hk:l[k]? = some (i,d,G))(hi:ops[i]? = some ⟨some d,op,ty,pos,aft,g⟩)
    (h:∀S s w,(∀d∈Jg ops i,S d=true)->IG Z w00 sl A l S s w->∃f args w' Qc,Calls P f args w' (Pc Qc)/\(execOp (ev n s) ⟨some d,op,ty,pos,aft,g⟩).run P w=.ok (.enter f args) w'/\∀v w'',Qc v w''->Same [] w w''/\G (Yo A S s) v w'')
    (hw:∀s,Wa ops n s ⟨some d,op,ty,pos,aft,g⟩=true:=by exact λ_=>rfl):StepA P n ops (IG Z w00 sl A l) i:=λS s w hS hd _ hI=>by
  obtain⟨f,args,w',Qc,hc,hr,hq⟩:=h S s w hd hI;exact IM hi hc hr (λv w'' hQ=>hI.put hp k hk (hq v w'' hQ).1 (hq v w'' hQ).2) (hw s)
theorem g_cp(hp:Ph Z sl A l)(k k':Nat){i' d':Nat}(hk:l[k]? = some (i,d,G))(hk':l[k']? = some (i',d',G))(hi:ops[i]? = some ⟨some d,.move (.tmp d'),ty,pos,aft,g⟩)(hm:(Jg ops i).contains i'=true)(hn:Nat.blt d' n=true)
    (hw:∀s,Wa ops n s ⟨some d,.move (.tmp d'),ty,pos,aft,g⟩=true:=by exact λ_=>rfl):StepA P n ops (IG Z w00 sl A l) i :=
  Sr hp k hk hi (λS s w hd hI=>⟨s d',w,Fm (Vk hn),Same.refl _ _,hI.dep hd k' hk' hm⟩) hw
theorem PX(hp:Ph Z sl A l)(k k':Nat){i' d':Nat}(hk:l[k]? = some (i,d,G))(hk':l[k']? = some (i',d',G))(hi:ops[i]? = some ⟨some d,.assign (.tmp d'),ty,pos,aft,g⟩)(hm:(Jg ops i).contains i'=true)(hn:Nat.blt d' n=true)
    (hw:∀s,Wa ops n s ⟨some d,.assign (.tmp d'),ty,pos,aft,g⟩=true:=by exact λ_=>rfl):StepA P n ops (IG Z w00 sl A l) i :=
  Sr hp k hk hi (λS s w hd hI=>⟨s d',w,Nj (Vk hn),Same.refl _ _,hI.dep hd k' hk' hm⟩) hw
theorem g_mv{v:Value}{e:Nat}(hp:Ph Z sl A l)(k:Nat)(hk:l[k]? = some (i,d,AF v))(hi:ops[i]? = some ⟨some d,.move (.tmp e),ty,pos,aft,g⟩)(m:Nat)(he:sl[m]? = some (e,v))(hn:Nat.blt e n=true)
    (hw:∀s,Wa ops n s ⟨some d,.move (.tmp e),ty,pos,aft,g⟩=true:=by exact λ_=>rfl):StepA P n ops (IG Z w00 sl A l) i :=
  Sr hp k hk hi (λS s w hd hI=>⟨v,w,Fm ((Vk hn).trans (by
    have:∀{sl:List (Nat × Value)},AllEq s sl->(e,v)∈sl->s e=v:=fun {sl}=>by
      induction sl with
      | nil=>intro _ h;cases h
      | cons x sl ih => intro h hm
                        rcases oQ.1 hm with rfl|hm
                        ·exact h.1
                        exact ih h.2 hm
    exact this hI.1 (List.mem_of_getElem? he))),Same.refl _ _,O⟩) hw
theorem HN{N:Nat}{o:Obj}(dl:List (Nat × Value))(hp:Ph Z sl A l)(k:Nat)(hk:l[k]? = some (i,d,Yx N o))(hi:ops[i]? = some ⟨some d,op,ty,pos,aft,g⟩)
    (hdl:∀S s w,(∀d∈Jg ops i,S d=true)->IG Z w00 sl A l S s w->AllEq s dl) (hr:∀s w,(execOp (ev n (Nk s dl)) ⟨some d,op,ty,pos,aft,g⟩).run P w=.ok (.value (.slice (some ⟨w.heap.size,0,none⟩) N N)) (w.alloc o))
    (hw:∀s,Wa ops n s ⟨some d,op,ty,pos,aft,g⟩=true:=by exact λ_=>rfl):StepA P n ops (IG Z w00 sl A l) i :=
  Sr hp k hk hi (λS s w hd hI=>⟨_,_,by have:=hr s w;rwa [<-(hdl S s w hd hI).eq]at this,(Same.alloc w o).mono La,w.heap.size,rfl,heap_alloc_new w o⟩) hw
theorem g_al{t:TypeId}{z:Value}{o:Obj}(hp:Ph (λb w=>w.heap[b]? = some o) sl A l)(hi:ops[A.1]? = some ⟨some A.2,.alloc t,ty,pos,aft,g⟩)(hz:∀w,(zeroValue t).run P w=.ok z w)(ho:(.cells z.cells t:Obj)=o)
    (hw:∀s,Wa ops n s ⟨some A.2,.alloc t,ty,pos,aft,g⟩=true:=by exact λ_=>rfl):StepA P n ops (IG (λb w=>w.heap[b]? = some o) w00 sl A l) A.1:=λS s w hS hd _ hI=>by
  subst ho;exact XE hi (Nh hz) (hI.putA hp hS ((Same.alloc w _).mono La) (heap_alloc_new w _)) (hw s)
variable {st:Nat}{J1 J2:(Nat->Bool)->(Nat->Value)->World->Prop}
theorem Does.mono{Q Q':(Nat->Value)->World->Prop}(h:Does P n ops i s w Q)(hq:∀s w,Q s w->Q' s w):Does P n ops i s w Q':=λK hk=>h K λs w h=>hk s w (hq s w h)
theorem StepA.ahead(h:StepA P n ops J1 i)(hm:(Jg ops st).contains i=true:=by kernel_rfl)(hl:decide (i<st/\st<ops.length)=true:=by kernel_rfl):StepA P n ops (Ou st J1 J2) i:=λS s w hS hd hc hI=>by
  have hl:=of_decide_eq_true hl;have hst:S st=false:=by
    cases e:S st with
    | false=>rfl
    | true=>rw[hc st hl.2 e i (List.contains_iff_mem.1 hm)]at hS;cases hS
  unfold Ou at hI ⊢;rw[if_neg (by rw[hst];decide)]at hI;exact (h S s w hS hd hc hI).mono λs w h=>by rw[if_neg (by rw[Ql Ba,hst];decide)];exact h
theorem StepA.behind(h:StepA P n ops J2 i)(hm:(Jg ops i).contains st=true:=by kernel_rfl)(hne:decide (st≠i)=true:=by kernel_rfl):StepA P n ops (Ou st J1 J2) i:=λS s w hS hd hc hI=>by
  have hst:=hd st (List.contains_iff_mem.1 hm);unfold Ou at hI ⊢;rw[if_pos hst]at hI;exact (h S s w hS hd hc hI).mono λs w h=>by rw[if_pos (by rw[Ql (of_decide_eq_true hne)];exact hst)];exact h
theorem StepA.both(h1:StepA P n ops J1 i)(h2:StepA P n ops J2 i)(hne:decide (st≠i)=true):StepA P n ops (Ou st J1 J2) i:=λS s w hS hd hc hI=>by
  unfold Ou at hI ⊢;rw[show BF i S st=S st from Ql (of_decide_eq_true hne)];by_cases hst:S st=true
  ·rw[if_pos hst]at hI
   exact (h2 S s w hS hd hc hI).mono λs w h=>by rw[if_pos hst];exact h
  rw[if_neg hst]at hI;exact (h1 S s w hS hd hc hI).mono λs w h=>by rw[if_neg hst];exact h
theorem StepA.at(h:∀S s w,S st=false->(∀d∈Jg ops st,S d=true)->Clo ops S->J1 S s w->Does P n ops st s w (J2 (BF st S))):StepA P n ops (Ou st J1 J2) st:=λS s w hS hd hc hI=>by
  unfold Ou at hI ⊢;rw[if_neg (by rw[hS];decide)]at hI;exact (h S s w hS hd hc hI).mono λs w h=>by rw[if_pos (by unfold BF;simp)];exact h
theorem below{Q:Nat->Prop}{m:Nat}(h:∀i,i<m->Q i)(hm:Q m):∀i,i<m+1->Q i:=λi hi=>by
  rcases Nat.lt_or_ge i m with h'|h'
  ·exact h i h'
  obtain rfl : i = m := by omega
  exact hm
theorem UP{Q:Nat->Prop}:∀i,i<0->Q i:=λi hi=>absurd hi (Nat.not_lt_zero i)
end
attribute [irreducible] StepA Does
end Go.Scarf
