/- A part of the proof. -/
import Derived.Test.YtbhneplafiapdaaGreatDoorMore
set_option linter.all false
set_option maxHeartbeats 8000000
set_option maxRecDepth 10000
namespace Go.Scarf
open Go.RowKit
section
variable {P:Program}{R:Exit->Act->World->Prop}{n:Nat}{k:Kt}{s:Nat->Value}{w:World}{ops:List Oper}{zs:Lt}
theorem Wg.slots{L:Array Bool}{m:Nat}{C:World->Prop}{l:List (Nat × Value)}(hs:AllEq s l)(h:∀s',Wg P R n ops k zs L m C (Zn s' l) w):Wg P R n ops k zs L m C s w:=by
  have:=h s
  rwa [<-hs.eq]at this
end
def Nn(ops:List Oper)(i:Nat):List Nat:=match ops[i]? with
  | some o=>(o.after.toList.filter λe=>Region.binds .any e).map (·.on)
  | none=>[]
def SL(ops:List Oper):Bool:=(List.range ops.length).all λi=>(Nn ops i).all λd=>decide (d<i)
def Clo(ops:List Oper)(S:Nat->Bool):Prop:=∀i,i<ops.length->S i=true->∀d∈Nn ops i,S d=true
def II(i:Nat)(S:Nat->Bool):Nat->Bool:=λk=>k==i || S k
def XF(l:Array Bool):Nat:=l.toList.count false
section
variable {P:Program}{R:Exit->Act->World->Prop}{n:Nat}{k:Kt}{ops:List Oper}{zs:Lt}{C:World->Prop}
theorem Jw{j:Nat}{next:(World->Prop)->(Nat->Value)->World->Prop}{s:Nat->Value}{w:World}{K:Act->World->Prop}(hz:zs.contains j=false)
    (hk:∀C' s' w',next C' s' w'->K (Ji n s') w') (h:FH P n ops zs j next C s w):opStep P ops.toArray j K (Ji n s) w:=by
  unfold FH at h;cases ho:ops[j]? with
  | none=>rw[ho]at h;exact h.elim
  | some o =>
    rw[ho]at h;have hoA:ops.toArray[j]? = some o:=by simpa using ho
    have fin:∀(s':Nat->Value)(w':World),Dk (zs.contains j) zs.D C (λC'=>next C' s') w'->K (Ji n s') w':=by
      intro s' w' hh;unfold Dk at hh;rw[if_neg (by rw[hz];decide)]at hh;obtain⟨C',-,-,hD⟩:=hh;exact hk _ _ _ hD
    unfold opStep;simp only[hoA];rw[Pi];simp only[]at h;split
    ·rename_i hw1
     rw[if_pos hw1]at h;unfold StepN;rw[Vi];generalize (execOp (ev n s) o).run P w=r at *;cases r with
     | ok nx w' =>
       cases nx <;> simp only[]at h ⊢
       case value v=>rw[Yh];exact fin _ _ h
       case skip=>rw[Yh];exact fin _ _ h
       case enter f args=>exact h.mono λe w'' ⟨v,he,hk⟩=>⟨v,he,by dsimp only;rw[Yh];exact fin _ _ hk⟩
     | halt x w'=>simp only[]at h
    rename_i hw1
    rw[if_neg hw1]at h;rw[Yh];exact fin _ _ h
theorem C3{i:Nat}{o:Oper}(ho:ops[i]? = some o){d:Nat}:d∈Nn ops i↔∃e∈o.after,Region.binds .any e=true/\e.on=d:=by
  unfold Nn;rw[ho];simp only[nQ,List.mem_filter,Array.mem_toList_iff];constructor
  ·rintro⟨e,⟨h1,h2⟩,h3⟩;exact⟨e,h1,h2,h3⟩
  rintro⟨e,h1,h2,h3⟩;exact⟨e,⟨h1,h2⟩,h3⟩
theorem Yy{listed:Array Bool}{j:Nat}(h:j∈Region.ready .any ops.toArray listed):listed.getD j true=false/\j<ops.length/\∀d∈Nn ops j,listed.getD d false=true:=by
  obtain⟨h1,o,ho,h2⟩:=mem_ready.1 h;have ho':ops[j]? = some o:=by simpa using ho
  refine⟨h1,(List.getElem?_eq_some_iff.1 ho').1,λd hd=>?_⟩;obtain⟨e,he,hb,rfl⟩:=(C3 ho').1 hd;exact h2 e he hb
theorem RB{listed:Array Bool}{j:Nat}(h1:listed.getD j true=false)(h2:j<ops.length)(h3:∀d∈Nn ops j,listed.getD d false=true):j∈Region.ready .any ops.toArray listed:=by
  have ho':ops[j]? = some ops[j]:=List.getElem?_eq_getElem h2;refine mem_ready.2 ⟨h1,ops[j],by simpa using ho',λe he hb=>h3 _ ((C3 ho').2 ⟨e,he,hb,O⟩)⟩
theorem A9{l:Array Bool}{i:Nat}(h:i<l.size)(a b:Bool):l.getD i a=l.getD i b:=by simp[h]
theorem N7{l:Array Bool}{i:Nat}(h:l.getD i true=false):XF (l.setIfInBounds i true)+1=XF l:=by
  have hi:i<l.size:=by
    rcases Nat.lt_or_ge i l.size with h'|h'
    ·exact h'
    simp[Array.getElem?_eq_none h']at h
  have hv:l.toList[i]'(by simpa using hi)=false:=by simpa[hi]using h
  unfold XF;rw[Array.toList_setIfInBounds];have key:∀(L:List Bool)(i:Nat)(hi:i<L.length),L[i]=false->(L.set i true).count false+1=L.count false:=by
    intro L
    induction L with
    | nil=>intro i hi;simp at hi
    | cons a L ih =>
      intro i hi hv;cases i with
      | zero=>simp at hv;subst hv;simp
      | succ i =>
        have:=ih i (by simpa using hi) (by simpa using hv);simp only[List.set_cons_succ,List.count_cons];omega
  exact key l.toList i (by simpa using hi) hv
def OO(P:Program)(n:Nat)(ops:List Oper)(i:Nat)(s:Nat->Value)(w:World)(Q:(Nat->Value)->World->Prop):Prop :=
  ∀K:Act->World->Prop,(∀s' w',Q s' w'->K (Ji n s') w')->opStep P ops.toArray i K (Ji n s) w
def P8(P:Program)(n:Nat)(ops:List Oper)(Inv:(Nat->Bool)->(Nat->Value)->World->Prop)(i:Nat):Prop :=
  ∀(S:Nat->Bool)(s:Nat->Value)(w:World),S i=false->(∀d∈Nn ops i,S d=true)->Clo ops S->Inv S s w->OO P n ops i s w (Inv (II i S))
variable {i d:Nat}{s:Nat->Value}{w w':World}{Q:(Nat->Value)->World->Prop}{op:Op}{ty:Nat}{pos:String}{aft:Array Edge}{g:Option (Nat × Bool)}
theorem PN{v:Value}(hi:ops[i]? = some ⟨some d,op,ty,pos,aft,g⟩)(hrun:(execOp (ev n s) ⟨some d,op,ty,pos,aft,g⟩).run P w=.ok (.value v) w')(h:Q (Ff s d v) w')(hw:Kb ops n s ⟨some d,op,ty,pos,aft,g⟩=true:=by rfl):OO P n ops i s w Q:=λK hk=>by
  refine Jw (zs:=.of []) (C:=λ_=>True) (next:=λ_ s' w'=>Q s' w') O (λ_ s' w' h=>hk s' w' h) ?_;unfold FH;rw[hi];simp only[hw,if_true,hrun];exact⟨λ_=>True,λ_ h=>h,trivial,h⟩
theorem IG{f:FuncId}{args:Array Value}{Qc:Value->World->Prop}(hi:ops[i]? = some ⟨some d,op,ty,pos,aft,g⟩)(hc:Calls P f args w' (Vd Qc))(hrun:(execOp (ev n s) ⟨some d,op,ty,pos,aft,g⟩).run P w=.ok (.enter f args) w')
    (h:∀v w'',Qc v w''->Q (Ff s d v) w'') (hw:Kb ops n s ⟨some d,op,ty,pos,aft,g⟩=true:=by rfl):OO P n ops i s w Q:=λK hk=>by
  refine Jw (zs:=.of []) (C:=λ_=>True) (next:=λ_ s' w'=>Q s' w') O (λ_ s' w' h=>hk s' w' h) ?_;unfold FH;rw[hi];simp only[hw,if_true,hrun];exact hc.mono λe w'' ⟨v,he,hk⟩=>⟨v,he,λ_=>True,λ_ h=>h,trivial,h v w'' hk⟩
variable {Inv:(Nat->Bool)->(Nat->Value)->World->Prop}
theorem OZ(hlow:SL ops=true)(hstep:∀i,i<ops.length->P8 P n ops Inv i)
    (hend:∀s w,Inv (λ_=>true) s w->Eg P R n .normal k s w) :
    ∀(m:Nat)(listed:Array Bool)(s:Nat->Value)(w:World),listed.size=ops.length->XF listed=m->Clo ops (λi=>listed.getD i true)->Inv (λi=>listed.getD i true) s w->Wg P R n ops k (.of []) listed m (λ_=>True) s w:=by
  have hS:∀(S S':Nat->Bool)(s:Nat->Value)(w:World),(∀i,S i=S' i)->Inv S s w->Inv S' s w:=λS S' s w h hI=>by rwa [<-funext h]
  have h1:∀i,i<ops.length->∀d∈Nn ops i,d<i:=by
    unfold SL at hlow;simpa only[List.all_eq_true,List.mem_range,decide_eq_true_eq]using hlow
  have toF:∀s w,Inv (λ_=>true) s w->k.post P R .normal (Ji n s) w:=λs w h=>by
    have:=hend s w h;unfold Eg at this;exact this
  intro m
  induction m with
  | zero =>
    intro listed s w hsz hcn hdn hI;have hn:∀i,listed.getD i true=true:=λi=>by
      cases hv:listed.getD i true with
      | true=>rfl
      | false=>have:=N7 hv;omega
    unfold Wg;refine⟨List.eq_nil_iff_forall_not_mem.2 λi hi=>?_,toF _ _ (hS _ _ _ _ hn hI)⟩;have:=(Yy hi).1;rw[hn i]at this;cases this
  | succ m ih =>
    intro listed s w hsz hcn hdn hI;have hne:Region.ready .any ops.toArray listed≠[]:=by
      have hex:∃c,c<ops.length/\listed.getD c true=false:=by
        refine Classical.byContradiction λhno=>?_;have hn:∀b∈listed.toList,b=true:=λb hb=>by
          obtain⟨c,hc,rfl⟩:=List.mem_iff_getElem.1 hb;cases hv:listed.toList[c]with
          | true=>rfl
          | false=>exact absurd ⟨c,by rw[<-hsz];simpa using hc,by have hc':c<listed.size:=(by simpa using hc);simpa[hc']using hv⟩ hno
        have:XF listed=0:=List.count_eq_zero.2 λhm=>by cases hn _ hm
        omega
      have hmin:∀(t:Nat),(∃c,c<t/\c<ops.length/\listed.getD c true=false)->∃c,c<ops.length/\listed.getD c true=false/\∀d,d<c->listed.getD d true=true:=λt=>by
        induction t with
        | zero=>rintro⟨c,h,-⟩;omega
        | succ t iht =>
          rintro⟨c,h,hc,hv⟩;by_cases hb:∃c,c<t/\c<ops.length/\listed.getD c true=false
          ·exact iht hb
          refine⟨c, hc, hv, λd hd => ?_⟩;cases hvd:listed.getD d true with
          | true=>rfl
          | false=>exact absurd ⟨d,by omega,by omega,hvd⟩ hb
      obtain⟨c0,hc0,hv0⟩:=hex;obtain⟨c,hc,hv,hlow⟩:=hmin (c0+1) ⟨c0,by omega,hc0,hv0⟩;intro he;have:=RB (listed:=listed) hv hc (λd hd=>by
        have hd':=h1 c hc d hd;rw[A9 U false true];exact hlow d hd')
      rw[he]at this;cases this
    unfold Wg;refine⟨trivial,λh0=>absurd h0 hne,λi hi=>?_⟩;obtain⟨r1,r2,r3⟩:=Yy hi;have r3':∀d∈Nn ops i,listed.getD d true=true:=λd hd=>by
      have hd':=h1 i r2 d hd;rw[A9 U true false];exact r3 d hd
    refine hstep i r2 (λi=>listed.getD i true) s w r1 r3' hdn hI _ λs' w' hI'=>?_;rw[if_neg (by simp[Lt.contains])];have hi':i<listed.size:=by omega
    have hg:∀q,(listed.setIfInBounds i true).getD q true=II i (λk=>listed.getD k true) q:=λq=>by
      unfold II;by_cases hq:q=i
      ·subst hq;simp[hi']
      rw[getD_set_ne true (Ne.symm hq)];have:(q==i)=false:=by simpa using hq
      rw[this,Bool.false_or]
    refine⟨trivial,?_⟩;have:=ih (listed.setIfInBounds i true) s' w' (by simpa using hsz) (by have:=N7 r1;omega) (λq hq (hl:(listed.setIfInBounds i true).getD q true=true) d hd=>show (listed.setIfInBounds i true).getD d true=true from ?_) (hS _ _ _ _ (λq=>(hg q).symm) hI')
    ·unfold Wg at this;exact this
    by_cases hdi : d = i
    ·subst hdi;simp[hi']
    rw[getD_set_ne true (Ne.symm hdi)];by_cases hqi:q=i
    ·subst hqi;exact r3' d hd
    rw[getD_set_ne true (Ne.symm hqi)]at hl;exact hdn q hq hl d hd
theorem NX{id:Nat}(N:Nat)(hm:P.follows .mixedOrders=true)(hlow:SL ops=true)(hI:Inv (λi=>!decide (i<N)) s w.drew)(hstep:∀i,i<N->P8 P n ops Inv i)
    (hend:∀s w,Inv (λ_=>true) s w->Eg P R n .normal k s w) (hN:ops.length=N:=by rfl):Cg P R n (.region id ops.toArray true) k s w:=by
  subst hN;have hS:∀(S S':Nat->Bool)(s:Nat->Value)(w:World),(∀i,S i=S' i)->Inv S s w->Inv S' s w:=λS S' s w h hI=>by rwa [<-funext h]
  have hg:∀i,(Array.replicate ops.length false).getD i true = !decide (i<ops.length):=λi=>by
    by_cases h:i<ops.length <;> simp[h]
  have hW:=OZ (R:=R) (k:=k) hlow hstep hend ops.length (Array.replicate ops.length false) s w.drew Ua (by simp[XF]) (λi hi (hl:(Array.replicate ops.length false).getD i true=true)=>by
    rw[hg i,decide_eq_true hi]at hl;cases hl) (hS _ _ _ _ (λi=>(hg i).symm) hI)
  unfold Cg;refine wp_region_any hm (Bl (zs:=.of []) (Q:=k.post P R .normal) (λ_ _ h=>h) _ (λ_=>True) _ _ _ ?_);unfold Wg at hW;simpa using hW
end
theorem Lz{s:Nat->Value}{d:Nat}{v:Value}:Ff s d v d=v:=by simp[Ff]
theorem Ez{s:Nat->Value}{d e:Nat}{v:Value}(h:e≠d):Ff s d v e=s e:=by
  have:Nat.beq e d=false:=by
    cases hb:Nat.beq e d with
    | false=>rfl
    | true=>exact absurd (Nat.eq_of_beq_eq_true hb) h
  rw[Ff,this,cond_false]
abbrev Fact:=Nat × Nat × (Option Value->Value->World->Prop)
def L2(A:Nat × Nat)(S:Nat->Bool)(s:Nat->Value):Option Value:=if S A.1=true then some (s A.2) else none
def AllG(A:Nat × Nat)(S:Nat->Bool)(s:Nat->Value)(w:World)(l:List Fact):Prop:=∀(k:Nat)(f:Fact),l[k]? = some f->S f.1=true->f.2.2 (L2 A S s) (s f.2.1) w
def StabG(l:List Fact):Prop:=∀(k:Nat)(f:Fact),l[k]? = some f->∀(a:Option Value)(v:Value)(w w':World),Same [] w w'->f.2.2 a v w->f.2.2 a v w'
def StabN(l:List Fact):Prop:=∀(k:Nat)(f:Fact),l[k]? = some f->∀(v:Value)(w w':World),Same [] w w'->f.2.2 none v w->f.2.2 (some (.pointer (some ⟨w.heap.size,0,none⟩))) v w'
theorem StabG.nil:StabG []:=λk f h=>by simp at h
theorem StabG.cons{f:Fact}{l:List Fact}(h:∀a v w w',Same [] w w'->f.2.2 a v w->f.2.2 a v w')(hl:StabG l):StabG (f::l):=λk g hg=>by
  cases k with
  | zero => obtain rfl : f = g := by simpa using hg
            exact h
  | succ k=>exact hl k g (by simpa using hg)
theorem StabN.nil:StabN []:=λk f h=>by simp at h
theorem StabN.cons{f:Fact}{l:List Fact}(h:∀v w w',Same [] w w'->f.2.2 none v w->f.2.2 (some (.pointer (some ⟨w.heap.size,0,none⟩))) v w')(hl:StabN l):StabN (f::l):=λk g hg=>by
  cases k with
  | zero => obtain rfl : f = g := by simpa using hg
            exact h
  | succ k=>exact hl k g (by simpa using hg)
def CE(A:Nat × Nat)(l:List Fact):Bool:=decide (A.2::l.map (·.2.1)).Nodup&&decide (A.1::l.map (·.1)).Nodup
theorem R9{l:List Nat}(hn:l.Nodup){i j:Nat}(hi:i<l.length)(hj:j<l.length)(h:l[i]=l[j]):i=j:=by
  have hp:=List.pairwise_iff_getElem.1 hn;rcases Nat.lt_trichotomy i j with h'|h'|h'
  ·exact absurd h (hp i j hi hj h')
  ·exact h'
  exact absurd h.symm (hp j i hj hi h')
theorem KA{i k:Nat}{S:Nat->Bool}(h:k≠i):II i S k=S k:=by
  unfold II;have:(k==i)=false:=by simpa using h
  rw[this,Bool.false_or]
section
variable {A:Nat × Nat}{S:Nat->Bool}{s:Nat->Value}{w w':World}{l:List Fact}{v:Value}
theorem AllG.put(hI:AllG A S s w l)(hst:StabG l)(hd:CE A l=true)(k:Nat){i d:Nat}{G:Option Value->Value->World->Prop}(hk:l[k]? = some (i,d,G))(hs:Same [] w w')(hv:G (L2 A S s) v w'):AllG A (II i S) (Ff s d v) w' l:=by
  unfold CE at hd;rw[Bool.and_eq_true,decide_eq_true_eq,decide_eq_true_eq,List.nodup_cons,List.nodup_cons]at hd;obtain⟨hkl,hke⟩:=List.getElem?_eq_some_iff.1 hk;have nA1:A.1≠i:=λh=>hd.2.1 (nQ.2 ⟨_,List.mem_iff_getElem.2 ⟨k,hkl,hke⟩,h.symm⟩);have nA2:A.2≠d:=λh=>hd.1.1 (nQ.2 ⟨_,List.mem_iff_getElem.2 ⟨k,hkl,hke⟩,h.symm⟩);have eA:L2 A (II i S) (Ff s d v)=L2 A S s:=by unfold L2;rw[KA nA1,Ez nA2]
  intro k' f hf hS;rw[eA];obtain⟨hkl',hke'⟩:=List.getElem?_eq_some_iff.1 hf;by_cases e:k'=k
  ·subst e
   rw[hk]at hf;obtain rfl:=lQ hf;show G _ (Ff s d v d) w';rw[Lz];exact hv
  have n1 : f.2.1 ≠ d := λh => e (R9 hd.1.2 (i := k') (j := k) (by simpa using hkl') (by simpa using hkl) (by simp[hke, hke', h]));have n2:f.1≠i:=λh=>e (R9 hd.2.2 (i:=k') (j:=k) (by simpa using hkl') (by simpa using hkl) (by simp[hke,hke',h]));rw[KA n2]at hS;rw[Ez n1];exact hst k' f hf _ _ _ _ hs (hI k' f hf hS)
theorem AllG.putA(hI:AllG A S s w l)(hst:StabN l)(hd:CE A l=true)(hA:S A.1=false)(hs:Same [] w w'):AllG A (II A.1 S) (Ff s A.2 (.pointer (some ⟨w.heap.size,0,none⟩))) w' l:=by
  unfold CE at hd;rw[Bool.and_eq_true,decide_eq_true_eq,decide_eq_true_eq,List.nodup_cons,List.nodup_cons]at hd;have eA:L2 A (II A.1 S) (Ff s A.2 (.pointer (some ⟨w.heap.size,0,none⟩)))=some (.pointer (some ⟨w.heap.size,0,none⟩)):=by
    unfold L2 II;simp[Lz]
  intro k f hf hS;rw[eA];obtain⟨hkl,hke⟩:=List.getElem?_eq_some_iff.1 hf;have n1:f.2.1≠A.2:=λh=>hd.1.1 (nQ.2 ⟨_,List.mem_iff_getElem.2 ⟨k,hkl,hke⟩,h⟩);have n2:f.1≠A.1:=λh=>hd.2.1 (nQ.2 ⟨_,List.mem_iff_getElem.2 ⟨k,hkl,hke⟩,h⟩);rw[KA n2]at hS;rw[Ez n1];have:=hI k f hf hS;rw[show L2 A S s=none by unfold L2;rw[hA];rfl]at this;exact hst k f hf _ _ _ hs this
theorem AllG.ext{S':Nat->Bool}(hI:AllG A S s w l)(h:∀i,S i=S' i):AllG A S' s w l:=by
  have:S=S':=funext h;rw[<-this];exact hI
theorem AllG.at(hI:AllG A S s w l)(k:Nat){i d:Nat}{G:Option Value->Value->World->Prop}(hk:l[k]? = some (i,d,G))(hS:S i=true):G (L2 A S s) (s d) w:=hI k _ hk hS
end
theorem DE{w:World}{b n:Nat}{l:List Value}{T:TypeId}{ds:List D}(h:w.heap[b]? = some (.cells l.toArray T))(hr:RepL (λ_=>True) w ds l)(hn:ds.length=n)(hm:n<=9223372036854775807):Rep (λ_=>True) w (.slice ds) [W b n n] :=
  Rep.slice_mk hn.symm (gQ _) hm λ_=>⟨_,rfl,l,λj hj=>⟨by
    have e:(⟨b,0,none⟩:Addr).add j=⟨b,0+j,none⟩:=by unfold Addr.add;split <;> simp_all
    rw[e,Vc h (0+j)];simp[hj],trivial⟩,hr⟩
end Go.Scarf
