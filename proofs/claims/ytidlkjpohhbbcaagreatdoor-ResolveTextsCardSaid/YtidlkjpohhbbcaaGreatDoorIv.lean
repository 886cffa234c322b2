/- A part of the proof. -/
import Derived.Test.YtidlkjpohhbbcaaGreatDoorM15
import Derived.Test.YtidlkjpohhbbcaaGreatDoorQ19
set_option linter.all false
set_option maxHeartbeats 8000000
set_option maxRecDepth 10000
namespace Go.Scarf
open List renaming length->aL
open Go.RowKit
variable {N b bc d' i' j k' m:Nat}{listed:Array Bool}{T:TypeId}{o:Obj}{w0:World}{x:Tv}
section
variable {P:Program}{R:Exit->Act->World->Prop}{n:Nat}{k:Kt}{s:Nat->Value}{w:World}{ops:List Oper}{zs:Lt}
def Wg.slots{L:Array Bool}{C:World->Prop}{l:List (Nat × Value)}(hs:AllEq s l)(h:∀s',Wg P R n ops k zs L m C (Gh s' l) w):Wg P R n ops k zs L m C s w:=by
  have:=h s
  rwa [<-hs.eq]at this
end
def Mf(ops:List Oper)(i:Nat):List Nat:=match ops[i]? with
  | some o=>(o.after.toList.filter λe=>Region.binds .any e).map (·.on)
  | none=>[]
def lowOk(ops:List Oper):Bool:=(List.range (aL ops)).all λi=>(Mf ops i).all λd=>decide (d<i)
def Clo(ops:List Oper)(S:Nat->Bool):Prop:=∀i,i<aL ops->S i=true->∀d∈Mf ops i,S d=true
def YJ(i:Nat)(S:Nat->Bool):Nat->Bool:=λk=>k==i || S k
def ET(l:Array Bool):Nat:=l.toList.count false
section
variable {P:Program}{R:Exit->Act->World->Prop}{n:Nat}{k:Kt}{ops:List Oper}{zs:Lt}{C:World->Prop}
def Ns{next:(World->Prop)->(Nat->Value)->World->Prop}{s:Nat->Value}{w:World}{K:Act->World->Prop}(hz:zs.contains j=false)
    (hk:∀C' s' w',next C' s' w'->K (Bi n s') w') (h:YQ P n ops zs j next C s w):opStep P ops.toArray j K (Bi n s) w:=by
  unfold YQ at h;cases ho:ops[j]? with
  | none =>
    rw[ho]at h;exact h.elim
  | some o =>
    rw[ho]at h;have hoA:ops.toArray[j]? = some o:=aS ho
    have fin:∀(s':Nat->Value)(w':World),Dk (zs.contains j) zs.D C (λC'=>next C' s') w'->K (Bi n s') w':=by
      intro s' w' hh;unfold Dk at hh;rw[tQ (by rw[hz];decide)]at hh;obtain⟨C',-,-,hD⟩:=hh;exact hk _ _ _ hD
    unfold opStep;simp only[hoA];rw[wanted_eq];simp only[]at h;split
    ·rename_i hw1
     rw[uQ hw1]at h;unfold StepN;rw[Ej];generalize (execOp (ev n s) o).run P w=r at *;cases r with
     | ok nx w' =>
       cases nx <;> simp only[]at h ⊢
       case value v=>rw[Kh];exact fin _ _ h
       case skip=>rw[Kh];exact fin _ _ h
       case enter f args=>exact h.mono λe w'' ⟨v,he,hk⟩=>⟨v,he,by dsimp only;rw[Kh];exact fin _ _ hk⟩
     | halt x w'=>simp only[]at h
    rename_i hw1
    rw[tQ hw1]at h;rw[Kh];exact fin _ _ h
theorem KA{i:Nat}{o:Oper}(ho:ops[i]? = some o){d:Nat}:d∈Mf ops i↔∃e∈o.after,Region.binds .any e=true/\e.on=d:=by grind [Mf]
theorem D5(h:j∈Region.ready .any ops.toArray listed):listed.getD j true=false/\j<aL ops/\∀d∈Mf ops j,listed.getD d false=true:=by
  obtain⟨h1,o,ho,h2⟩:=mem_ready.1 h;grind [KA]
theorem ML(h1:listed.getD j true=false)(h2:j<aL ops)(h3:∀d∈Mf ops j,listed.getD d false=true):j∈Region.ready .any ops.toArray listed:=by
  have ho':ops[j]? = some ops[j]:=qK
  refine mem_ready.2 ⟨h1,ops[j],by simpa using ho',λe he hb=>h3 _<|(KA ho').2 ⟨e,he,hb,O⟩⟩
def CJ{l:Array Bool}{i:Nat}(h:i<l.size)(a b:Bool):l.getD i a=l.getD i b:=by simp[h]
theorem DH{l:Array Bool}{i:Nat}(h:l.getD i true=false):ET (l.setIfInBounds i true)+1=ET l:=by
  have hi:i<l.size:=qK
  have hv:l.toList[i]'(aS hi)=false:=qX
  grind [ET]
def Does(P:Program)(n:Nat)(ops:List Oper)(i:Nat)(s:Nat->Value)(w:World)(Q:(Nat->Value)->World->Prop):Prop :=
  ∀K:Act->World->Prop,(∀s' w',Q s' w'->K (Bi n s') w')->opStep P ops.toArray i K (Bi n s) w
def StepA(P:Program)(n:Nat)(ops:List Oper)(Inv:(Nat->Bool)->(Nat->Value)->World->Prop)(i:Nat):Prop :=
  ∀(S:Nat->Bool)(s:Nat->Value)(w:World),S i=false->(∀d∈Mf ops i,S d=true)->Clo ops S->Inv S s w->Does P n ops i s w (Inv (YJ i S))
variable {i d:Nat}{s:Nat->Value}{w w':World}{Q:(Nat->Value)->World->Prop}{op:Op}{ty:Nat}{pos:String}{aft:Array Edge}{g:Option (Nat × Bool)}
def UG{v:Value}(hi:ops[i]? = some ⟨some d,op,ty,pos,aft,g⟩)(hrun:(execOp (ev n s) ⟨some d,op,ty,pos,aft,g⟩).run P w=.ok (.value v) w')(h:Q (Ic s d v) w')(hw:Ka ops n s ⟨some d,op,ty,pos,aft,g⟩=true:=by rfl):Does P n ops i s w Q:=λK hk=>by
  refine Ns (zs:=.of []) (C:=λ_=>True) (next:=λ_ s' w'=>Q s' w') O (λ_ s' w' h=>hk s' w' h) ?_;unfold YQ;rw[hi];simp only[hw,if_true,hrun];exact⟨λ_=>True,λ_ h=>h,trivial,h⟩
def GV{f:FuncId}{args:Array Value}{Qc:Value->World->Prop}(hi:ops[i]? = some ⟨some d,op,ty,pos,aft,g⟩)(hc:Calls P f args w' (Za Qc))(hrun:(execOp (ev n s) ⟨some d,op,ty,pos,aft,g⟩).run P w=.ok (.enter f args) w')
    (h:∀v w'',Qc v w''->Q (Ic s d v) w'') (hw:Ka ops n s ⟨some d,op,ty,pos,aft,g⟩=true:=by rfl):Does P n ops i s w Q:=λK hk=>by
  refine Ns (zs:=.of []) (C:=λ_=>True) (next:=λ_ s' w'=>Q s' w') O (λ_ s' w' h=>hk s' w' h) ?_;unfold YQ;rw[hi];simp only[hw,if_true,hrun];exact hc.mono λe w'' ⟨v,he,hk⟩=>⟨v,he,λ_=>True,λ_ h=>h,trivial,h v w'' hk⟩
theorem does_dg(R:Exit->Act->World->Prop)(k:Kt)(h:Dg P R n ops (.inv n Q k) (.of []) (.act i .nil) (λ_=>True) s w):Does P n ops i s w Q:=λK hk=>by
  unfold Dg Dw at h;refine Ns (zs:=.of []) O (λC' s' w' hn=>?_) h;unfold Dw at hn;obtain⟨s'',he,hI'⟩:∃s'',Bi n s'=Bi n s''/\Q s'' w':=hn;grind
variable {Inv:(Nat->Bool)->(Nat->Value)->World->Prop}
theorem allS_c(hlow:lowOk ops=true)(hstep:∀i,i<aL ops->StepA P n ops Inv i)
    (hend:∀s w,Inv (λ_=>true) s w->Eg P R n .normal k s w) :
    ∀(m:Nat)(listed:Array Bool)(s:Nat->Value)(w:World),listed.size=aL ops->ET listed=m->Clo ops (λi=>listed.getD i true)->Inv (λi=>listed.getD i true) s w->Wg P R n ops k (.of []) listed m (λ_=>True) s w:=by
  have hS:∀(S S':Nat->Bool)(s:Nat->Value)(w:World),(∀i,S i=S' i)->Inv S s w->Inv S' s w:=λS S' s w h hI=>by rwa [<-funext h]
  have h1:∀i,i<aL ops->∀d∈Mf ops i,d<i:=by grind [lowOk]
  have toF:∀s w,Inv (λ_=>true) s w->k.post P R .normal (Bi n s) w:=λs w h=>by
    have:=hend s w h;unfold Eg at this;exact this
  intro m
  induction m with
  | zero =>
    intro listed s w hsz hcn hdn hI;have hn:∀i,listed.getD i true=true:=λi=>by
      cases hv:listed.getD i true with
      | true=>rfl
      | false=>have:=DH hv;omega
    unfold Wg;refine⟨List.eq_nil_iff_forall_not_mem.2 λi hi=>?_,toF _ _<|hS _ _ _ _ hn hI⟩;have:=(D5 hi).1;rw[hn i]at this;cases this
  | succ m ih =>
    intro listed s w hsz hcn hdn hI;have hne:Region.ready .any ops.toArray listed≠[]:=by
      have hex:∃c,c<aL ops/\listed.getD c true=false:=by
        refine Classical.byContradiction λhno=>?_;have hn:∀b∈listed.toList,b=true:=λb hb=>by
          obtain⟨c,hc,rfl⟩:=List.mem_iff_getElem.1 hb;cases hv:listed.toList[c]with
          | true=>rfl
          | false=>exact absurd ⟨c,by rw[<-hsz];simpa using hc,by have hc':c<listed.size:=(aS hc);simpa[hc']using hv⟩ hno
        have:ET listed=0:=List.count_eq_zero.2 λhm=>by cases hn _ hm
        omega
      have hmin:∀(t:Nat),(∃c,c<t/\c<aL ops/\listed.getD c true=false)->∃c,c<aL ops/\listed.getD c true=false/\∀d,d<c->listed.getD d true=true:=λt=>by
        induction t with
        | zero=>rintro⟨c,h,-⟩;omega
        | succ t iht =>
          rintro⟨c,h,hc,hv⟩;by_cases hb:∃c,c<t/\c<aL ops/\listed.getD c true=false
          ·exact iht hb
          refine⟨c, hc, hv, λd hd => ?_⟩;cases hvd:listed.getD d true with
          | true=>rfl
          | false=>exact absurd ⟨d,Aa,Aa,hvd⟩ hb
      obtain⟨c0,hc0,hv0⟩:=hex;obtain⟨c,hc,hv,hlow⟩:=hmin (c0+1) ⟨c0,Aa,hc0,hv0⟩;intro he;have:=ML (listed:=listed) hv hc (λd hd=>by
        have hd':=h1 c hc d hd;rw[CJ Aa false true];exact hlow d hd')
      rw[he]at this;cases this
    unfold Wg;refine⟨trivial,λh0=>absurd h0 hne,λi hi=>?_⟩;obtain⟨r1,r2,r3⟩:=D5 hi;have r3':∀d∈Mf ops i,listed.getD d true=true:=λd hd=>by
      have hd':=h1 i r2 d hd;rw[CJ Aa true false];exact r3 d hd
    refine hstep i r2 (λi=>listed.getD i true) s w r1 r3' hdn hI _ λs' w' hI'=>?_;rw[tQ (by simp[Lt.contains])];have hi':i<listed.size:=Aa
    have hg:∀q,(listed.setIfInBounds i true).getD q true=YJ i (λk=>listed.getD k true) q:=λq=>by
      unfold YJ;by_cases hq:q=i
      ·subst hq;simp[hi']
      rw[getD_set_ne true<|Ne.symm hq];have:(q==i)=false:=aS hq
      rw[this,Bool.false_or]
    refine⟨trivial,?_⟩;have:=ih (listed.setIfInBounds i true) s' w' (aS hsz) (by have:=DH r1;omega) (λq hq (hl:(listed.setIfInBounds i true).getD q true=true) d hd=>show (listed.setIfInBounds i true).getD d true=true from ?_)<|hS _ _ _ _ (λq=>(hg q).symm) hI'
    ·unfold Wg at this
     exact this
    by_cases hdi : d = i
    ·subst hdi
     simp[hi']
    rw[getD_set_ne true<|Ne.symm hdi];by_cases hqi:q=i
    ·subst hqi
     exact r3' d hd
    rw[getD_set_ne true<|Ne.symm hqi]at hl;exact hdn q hq hl d hd
def c_all{id:Nat}(N:Nat)(hm:P.follows .mixedOrders=true)(hlow:lowOk ops=true)(hI:Inv (λi=>!decide (i<N)) s w.drew)(hstep:∀i,i<N->StepA P n ops Inv i)
    (hend:∀s w,Inv (λ_=>true) s w->Eg P R n .normal k s w) (hN:aL ops=N:=by rfl):Cg P R n (.region id ops.toArray true) k s w:=by
  subst hN;have hS:∀(S S':Nat->Bool)(s:Nat->Value)(w:World),(∀i,S i=S' i)->Inv S s w->Inv S' s w:=λS S' s w h hI=>by rwa [<-funext h]
  have hg:∀i,(Array.replicate (aL ops) false).getD i true = !decide (i<aL ops):=λi=>by
    by_cases h:i<aL ops <;> simp[h]
  have hW:=allS_c (R:=R) (k:=k) hlow hstep hend (aL ops) (Array.replicate (aL ops) false) s w.drew Da (by simp[ET]) (λi hi (hl:(Array.replicate (aL ops) false).getD i true=true)=>by
    rw[hg i,gZ hi]at hl;cases hl)<|hS _ _ _ _ (λi=>(hg i).symm) hI
  unfold Cg;refine wp_region_any hm<|Sm (zs:=.of []) (Q:=k.post P R .normal) (λ_ _ h=>h) _ (λ_=>True) _ _ _ ?_;unfold Wg at hW;simpa using hW
end
theorem D7{s:Nat->Value}{d:Nat}{v:Value}:Ic s d v d=v:=by simp[Ic]
theorem Z5{s:Nat->Value}{d e:Nat}{v:Value}(h:e≠d):Ic s d v e=s e:=by
  have:Nat.beq e d=false:=by
    cases hb:Nat.beq e d with
    | false=>rfl
    | true=>simp_all
  grind [Ic]
abbrev Fact:=Nat × Nat × (Option Value->Value->World->Prop)
def Mp(A:Nat × Nat)(S:Nat->Bool)(s:Nat->Value):Option Value:=if S A.1=true then some (s A.2) else none
def AllG(A:Nat × Nat)(S:Nat->Bool)(s:Nat->Value)(w:World)(l:List Fact):Prop:=∀(k:Nat)(f:Fact),l[k]? = some f->S f.1=true->f.2.2 (Mp A S s) (s f.2.1) w
def StabG(l:List Fact):Prop:=∀(k:Nat)(f:Fact),l[k]? = some f->∀(a:Option Value)(v:Value)(w w':World),Same [] w w'->f.2.2 a v w->f.2.2 a v w'
def StabN(l:List Fact):Prop:=∀(k:Nat)(f:Fact),l[k]? = some f->∀(v:Value)(w w':World),Same [] w w'->f.2.2 none v w->f.2.2 (some (.pointer (some ⟨w.heap.size,0,none⟩))) v w'
def StabG.nil:StabG []:=λk f h=>by simp at h
def StabG.cons{f:Fact}{l:List Fact}(h:∀a v w w',Same [] w w'->f.2.2 a v w->f.2.2 a v w')(hl:StabG l):StabG (f::l):=λk g hg=>by
  cases k with
  | zero => obtain rfl : f = g := by simpa using hg
            exact h
  | succ k=>exact hl k g (aS hg)
def StabN.nil:StabN []:=λk f h=>by simp at h
def StabN.cons{f:Fact}{l:List Fact}(h:∀v w w',Same [] w w'->f.2.2 none v w->f.2.2 (some (.pointer (some ⟨w.heap.size,0,none⟩))) v w')(hl:StabN l):StabN (f::l):=λk g hg=>by
  cases k with
  | zero => obtain rfl : f = g := by simpa using hg
            exact h
  | succ k=>exact hl k g (aS hg)
def R_(A:Nat × Nat)(l:List Fact):Bool:=decide (A.2::l.map (·.2.1)).Nodup&&decide (A.1::l.map (·.1)).Nodup
theorem QG{l:List Nat}(hn:l.Nodup){i:Nat}(hi:i<aL l)(hj:j<aL l)(h:l[i]=l[j]):i=j:=by
  have hp:=List.pairwise_iff_getElem.1 hn;grind
theorem Il{i k:Nat}{S:Nat->Bool}(h:k≠i):YJ i S k=S k:=by grind [YJ]
section
variable {A:Nat × Nat}{S:Nat->Bool}{s:Nat->Value}{w w':World}{l:List Fact}{v:Value}
theorem AllG.put(hI:AllG A S s w l)(hst:StabG l)(hd:R_ A l=true)(k:Nat){i d:Nat}{G:Option Value->Value->World->Prop}(hk:l[k]? = some (i,d,G))(hs:Same [] w w')(hv:G (Mp A S s) v w'):AllG A (YJ i S) (Ic s d v) w' l:=by
  unfold R_ at hd;rw[vQ,xQ,xQ,List.nodup_cons,List.nodup_cons]at hd;obtain⟨hkl,hke⟩:=List.getElem?_eq_some_iff.1 hk;have nA1:A.1≠i:=qK
  have nA2:A.2≠d:=qK
  have eA:Mp A (YJ i S) (Ic s d v)=Mp A S s:=by unfold Mp;rw[Il nA1,Z5 nA2]
  intro k' f hf hS;rw[eA];obtain⟨hkl',hke'⟩:=List.getElem?_eq_some_iff.1 hf;by_cases e:k'=k
  ·subst e
   rw[hk]at hf;obtain rfl:=lQ hf;grind [Ic,D7]
  have n1 : f.2.1 ≠ d := λh => e (QG hd.1.2 (i := k') (j := k) (aS hkl') (aS hkl) (by simp[hke, hke', h]));have n2:f.1≠i:=λh=>e<|QG hd.2.2 (i:=k') (j:=k) (aS hkl') (aS hkl) (by simp[hke,hke',h]);rw[Il n2]at hS;rw[Z5 n1];exact hst k' f hf _ _ _ _ hs<|hI k' f hf hS
theorem AllG.putA(hI:AllG A S s w l)(hst:StabN l)(hd:R_ A l=true)(hA:S A.1=false)(hs:Same [] w w'):AllG A (YJ A.1 S) (Ic s A.2 (.pointer (some ⟨w.heap.size,0,none⟩))) w' l:=by
  unfold R_ at hd;rw[vQ,xQ,xQ,List.nodup_cons,List.nodup_cons]at hd;have eA:Mp A (YJ A.1 S) (Ic s A.2<|.pointer<|some ⟨w.heap.size,0,none⟩)=some (.pointer<|some ⟨w.heap.size,0,none⟩):=by grind [Mp,YJ,D7]
  intro k f hf hS;rw[eA];obtain⟨hkl,hke⟩:=List.getElem?_eq_some_iff.1 hf;have n1:f.2.1≠A.2:=qK
  have n2:f.1≠A.1:=qK
  rw[Il n2]at hS;rw[Z5 n1];have:=hI k f hf hS;rw[show Mp A S s=none by unfold Mp;rw[hA];rfl]at this;exact hst k f hf _ _ _ hs this
theorem AllG.ext{S':Nat->Bool}(hI:AllG A S s w l)(h:∀i,S i=S' i):AllG A S' s w l:=by
  have:S=S':=funext h;grind
def AllG.at(hI:AllG A S s w l)(k:Nat){i d:Nat}{G:Option Value->Value->World->Prop}(hk:l[k]? = some (i,d,G))(hS:S i=true):G (Mp A S s) (s d) w:=hI k _ hk hS
end
theorem KE{w:World}{n:Nat}{l:List Value}{ds:List D}(h:w.heap[b]? = some (.cells l.toArray T))(hr:RepL (λ_=>True) w ds l)(hn:aL ds=n)(hm:n<=9223372036854775807):Rep (λ_=>True) w (.slice ds) [W b n n] :=
  Rep.slice_mk hn.symm (gQ _) hm λ_=>⟨_,rfl,l,λj hj=>⟨by
    have e:(⟨b,0,none⟩:Addr).add j=⟨b,0+j,none⟩:=by unfold Addr.add;split <;> simp_all
    rw[e,Db h<|0+j];simp[hj],trivial⟩,hr⟩
def WJ(v:Value):Option Value->Value->World->Prop:=λ_ u _=>u=v
def Q0(N:Nat)(o:Obj):Option Value->Value->World->Prop:=λ_ u w=>∃b,u=W b N N/\w.heap[b]? = some o
def Lq{w w':World}(h:w.heap[b]? = some o)(hs:Same [] w w'):w'.heap[b]? = some o:=(hs.block b (Pa h) Da).trans h
def N0{v:Value}:∀a u w w',Same [] w w'->WJ v a u w->WJ v a u w':=λ_ _ _ _ _ h=>h
def XR:∀a u w w',Same [] w w'->Q0 N o a u w->Q0 N o a u w':=λ_ _ _ _ hs ⟨b,e,h⟩=>⟨b,e,Lq h hs⟩
def Xy{v:Value}:∀u w w',Same [] w w'->WJ v none u w->WJ v (some (.pointer (some ⟨w.heap.size,0,none⟩))) u w':=λ_ _ _ _ h=>h
def RQ:∀u w w',Same [] w w'->Q0 N o none u w->Q0 N o (some (.pointer (some ⟨w.heap.size,0,none⟩))) u w':=λ_ _ _ hs ⟨b,e,h⟩=>⟨b,e,Lq h hs⟩
def IG(Z:Nat->World->Prop)(w00:World)(sl:List (Nat × Value))(A:Nat × Nat)(l:List Fact)(S:Nat->Bool)(s:Nat->Value)(w:World):Prop :=
  AllEq s sl/\Same [] w00 w/\AllG A S s w l/\(S A.1=true->∃b,s A.2=V b/\Z b w/\w00.heap.size<=b)
def Jv(st:Nat)(J1 J2:(Nat->Bool)->(Nat->Value)->World->Prop)(S:Nat->Bool)(s:Nat->Value)(w:World):Prop:=if S st=true then J2 S s w else J1 S s w
def JM(sl:List (Nat × Value))(A:Nat × Nat)(l:List Fact):Bool:=sl.all λx=>!(A.2::l.map (·.2.1)).contains x.1
structure Ph (Z:Nat->World->Prop) (sl:List (Nat × Value)) (A:Nat × Nat) (l:List Fact):Prop where
  st:StabG l
  sn:StabN l
  di:R_ A l=true
  ap:JM sl A l=true
  z:∀b w w',Same [] w w'->Z b w->Z b w'
theorem AllEq.updS{s:Nat->Value}{d:Nat}{v:Value}:∀{l:List (Nat × Value)},AllEq s l->(∀x∈l,x.1≠d)->AllEq (Ic s d v) l
  | [],_,_=>trivial
  | (e,u)::l,h,hn=>⟨by rw[Z5<|hn (e,u) Da];exact h.1,AllEq.updS h.2 λx hx=>hn x wM⟩
section
variable {P:Program}{R:Exit->Act->World->Prop}{n:Nat}{k:Kt}{ops:List Oper}{Z:Nat->World->Prop}{w00:World}{sl:List (Nat × Value)}{A:Nat × Nat}{l:List Fact}{S:Nat->Bool}{s:Nat->Value}{w w':World}{i d:Nat}{op:Op}{ty:Nat}{pos:String}{aft:Array Edge}{g:Option (Nat × Bool)}{G:Option Value->Value->World->Prop}
theorem IG.put(h:IG Z w00 sl A l S s w)(hp:Ph Z sl A l)(k:Nat)(hk:l[k]? = some (i,d,G))(hs:Same [] w w'){v:Value}(hv:G (Mp A S s) v w'):IG Z w00 sl A l (YJ i S) (Ic s d v) w':=by
  obtain⟨h1,h2,h3,h4⟩:=h;have hm:(i,d,G)∈l:=qK
  have hdi:=hp.di;unfold R_ at hdi;rw[vQ,xQ,xQ,List.nodup_cons,List.nodup_cons]at hdi;have nA1:A.1≠i:=qK
  have nA2:A.2≠d:=qK
  have hap:=hp.ap;unfold JM at hap;refine⟨h1.updS λx hx e=>?_,h2.trans hs,h3.put hp.st hp.di k hk hs hv,λhA=>?_⟩
  ·have := List.all_eq_true.1 hap x hx
   have hc:(A.2::l.map (·.2.1)).contains x.1=true:=List.contains_iff_mem.2<|iZ _<|nQ.2 ⟨_,hm,e.symm⟩;rw[hc]at this;cases this
  rw[Il nA1]at hA;obtain⟨b,e,hz,hb⟩:=h4 hA;exact⟨b,by rw[Z5 nA2];exact e,hp.z _ _ _ hs hz,hb⟩
theorem IG.putA(h:IG Z w00 sl A l S s w)(hp:Ph Z sl A l)(hA:S A.1=false)(hs:Same [] w w')(hz:Z w.heap.size w'):IG Z w00 sl A l (YJ A.1 S) (Ic s A.2 (.pointer (some ⟨w.heap.size,0,none⟩))) w':=by
  obtain⟨h1,h2,h3,h4⟩:=h;have hap:=hp.ap;unfold JM at hap;refine⟨h1.updS λx hx e=>?_,h2.trans hs,h3.putA hp.sn hp.di hA hs,λ_=>⟨_,D7,hz,h2.size⟩⟩;grind
theorem Zk(h:Nat.blt d n=true):ev n s (.tmp d)=s d:=by
  show (bif Nat.blt d n then s d else undef)=s d;grind
def IG.dep(h:IG Z w00 sl A l S s w)(hd:∀d∈Mf ops i,S d=true)(k:Nat){G':Option Value->Value->World->Prop}(hk:l[k]? = some (k',d',G'))(hm:(Mf ops i).contains k'=true):G' (Mp A S s) (s d') w :=
  h.2.2.1 k _ hk (hd k'<|List.contains_iff_mem.1 hm)
def Ot(hp:Ph Z sl A l)(k:Nat)(hk:l[k]? = some (i,d,G))(hi:ops[i]? = some ⟨some d,op,ty,pos,aft,g⟩)
    (h:∀S s w,(∀d∈Mf ops i,S d=true)->IG Z w00 sl A l S s w->∃v w',(execOp (ev n s) ⟨some d,op,ty,pos,aft,g⟩).run P w=.ok (.value v) w'/\Same [] w w'/\G (Mp A S s) v w')
    (hw:∀s,Ka ops n s ⟨some d,op,ty,pos,aft,g⟩=true:=by exact λ_=>rfl):StepA P n ops (IG Z w00 sl A l) i:=λS s w hS hd _ hI=>by
  obtain⟨v,w',hr,hs,hG⟩:=h S s w hd hI;exact UG hi hr (hI.put hp k hk hs hG)<|hw s
def g_call(hp:Ph Z sl A l)(k:Nat)(hk:l[k]? = some (i,d,G))(hi:ops[i]? = some ⟨some d,op,ty,pos,aft,g⟩)
    (h:∀S s w,(∀d∈Mf ops i,S d=true)->IG Z w00 sl A l S s w->∃f args w' Qc,Calls P f args w' (Za Qc)/\(execOp (ev n s) ⟨some d,op,ty,pos,aft,g⟩).run P w=.ok (.enter f args) w'/\∀v w'',Qc v w''->Same [] w w''/\G (Mp A S s) v w'')
    (hw:∀s,Ka ops n s ⟨some d,op,ty,pos,aft,g⟩=true:=by exact λ_=>rfl):StepA P n ops (IG Z w00 sl A l) i:=λS s w hS hd _ hI=>by
  obtain⟨f,args,w',Qc,hc,hr,hq⟩:=h S s w hd hI;exact GV hi hc hr (λv w'' hQ=>hI.put hp k hk (hq v w'' hQ).1 (hq v w'' hQ).2)<|hw s
def g_cp(hp:Ph Z sl A l)(k k':Nat)(hk:l[k]? = some (i,d,G))(hk':l[k']? = some (i',d',G))(hi:ops[i]? = some ⟨some d,.move (.tmp d'),ty,pos,aft,g⟩)(hm:(Mf ops i).contains i'=true)(hn:Nat.blt d' n=true)
    (hw:∀s,Ka ops n s ⟨some d,.move (.tmp d'),ty,pos,aft,g⟩=true:=by exact λ_=>rfl):StepA P n ops (IG Z w00 sl A l) i :=
  Ot hp k hk hi (λS s w hd hI=>⟨s d',w,Zn<|Zk hn,Same.refl _ _,hI.dep hd k' hk' hm⟩) hw
def g_as(hp:Ph Z sl A l)(k k':Nat)(hk:l[k]? = some (i,d,G))(hk':l[k']? = some (i',d',G))(hi:ops[i]? = some ⟨some d,.assign (.tmp d'),ty,pos,aft,g⟩)(hm:(Mf ops i).contains i'=true)(hn:Nat.blt d' n=true)
    (hw:∀s,Ka ops n s ⟨some d,.assign (.tmp d'),ty,pos,aft,g⟩=true:=by exact λ_=>rfl):StepA P n ops (IG Z w00 sl A l) i :=
  Ot hp k hk hi (λS s w hd hI=>⟨s d',w,Un<|Zk hn,Same.refl _ _,hI.dep hd k' hk' hm⟩) hw
def g_mv{v:Value}{e:Nat}(hp:Ph Z sl A l)(k:Nat)(hk:l[k]? = some (i,d,WJ v))(hi:ops[i]? = some ⟨some d,.move (.tmp e),ty,pos,aft,g⟩)(m:Nat)(he:sl[m]? = some (e,v))(hn:Nat.blt e n=true)
    (hw:∀s,Ka ops n s ⟨some d,.move (.tmp e),ty,pos,aft,g⟩=true:=by exact λ_=>rfl):StepA P n ops (IG Z w00 sl A l) i :=
  Ot hp k hk hi (λS s w hd hI=>⟨v,w,Zn ((Zk hn).trans (by
    have:∀{sl:List (Nat × Value)},AllEq s sl->(e,v)∈sl->s e=v:=fun {sl}=>by
      induction sl with
      | nil=>intro _ h;cases h
      | cons x sl ih => intro h hm
                        rcases oQ.1 hm with rfl|hm
                        ·exact h.1
                        exact ih h.2 hm
    exact this hI.1<|List.mem_of_getElem? he)),Same.refl _ _,O⟩) hw
def LT(dl:List (Nat × Value))(hp:Ph Z sl A l)(k:Nat)(hk:l[k]? = some (i,d,Q0 N o))(hi:ops[i]? = some ⟨some d,op,ty,pos,aft,g⟩)
    (hdl:∀S s w,(∀d∈Mf ops i,S d=true)->IG Z w00 sl A l S s w->AllEq s dl) (hr:∀s w,(execOp (ev n (Gh s dl)) ⟨some d,op,ty,pos,aft,g⟩).run P w=.ok (.value (.slice (some ⟨w.heap.size,0,none⟩) N N)) (w.alloc o))
    (hw:∀s,Ka ops n s ⟨some d,op,ty,pos,aft,g⟩=true:=by exact λ_=>rfl):StepA P n ops (IG Z w00 sl A l) i :=
  Ot hp k hk hi (λS s w hd hI=>⟨_,_,by have:=hr s w;rwa [<-(hdl S s w hd hI).eq]at this,(Same.alloc w o).mono Da,w.heap.size,rfl,heap_alloc_new w o⟩) hw
def g_al{t:TypeId}{z:Value}(hp:Ph (λb w=>w.heap[b]? = some o) sl A l)(hi:ops[A.1]? = some ⟨some A.2,.alloc t,ty,pos,aft,g⟩)(hz:∀w,(zeroValue t).run P w=.ok z w)(ho:(.cells z.cells t:Obj)=o)
    (hw:∀s,Ka ops n s ⟨some A.2,.alloc t,ty,pos,aft,g⟩=true:=by exact λ_=>rfl):StepA P n ops (IG (λb w=>w.heap[b]? = some o) w00 sl A l) A.1:=λS s w hS hd _ hI=>by
  subst ho;exact UG hi (Ql hz) (hI.putA hp hS ((Same.alloc w _).mono Da)<|heap_alloc_new w _)<|hw s
variable {st:Nat}{J1 J2:(Nat->Bool)->(Nat->Value)->World->Prop}
def Does.mono{Q Q':(Nat->Value)->World->Prop}(h:Does P n ops i s w Q)(hq:∀s w,Q s w->Q' s w):Does P n ops i s w Q':=λK hk=>h K λs w h=>hk s w<|hq s w h
def StepA.ahead(h:StepA P n ops J1 i)(hm:(Mf ops st).contains i=true:=by kernel_rfl)(hl:decide (i<st/\st<aL ops)=true:=by kernel_rfl):StepA P n ops (Jv st J1 J2) i:=λS s w hS hd hc hI=>by
  have hl:=mZ hl;have hst:S st=false:=by
    cases e:S st with
    | false=>rfl
    | true =>
      rw[hc st hl.2 e i<|List.contains_iff_mem.1 hm]at hS;cases hS
  unfold Jv at hI ⊢;rw[tQ (by rw[hst];decide)]at hI;exact (h S s w hS hd hc hI).mono λs w h=>by rw[tQ (by rw[Il Aa,hst];decide)];exact h
def StepA.behind(h:StepA P n ops J2 i)(hm:(Mf ops i).contains st=true:=by kernel_rfl)(hne:decide (st≠i)=true:=by kernel_rfl):StepA P n ops (Jv st J1 J2) i:=λS s w hS hd hc hI=>by
  have hst:=hd st<|List.contains_iff_mem.1 hm;unfold Jv at hI ⊢;rw[uQ hst]at hI;exact (h S s w hS hd hc hI).mono λs w h=>by rw[uQ (by rw[Il<|mZ hne];exact hst)];exact h
def StepA.both(h1:StepA P n ops J1 i)(h2:StepA P n ops J2 i)(hne:decide (st≠i)=true):StepA P n ops (Jv st J1 J2) i:=λS s w hS hd hc hI=>by
  unfold Jv at hI ⊢;rw[show YJ i S st=S st from Il<|mZ hne];by_cases hst:S st=true
  ·rw[uQ hst]at hI
   exact (h2 S s w hS hd hc hI).mono λs w h=>by rw[uQ hst];exact h
  rw[tQ hst]at hI;exact (h1 S s w hS hd hc hI).mono λs w h=>by rw[tQ hst];exact h
def StepA.at(h:∀S s w,S st=false->(∀d∈Mf ops st,S d=true)->Clo ops S->J1 S s w->Does P n ops st s w (J2 (YJ st S))):StepA P n ops (Jv st J1 J2) st:=λS s w hS hd hc hI=>by
  unfold Jv at hI ⊢;rw[tQ (by rw[hS];decide)]at hI;exact (h S s w hS hd hc hI).mono λs w h=>by rw[uQ (by unfold YJ;simp)];exact h
theorem below{Q:Nat->Prop}(h:∀i,i<m->Q i)(hm:Q m):∀i,i<m+1->Q i:=λi hi=>by
  grind
theorem below0{Q:Nat->Prop}:∀i,i<0->Q i:=qK
end
attribute [irreducible] StepA Does
set_option synthInstance.maxHeartbeats 0
set_option synthInstance.maxSize 9999
open Go.RowKit Go.Proofs Go.Proofs.Tryz
abbrev ZS(i:UInt8):Tv:=⟨3,[i],none,0,0,none,0,0⟩
abbrev FJ(b:Nat):Cv:=⟨some ⟨b,0,none⟩,1,1,3,⟨true,ZS 49⟩,⟨true,ZS 50⟩,⟨false,Z8⟩⟩
abbrev holeV:List Value:=[J 7,I [48],aQ,aQ]
def UC(i:UInt8){S:Nat->Prop}{w:World}:Rep S w (Na (nuS i)) (ZS i).cells:=Rep.tree_mk ⟨Ja,Ja⟩ Da (Rep.nil_slice 0 Aa none) (Rep.nil_slice 0 Aa none)
def s9_rep{S:Nat->Prop}{w:World}:Rep S w (Ad s9) (Sv.cells ⟨true,ZS 57⟩):=B3 (s:=s9) (UC 57)
def Dt{w:World}:RepL (λ_=>True) w ([([97]:Str)].map Uj) [I [97]]:=RepL.cons_mk (c1:=[I [97]]) (c2:=[]) (Rep.lit_mk (v:=I [97]) (show aL ([97]:Str)<=9223372036854775807 by decide)) RepL.nil_mk
def RF{w:World}:RepL (λ_=>True) w (Hc [HJ 0]) holeV:=by
  have e:HJ 0=.node 7 [48] [] []:=by kernel_rfl
  rw[e];exact RepL.cons_mk (c1:=holeV) (c2:=[]) (Rep.tree_mk ⟨Ja,Ja⟩ Da (Rep.nil_slice 0 Aa none)<|Rep.nil_slice 0 Aa none) RepL.nil_mk
def YH{w:World}:RepL (λ_=>True) w (Hc [nuS 57]) (ZS 57).cells:=RepL.cons_mk (c2:=[]) (UC 57) RepL.nil_mk
def OQ{w:World}(h:w.heap[b]? = some (.cells #[I [97]] T)):CvOf (λ_=>True) w cS (FJ b) :=
  ⟨rfl,rfl,KE (n:=1) (l:=[I [97]]) h Dt rfl Aa,B3 (s:=⟨true,nuS 49⟩)<|UC 49,B3 (s:=⟨true,nuS 50⟩)<|UC 50,Ul⟩
def CvOf.rep{S:Nat->Prop}{w:World}{c:Cf}{q:Cv}(h:CvOf S w c q)(hk:-1000<=c.cls/\c.cls<=1000):Rep S w (ZJ c) q.cells:=by
  obtain⟨A,n,c',k,x,y,z⟩:=q;obtain⟨h1,h2,h3,h4,h5,h6⟩:=h;obtain rfl:=h2;unfold ZJ;refine Rep.agg_mk<|RepL.cons_mk (c1:=[.slice A n c']) h3<|RepL.cons_mk (c1:=[J c.cls]) (Rep.lit_mk<|okI (z:=c.cls) Aa Aa)<|RepL.cons_mk h4<|RepL.cons_mk h5<|RepL.cons_mk (c2:=[]) h6 RepL.nil_mk
def OS{w:World}{T:Nat}(h:w.heap[b]? = some (.cells #[I [97]] T))(hc:w.heap[bc]? = some (.cells (FJ b).cells.toArray 40)):Rep (λ_=>True) w (.slice ([cS].map ZJ)) [W bc 1 1] :=
  KE (n:=1) hc (RepL.cons_mk (c2:=[]) ((OQ h).rep Ja) RepL.nil_mk) rfl Aa
def SetQ(w0:World)(t:Tree)(ds:List D)(e:Int)(v:Value)(w':World):Prop:=∃(q:Tv)(A:Option Addr)(c:Nat),v=.tuple #[.agg q.cells.toArray,.slice A (aL ds) c,J e]/\Rep (Btw w0 w') w' (Na t) q.cells/\Rep (Btw w0 w') w' (.slice ds) [.slice A (aL ds) c]/\Same [] w0 w'
def RU{T:Nat}(x:Tv)(hx:Rep (λ_=>True) w0 (Na hmT) x.cells)(h:w0.heap[b]? = some (.cells #[I [97]] T))(hc:w0.heap[bc]? = some (.cells (FJ b).cells.toArray 40))(hG:Gl w0) :
    Calls prog 31 #[.agg x.cells.toArray,W bc 1 1,aQ,J 1] w0 (Za λv w'=>SetQ w0 zeroT ([(0:Int)].map Lg) 10 v w') :=
  (ZG hmT x cS _ 1 [] none 0 (λ_=>True) (λ_=>True) (λ_=>True) w0 hx (OS h hc) (Rep.nil_slice 0 Aa none) Da Ja Kq Cz (by rw[show Gj (Ei [] cS).1=noS from by kernel_rfl];exact XT) SA Wy.1 Wy.2 TD EH hG).mono λe w'' ⟨v,he,hv⟩=>⟨v,he,by
    rcases hv with ⟨-,A,c,rfl,hr,hs⟩|⟨hf,-⟩
    ·exact⟨Z8,A,c,O,Sk _ _,hr,hs⟩
    rw[AF]at hf;cases hf⟩
def EW{T:Nat}(x:Tv)(A:Option Addr)(c:Nat)(hx:Rep (λ_=>True) w0 (Na hmT) x.cells)(h:w0.heap[b]? = some (.cells #[I [97]] T))(hc:w0.heap[bc]? = some (.cells (FJ b).cells.toArray 40))(hT:Rep (λ_=>True) w0 (Jd tS) [.slice A 1 c])(hG:Gl w0) :
    Calls prog 31 #[.agg x.cells.toArray,W bc 1 1,.slice A 1 c,J 1] w0 (Za λv w'=>SetQ w0 BK [] 0 v w') :=
  (ZG hmT x cS _ 1 tS A c (λ_=>True) (λ_=>True) (λ_=>True) w0 hx (OS h hc) hT G1 Ja Kq Cz (by rw[Mz];exact YT) SA Wy.1 Wy.2 JH EH hG).mono λe w'' ⟨v,he,hv⟩=>⟨v,he,by
    rcases hv with ⟨hf,-⟩|⟨-,q,rfl,hr,hs⟩
    ·rw[Y8]at hf;cases hf
    rw[Mz]at hr ⊢;rw[show D1 cS.cls s9=D1 3 s9 from rfl,KT]at hr ⊢;exact⟨q,none,0,O,hr,Rep.nil_slice 0 Aa none,hs⟩⟩
def idA:Option Value->List Nat
  | some (.pointer (some a))=>[a.block]
  | _=>[]
def YG(t:Tree):Option Value->Value->World->Prop:=λ_ u w=>∃x:Tv,u=.agg x.cells.toArray/\Rep (λ_=>True) w (Na t) x.cells
def DS(u0:World)(t:Tree)(ds:List D)(e:Int):Option Value->Value->World->Prop:=λa u w=>∃(q:Tv)(A:Option Addr)(c:Nat),u=.tuple #[.agg q.cells.toArray,.slice A (aL ds) c,J e]/\RX (wE u0) (idA a) w [Na t] q.cells/\RX (wE u0) (idA a) w [.slice ds] [.slice A (aL ds) c]
def mvF(u0:World)(t:Tree):Option Value->Value->World->Prop:=λa u w=>∃q:Tv,u=.agg q.cells.toArray/\RX (wE u0) (idA a) w [Na t] q.cells
def slF(u0:World)(ds:List D):Option Value->Value->World->Prop:=λa u w=>∃(A:Option Addr)(c:Nat),u=.slice A (aL ds) c/\RX (wE u0) (idA a) w [.slice ds] [.slice A (aL ds) c]
def isSl(ds:List D)(u:Value)(w:World):Prop:=∃A m c,u=.slice A m c/\Rep (λ_=>True) w (.slice ds) [.slice A m c]
abbrev pV(b:Nat):Value:=V b
section
variable {u0:World}{t:Tree}{ds:List D}{e:Int}
def YR:∀a u w w',Same [] w w'->YG t a u w->YG t a u w':=λ_ _ _ _ hs ⟨x,e,h⟩=>⟨x,e,h.ext hs⟩
def qQz:∀u w w',Same [] w w'->YG t none u w->YG t (some (pV w.heap.size)) u w':=λ_ _ _ hs ⟨x,e,h⟩=>⟨x,e,h.ext hs⟩
def ZC:∀a u w w',Same [] w w'->DS u0 t ds e a u w->DS u0 t ds e a u w':=λ_ _ _ _ hs ⟨q,A,c,e,h,h'⟩=>⟨q,A,c,e,h.ext hs,h'.ext hs⟩
def OD:∀u w w',Same [] w w'->DS u0 t ds e none u w->DS u0 t ds e (some (pV w.heap.size)) u w':=λ_ _ _ hs ⟨q,A,c,e,h,h'⟩=>⟨q,A,c,e,h.alloc hs rfl,h'.alloc hs rfl⟩
def XW:∀a u w w',Same [] w w'->mvF u0 t a u w->mvF u0 t a u w':=λ_ _ _ _ hs ⟨q,e,h⟩=>⟨q,e,h.ext hs⟩
def XZ:∀u w w',Same [] w w'->mvF u0 t none u w->mvF u0 t (some (pV w.heap.size)) u w':=λ_ _ _ hs ⟨q,e,h⟩=>⟨q,e,h.alloc hs rfl⟩
def M0:∀a u w w',Same [] w w'->slF u0 ds a u w->slF u0 ds a u w':=λ_ _ _ _ hs ⟨A,c,e,h⟩=>⟨A,c,e,h.ext hs⟩
def Bz:∀u w w',Same [] w w'->slF u0 ds none u w->slF u0 ds (some (pV w.heap.size)) u w':=λ_ _ _ hs ⟨A,c,e,h⟩=>⟨A,c,e,h.alloc hs rfl⟩
end
section
variable {n:Nat}{ops:List Oper}{Z:Nat->World->Prop}{w00 u0:World}{sl:List (Nat × Value)}{H:Nat × Nat}{l:List Fact}{i d:Nat}{ty:Nat}{pos:String}{aft:Array Edge}{g:Option (Nat × Bool)}{ats:Array TypeId}{S:Nat->Bool}{s:Nat->Value}{w:World}{t:Tree}{ds:List D}{e:Int}
def RE{lv:List Value}(hI:IG Z w00 sl H l S s w)(hd:∀d∈Mf ops i,S d=true)(k:Nat)(hk:l[k]? = some (k',d',Q0 N (.cells lv.toArray T)))(hm:(Mf ops i).contains k'=true)(hn:Nat.blt d' n=true)(hr:RepL (λ_=>True) w ds lv)(hN:aL ds=N)(hb:decide (N<=9)=true):isSl ds (ev n s (.tmp d')) w:=by
  rw[Zk hn];obtain⟨b,e,hb'⟩:=hI.dep hd k hk hm;exact⟨_,_,_,e,KE hb' hr hN (by have:=mZ hb;omega)⟩
def st_map{ks:List Str}{xs:List Tree}{x y:Operand}(hp:Ph Z sl H l)(k:Nat)(hk:l[k]? = some (i,d,YG (.node 6 [] ks xs)))(hi:ops[i]? = some ⟨some d,.call ⟨.value (.func 32),#[x,y],ats⟩,ty,pos,aft,g⟩)
    (h:∀S s w,(∀d∈Mf ops i,S d=true)->IG Z w00 sl H l S s w->isSl (ks.map Uj) (ev n s x) w/\isSl (Hc xs) (ev n s y) w) (hw:∀s,Ka ops n s ⟨some d,.call ⟨.value (.func 32),#[x,y],ats⟩,ty,pos,aft,g⟩=true:=by exact λ_=>rfl):StepA prog n ops (IG Z w00 sl H l) i :=
  g_call hp k hk hi (λS s w hd hI=>by
    obtain⟨⟨A,m,c,e1,h1⟩,B,m',c',e2,h2⟩:=h S s w hd hI;refine⟨32,_,_,_,map_c A m c B m' c' w,Zd en_32 O e1 e2,?_⟩;rintro v w'' ⟨rfl,hs⟩;exact⟨hs,⟨6,[],A,m,c,B,m',c'⟩,O,Rep.tree_mk ⟨Ja,Ja⟩ Da (h1.ext hs)<|h2.ext hs⟩) hw
def st_se{zop:Operand}{zv:Value}{b1 x y ix iy:Nat}(hp:Ph Z sl H l)(k kx ky:Nat)(hk:l[k]? = some (i,d,DS u0 t ds e))(hx:l[kx]? = some (ix,x,YG hmT))(hy:l[ky]? = some (iy,y,Q0 1 (.cells (FJ b1).cells.toArray 40)))
    (hi:ops[i]? = some ⟨some d,.call ⟨.value (.func 31),#[.tmp x,.tmp y,zop,.const (J 1)],ats⟩,ty,pos,aft,g⟩) (mx:(Mf ops i).contains ix=true) (my:(Mf ops i).contains iy=true) (nx:Nat.blt x n=true) (ny:Nat.blt y n=true)
    (hz:∀S s w,(∀d∈Mf ops i,S d=true)->IG Z w00 sl H l S s w->ev n s zop=zv)
    (hc:∀(x:Tv)(bc:Nat)(w:World),Same [] w00 w->Rep (λ_=>True) w (Na hmT) x.cells->w.heap[bc]? = some (.cells (FJ b1).cells.toArray 40)->Calls prog 31 #[.agg x.cells.toArray,W bc 1 1,zv,J 1] w (Za λv w'=>SetQ w t ds e v w'))
    (hZ:∀b w,Z b w->b<w.heap.size) (hw:∀s,Ka ops n s ⟨some d,.call ⟨.value (.func 31),#[.tmp x,.tmp y,zop,.const (J 1)],ats⟩,ty,pos,aft,g⟩=true:=by exact λ_=>rfl):StepA prog n ops (IG Z w00 sl H l) i :=
  g_call hp k hk hi (λS s w hd hI=>by
    obtain⟨q1,e1,h1⟩:=hI.dep hd kx hx mx;obtain⟨bc,e2,h2⟩:=hI.dep hd ky hy my;refine⟨31,_,_,_,hc q1 bc w hI.2.1 h1 h2,XD en_31 O ((Zk nx).trans e1) ((Zk ny).trans e2) (hz S s w hd hI) O,?_⟩;rintro v w' ⟨q,A',c,rfl,r1,r2,hs⟩;have hid:∀b∈idA (Mp H S s),b<w.heap.size:=λb hb=>by
      unfold Mp at hb;by_cases hA:S H.1=true
      ·rw[uQ hA]at hb
       obtain⟨b',e,hz,hge⟩:=hI.2.2.2 hA;rw[e]at hb;obtain rfl:b=b':=by simpa[idA]using hb
       exact hZ _ _ hz
      rw[tQ hA]at hb;cases hb
    exact⟨hs,q,A',c,O,RX.made (dZ _) hid r1,RX.made (dZ _) hid r2⟩) hw
def st_x0(hp:Ph Z sl H l)(k k':Nat)(hk:l[k]? = some (i,d,mvF u0 t))(hk':l[k']? = some (i',d',DS u0 t ds e))(hi:ops[i]? = some ⟨some d,.extract (.tmp d') 0,ty,pos,aft,g⟩)(hm:(Mf ops i).contains i'=true)(hn:Nat.blt d' n=true)
    (hw:∀s,Ka ops n s ⟨some d,.extract (.tmp d') 0,ty,pos,aft,g⟩=true:=by exact λ_=>rfl):StepA prog n ops (IG Z w00 sl H l) i :=
  Ot hp k hk hi (λS s w hd hI=>by
    obtain⟨q,A,c,e,h1,h2⟩:=hI.dep hd k' hk' hm;exact⟨_,w,Gn ((Zk hn).trans e) O,Same.refl _ _,q,O,h1⟩) hw
def ES(hp:Ph Z sl H l)(k k':Nat)(hk:l[k]? = some (i,d,slF u0 ds))(hk':l[k']? = some (i',d',DS u0 t ds e))(hi:ops[i]? = some ⟨some d,.extract (.tmp d') 1,ty,pos,aft,g⟩)(hm:(Mf ops i).contains i'=true)(hn:Nat.blt d' n=true)
    (hw:∀s,Ka ops n s ⟨some d,.extract (.tmp d') 1,ty,pos,aft,g⟩=true:=by exact λ_=>rfl):StepA prog n ops (IG Z w00 sl H l) i :=
  Ot hp k hk hi (λS s w hd hI=>by
    obtain⟨q,A,c,e,h1,h2⟩:=hI.dep hd k' hk' hm;exact⟨_,w,Gn ((Zk hn).trans e) O,Same.refl _ _,A,c,O,h2⟩) hw
def HR(hp:Ph Z sl H l)(k k':Nat)(hk:l[k]? = some (i,d,WJ (J e)))(hk':l[k']? = some (i',d',DS u0 t ds e))(hi:ops[i]? = some ⟨some d,.extract (.tmp d') 2,ty,pos,aft,g⟩)(hm:(Mf ops i).contains i'=true)(hn:Nat.blt d' n=true)
    (hw:∀s,Ka ops n s ⟨some d,.extract (.tmp d') 2,ty,pos,aft,g⟩=true:=by exact λ_=>rfl):StepA prog n ops (IG Z w00 sl H l) i :=
  Ot hp k hk hi (λS s w hd hI=>by
    obtain⟨q,A,c,e,h1,h2⟩:=hI.dep hd k' hk' hm;exact⟨_,w,Gn ((Zk hn).trans e) O,Same.refl _ _,O⟩) hw
def Z1(b:Nat)(w:World):Prop:=w.heap[b]? = some (.cells #[J 0,I [],aQ,aQ] 36)
def Z2(u0:World)(t:Tree)(b:Nat)(w:World):Prop:=∃q:Tv,w.heap[b]? = some (.cells q.cells.toArray 36)/\RX (wE u0) [b] w [Na t] q.cells
def Z1_st:∀b w w',Same [] w w'->Z1 b w->Z1 b w':=λ_ _ _ hs h=>Lq h hs
def Z2_st:∀b w w',Same [] w w'->Z2 u0 t b w->Z2 u0 t b w':=λ_ _ _ hs ⟨q,h,h'⟩=>⟨q,Lq h hs,h'.ext hs⟩
def l2(u0:World)(t:Tree)(ds:List D)(er:Int)(p:Nat × Nat)(e:Nat)(q:Nat × Nat)(e':Nat)(r:Nat × Nat):List Fact :=
  [(p.1,p.2,DS u0 t ds er),(p.1+2,q.1,slF u0 ds),(p.1+3,q.2,WJ (J er)),(e,r.1,slF u0 ds),(e',r.2,WJ (J er))]
def AllG.nil{S:Nat->Bool}{s:Nat->Value}{w:World}:AllG H S s w []:=λk f h=>by simp at h
def AllG.cons{S:Nat->Bool}{s:Nat->Value}{w:World}{f:Fact}(h:S f.1=true->f.2.2 (Mp H S s) (s f.2.1) w)(hl:AllG H S s w l):AllG H S s w (f::l):=λk g hg=>by
  cases k with
  | zero => obtain rfl : f = g := by simpa using hg
            exact h
  | succ k=>exact hl k g (aS hg)
def st_st{er:Int}{p q r:Nat × Nat}{st dv:Nat}(k31 k32 k33 k34:Nat)(h31:l[k31]? = some (p.1,p.2,DS u0 t ds er))(h32:l[k32]? = some (p.1+1,dv,mvF u0 t))(h33:l[k33]? = some (p.1+2,q.1,slF u0 ds))(h34:l[k34]? = some (p.1+3,q.2,WJ (J er)))
    (hi:ops[st]? = some ⟨none,.store 36 (.tmp H.2) (.tmp dv),ty,pos,aft,g⟩) (hA:Nat.blt H.2 n=true) (hv:Nat.blt dv n=true) (mA:(Mf ops st).contains H.1=true:=by kernel_rfl) (mv:(Mf ops st).contains (p.1+1)=true:=by kernel_rfl)
    (m37:(Mf ops (st+1)).contains st=true:=by kernel_rfl) (m38:(Mf ops (st+2)).contains (st+1)=true:=by kernel_rfl) (hsz:decide (st+2<aL ops/\p.1+3<st/\H.1<st)=true:=by kernel_rfl)
    (hw:∀s,Ka ops n s ⟨none,.store 36 (.tmp H.2) (.tmp dv),ty,pos,aft,g⟩=true:=by exact λ_=>rfl) :
    StepA prog n ops (Jv st (IG Z1 w00 sl H l) (IG (Z2 u0 t) w00 sl H (l2 u0 t ds er p (st+1) q (st+2) r))) st:=.at λS s w hS hd hc hI=>by
  have hsz:=mZ hsz;have hJ:=hI;obtain⟨h1,h2,h3,h4⟩:=hJ;have sA:S H.1=true:=hd _<|List.contains_iff_mem.1 mA;obtain⟨b,eb,hz,hb⟩:=h4 sA;obtain⟨x,ex,hx⟩:=hI.dep hd k32 h32 mv;have ea:Mp H S s=some (pV b):=by unfold Mp;rw[sA,uQ rfl,eb]
  rw[ea]at hx;have hF:FR w00 [] [(b,.cells (List.toArray [J 0,I [],aQ,aQ]) 36)] w:=⟨h2,λq hq=>by rw[pQ.1 hq];exact⟨hz,.inl hb⟩,Da⟩;have s37:S (st+1)=false:=by
    cases e:S (st+1)with
    | false=>rfl
    | true=>rw[hc _ Aa e st<|List.contains_iff_mem.1 m37]at hS;cases hS
  have s38:S (st+2)=false:=by
    cases e:S (st+2)with
    | false=>rfl
    | true=>rw[hc _ Aa e (st+1)<|List.contains_iff_mem.1 m38]at s37;cases s37
  refine does_dg (λ_ _ _=>True) .done<|FZ hi hF uZ ((Zk hA).trans eb) ((Zk hv).trans ex) sI0 (λw' hF' hs=>⟨trivial,d_nil<|Ha ?_⟩) O O O<|hw s;have eI:Mp H (YJ st S) s=some (pV b):=by rw[<-ea];unfold Mp;rw[Il Aa]
  refine⟨h1,hF'.same,?_,λ_=>⟨b,eb,⟨x,hF'.heap (i:=0) O,hx.store hs (by simp[idA])⟩,hb⟩⟩;refine .cons (λh=>?_)<|.cons (λh=>?_)<|.cons (λh=>?_)<|.cons (λh=>?_)<|.cons (λh=>?_) .nil
  ·rw[Il (by show p.1 ≠ st;omega)]at h
   have:=h3 k31 _ h31 h;rw[ea]at this;obtain⟨q,A,c,e,g1,g2⟩:=this;rw[eI];exact⟨q,A,c,e,g1.store hs (by simp[idA]),g2.store hs (by simp[idA])⟩
  ·rw[Il (by show p.1 + 2 ≠ st;omega)]at h
   have:=h3 k33 _ h33 h;rw[ea]at this;obtain⟨A,c,e,g1⟩:=this;rw[eI];exact⟨A,c,e,g1.store hs (by simp[idA])⟩
  ·rw[Il (by show p.1 + 3 ≠ st;omega)]at h
   exact h3 k34 _ h34 h
  ·rw[Il (by show st + 1 ≠ st;omega)]at h
   rw[s37]at h;cases h
  rw[Il (by show st + 2 ≠ st;omega)]at h;rw[s38]at h;cases h
theorem N_{Z1 Z2:Nat->World->Prop}{l1 l2:List Fact}{st:Nat}(hs:AllEq s sl)(h:(decide (st<N)&&decide (H.1<N)&&l1.all λf=>decide (f.1<N))=true):Jv st (IG Z1 w sl H l1) (IG Z2 w sl H l2) (λi=>!decide (i<N)) s w:=by
  rw[vQ,vQ,xQ,xQ]at h;unfold Jv;rw[tQ (by simp[h.1.1])];refine⟨hs,Same.refl _ _,λk f hf hS=>?_,λhA=>?_⟩
  ·grind
  grind
theorem SR{J1 J2:(Nat->Bool)->(Nat->Value)->World->Prop}{st:Nat}(h:Jv st J1 J2 (λ_=>true) s w):J2 (λ_=>true) s w:=by grind [Jv]
end
def LZ{y:Tv}(h:x.cells=y.cells):y=x:=by
  obtain⟨k,t,A,n,c,B,m,e⟩:=x;obtain⟨k',t',A',n',c',B',m',e'⟩:=y;simp only[Tv.cells,List.cons.injEq,Value.int.injEq,Value.string.injEq,Value.slice.injEq,true_and,and_true]at h;obtain⟨rfl,h2,⟨rfl,rfl,rfl⟩,rfl,rfl,rfl⟩:=h;have:t=t':=by
    have:=yQ (λb:ByteArray=>b.data.toList) h2;simpa using this
  rw[this]
def tv_kt{S:Nat->Prop}{w:World}{t:Tree}(h:Rep S w (Na t) x.cells):x.k=t.kind/\x.t=t.text:=by
  obtain⟨y,hy,h1,h2,-⟩:=Pe h;obtain rfl:=LZ hy;exact⟨h1,h2⟩
def one0_rep{S:Nat->Prop}{w:World}:RepL S w ([(0:Int)].map Lg) [J 0]:=RepL.cons_mk (c1:=[J 0]) (c2:=[]) (Vl Ja Ja) RepL.nil_mk
def sl7(b1:Nat)(b2:Nat)(b6:Nat)(A4:Option Addr)(c4:Nat)(A10:Option Addr)(c10:Nat):List (Nat × Value):=[(1,pV b2),(2,I pS),(3,.bool true),(4,.slice A4 1 c4),(5,J 0),(6,pV b6),(7,.bool true),(8,I qQq),(9,J 0),(10,.slice A10 1 c10),(11,.bool true)]
def l7(u0:World)(b1:Nat)(A4:Option Addr)(c4:Nat):List Fact:=[(0,53,Q0 1 (.cells ([I [97]]:List Value).toArray 9)),(1,54,WJ (.agg holeV.toArray)),(2,55,Q0 1 (.cells holeV.toArray 36)),(3,56,YG hmT),(4,57,WJ (.agg (FJ b1).cells.toArray)),(5,58,Q0 1 (.cells (FJ b1).cells.toArray 40)),(6,59,DS u0 zeroT ([(0:Int)].map Lg) (10)),(7,52,DS u0 zeroT ([(0:Int)].map Lg) (10)),(8,60,mvF u0 zeroT),(9,61,slF u0 ([(0:Int)].map Lg)),(10,62,WJ (J 10))]
def ph7{u0:World}{b1:Nat}{b2:Nat}{b6:Nat}{A4:Option Addr}{c4:Nat}{A10:Option Addr}{c10:Nat}:Ph Z1 (sl7 b1 b2 b6 A4 c4 A10 c10) (11,12) (l7 u0 b1 A4 c4):=⟨by unfold l7;repeat (first|exact StabG.nil|refine StabG.cons ?_ ?_|exact N0|exact XR|exact YR|exact ZC|exact XW|exact M0),by unfold l7;repeat (first|exact StabN.nil|refine StabN.cons ?_ ?_|exact Xy|exact RQ|exact qQz|exact OD|exact XZ|exact Bz),Ua,Ua,Z1_st⟩
def ph7b{u0:World}{b1:Nat}{b2:Nat}{b6:Nat}{A4:Option Addr}{c4:Nat}{A10:Option Addr}{c10:Nat}:Ph (Z2 u0 zeroT) (sl7 b1 b2 b6 A4 c4 A10 c10) (11,12) (l2 u0 zeroT ([(0:Int)].map Lg) (10) (7,52) 13 (61,62) 14 (13,14)):=⟨.cons ZC<|.cons M0<|.cons N0<|.cons M0<|.cons N0 .nil,.cons OD<|.cons Bz<|.cons Xy<|.cons Bz<|.cons Xy .nil,Ua,Ua,Z2_st⟩
def sl8(b1:Nat)(b2:Nat)(b6:Nat)(A4:Option Addr)(c4:Nat)(A10:Option Addr)(c10:Nat)(bt7:Nat)(A7:Option Addr)(c7:Nat):List (Nat × Value):=[(1,pV b2),(2,I pS),(3,.bool true),(4,.slice A4 1 c4),(5,J 0),(6,pV b6),(7,.bool true),(8,I qQq),(9,J 0),(10,.slice A10 1 c10),(11,.bool true),(12,pV bt7),(13,.slice A7 1 c7),(14,J 10)]
def l8(u0:World)(b1:Nat)(A4:Option Addr)(c4:Nat):List Fact:=[(0,64,Q0 1 (.cells ([I [97]]:List Value).toArray 9)),(1,65,WJ (.agg holeV.toArray)),(2,66,Q0 1 (.cells holeV.toArray 36)),(3,67,YG hmT),(4,68,WJ (.agg (FJ b1).cells.toArray)),(5,69,Q0 1 (.cells (FJ b1).cells.toArray 40)),(6,70,WJ (.slice A4 1 c4)),(7,71,DS u0 BK [] (0)),(8,63,DS u0 BK [] (0)),(9,72,mvF u0 BK),(10,73,slF u0 []),(11,74,WJ (J 0))]
def ph8{u0:World}{b1:Nat}{b2:Nat}{b6:Nat}{A4:Option Addr}{c4:Nat}{A10:Option Addr}{c10:Nat}{bt7:Nat}{A7:Option Addr}{c7:Nat}:Ph Z1 (sl8 b1 b2 b6 A4 c4 A10 c10 bt7 A7 c7) (12,15) (l8 u0 b1 A4 c4):=⟨by unfold l8;repeat (first|exact StabG.nil|refine StabG.cons ?_ ?_|exact N0|exact XR|exact YR|exact ZC|exact XW|exact M0),by unfold l8;repeat (first|exact StabN.nil|refine StabN.cons ?_ ?_|exact Xy|exact RQ|exact qQz|exact OD|exact XZ|exact Bz),Ua,Ua,Z1_st⟩
def ph8b{u0:World}{b1:Nat}{b2:Nat}{b6:Nat}{A4:Option Addr}{c4:Nat}{A10:Option Addr}{c10:Nat}{bt7:Nat}{A7:Option Addr}{c7:Nat}:Ph (Z2 u0 BK) (sl8 b1 b2 b6 A4 c4 A10 c10 bt7 A7 c7) (12,15) (l2 u0 BK [] (0) (8,63) 14 (73,74) 15 (16,17)):=⟨.cons ZC<|.cons M0<|.cons N0<|.cons M0<|.cons N0 .nil,.cons OD<|.cons Bz<|.cons Xy<|.cons Bz<|.cons Xy .nil,Ua,Ua,Z2_st⟩
def UT(w0:World)(hG:Gl w0):Calls prog 6 #[] w0 (Za λv w'=>v=.bool true/\Same [] w0 w'):=by
 refine Ea func6 ntmps6 ?_;intro hF;refine rn 8 ?_;rintro b1 w hb1 hF -;refine Ia (Qk (v':=.agg (ZS 49).cells.toArray) (JI 1 Aa Aa<|hG.ext hF.same) Ua) ?_;rintro w hF -;refine Ia (EL (ZS 49) _) ?_;rintro w hF -;refine Ia (Qk (v':=.agg (ZS 50).cells.toArray) (JI 2 Aa Aa<|hG.ext hF.same) Ua) ?_;rintro w hF -;refine Ia (EL (ZS 50) _) ?_;rintro w hF -;refine Ba (w':=w) (v:=.agg #[W b1 1 1,J 3,.bool true,J 3,I [49],aQ,aQ,.bool true,J 3,I [50],aQ,aQ,.bool false,J 0,I [],aQ,aQ]) Ua<|rn 1 ?_;rintro b2 w hb2 hF -;refine rn 5<|Ia (Qk (v':=.tuple #[I pS,.bool true]) (JE cS (FJ b1) _ _ (OQ<|hF.heap (i:=1) O) Kq<|hG.ext hF.same) (by rw[RI])) ?_;rintro w hF -;refine rn 8<|Rb (zs:=.of []) (.free 0<|cQ [1,2,3]<|bQ [4,5,6,7,8] .nil) hF ?_;intro w hF;refine rn 1<|Rc (Qk (v':=.agg (ZS 57).cells.toArray) (JI 9 Aa Aa<|hG.ext hF.same) Ua) ?_;rintro w hF -;refine Rc (EL (ZS 57) _) ?_;rintro w hF -;refine Lk (record_c [] none 0 cS (FJ b1) s9 ⟨true,ZS 57⟩ (λ_=>True) (λ_=>True) (λ_=>True) _ (Rep.nil_slice 0 Aa none) Da Ja (OQ<|hF.heap (i:=1) O) Kq s9_rep FI (hG.ext hF.same) (by rw[RI];decide)) ?_;rintro _ w ⟨A4,c4,rfl,hRt,hE⟩;rw[JT]at hRt ⊢;have hT:=RX.made (ids:=[b2,b1]) hF.same.size (λx hx=>hF.lt_ids (aS hx)) hRt;have hF:=hF.ext hE;clear hE hRt;refine⟨hF,?_⟩;refine rn 11<|Fc (find_c tS A4 c4 cS (FJ b1) _ (λ_=>True) _ hT.rep G1 Ja (OQ<|hF.heap (i:=1) O) Kq<|hG.ext hF.same) ?_;rintro _ w ⟨y,rfl,hRt,hE⟩;rw[Mz]at hRt;rw[Y8];have hyt:=tv_kt (Lc hRt).2.2.2.2;have hyh:=(Lc hRt).1;clear hRt;obtain⟨yh,yk,yt,yA,yn,yc,yB,ym,ye⟩:=y;obtain⟨-,hyt⟩:=hyt;obtain rfl:yh=true:=hyh;obtain rfl:yt=[57]:=hyt;have hT:=hT.ext hE;have hF:=hF.ext hE;refine rn 4 ?_;intro b3 w hb3 hF hE;have hT:=hT.alloc hE hb3;refine rn 6<|Ia (Qk (v':=.tuple #[I qQq,J 0]) (HK tS A4 c4 _ _ hT.rep FO<|hG.ext hF.same) (by rw[UL])) ?_
 intro w hF hE;have hT:=hT.ext hE;refine rn 10<|Fc (DU qQq small_al _<|hG.ext hF.same) ?_;rintro _ w ⟨A10,c10,rfl,hU,hE⟩;rw[DN]at hU ⊢;have hT:=(hT.ext hE).rep.anyS;have hF:=hF.ext hE;refine rn 8<|Eb (λσ w=>∃(q7:Tv),∃(A7:Option Addr),∃(c7:Nat),∃(bt7:Nat),(Rep (λ_=>True) w (Jd tS) [.slice A4 1 c4])/\(Rep (λ_=>True) w (Jd tS) [.slice A10 1 c10])/\(Rep (λ_=>True) w (Na zeroT) q7.cells)/\(Rep (λ_=>True) w (.slice<|[(0:Int)].map Lg) [.slice A7 1 c7])/\AllEq σ [(1,V b2),(2,I pS),(3,.bool true),(4,.slice A4 1 c4),(5,J 0),(6,V b3),(7,.bool true),(8,I qQq),(9,J 0),(10,.slice A10 1 c10),(11,.bool true),(12,V bt7),(13,.slice A7 1 c7),(14,J 10)]/\FR w0 [] [(bt7,.cells (q7.cells).toArray 36),(b3,.cells #[.bool true,J yk,I [57],.slice yA yn yc,.slice yB ym ye] 38),(b2,.cells #[W b1 1 1,J 3,.bool true,J 3,I [49],aQ,aQ,.bool true,J 3,I [50],aQ,aQ,.bool false,J 0,I [],aQ,aQ] 40),(b1,.cells #[I [97]] 9)] w) ?_ ?_
 ·
  have hF:=hF.drew;have hT:=hT.ext<|Same.drew w;have hU:=hU.ext<|Same.drew w;have hG0:=hG;have hG:=hG0.ext hF.same;have hb1:=hF.heap (i:=2) rfl;have hp:=@ph7 w0 b1 b2 b3 A4 c4 A10 c10;have hq:=@ph7b w0 b1 b2 b3 A4 c4 A10 c10;refine c_all 15 (Inv:=Jv 12 (IG Z1 w.drew (sl7 b1 b2 b3 A4 c4 A10 c10) (11,12)<|l7 w0 b1 A4 c4)<|IG (Z2 w0 zeroT) w.drew (sl7 b1 b2 b3 A4 c4 A10 c10) (11,12)<|l2 w0 zeroT ([(0:Int)].map Lg) (10) (7,52) 13 (61,62) 14 (13,14)) Ua Ua ?_ ?_ ?_
  ·exact N_ ⟨O,O,O,O,O,O,O,O,O,O,O,trivial⟩ O
  ·exact (below (below (below (below (below (below (below (below (below (below (below (below (below (below (below below0
     (.ahead<|LT [] hp 0 rfl rfl (λS s w hd hI=>trivial) λs w=>Md fX sizeOf9 zeroValue9 Ja Ja Ua))
     (.ahead<|Ot hp 1 rfl rfl λS s w hd hI=>⟨_,w,Ua,Same.refl _ _,rfl⟩))
     (.ahead<|LT [(54,.agg holeV.toArray)] hp 2 rfl rfl (λS s w hd hI=>⟨hI.dep hd 1 rfl rfl,trivial⟩) λs w=>Md gX uZ kX Ja Ja Ua))
     (.ahead<|st_map hp 3 rfl rfl λS s w hd hI=>⟨RE hI hd 0 rfl rfl rfl Dt rfl rfl,RE hI hd 2 rfl rfl rfl RF rfl rfl⟩))
     (.ahead<|Ot hp 4 rfl rfl λS s w hd hI=>⟨_,w,Ma (l:=(FJ b1).cells) isAgg40 sizeOf40 ((Zk rfl).trans hI.1.1) rfl<|(hF.ext hI.2.1).part 1 0 rfl rfl,Same.refl _ _,rfl⟩))
     (.ahead<|LT [(57,.agg (FJ b1).cells.toArray)] hp 5 rfl rfl (λS s w hd hI=>⟨hI.dep hd 4 rfl rfl,trivial⟩) λs w=>Md underlying62 sizeOf40 zeroValue40 Ja Ja Ua))
     (.ahead<|st_se hp 6 3 5 rfl rfl rfl rfl rfl rfl rfl rfl (λS s w hd hI=>rfl) (λx bc w hs hx hb=>RU x hx (Lq hb1 hs) hb<|hG.ext hs) λb w h=>Pa h))
     (.ahead<|g_cp hp 7 6 rfl rfl rfl rfl rfl))
     (.ahead<|st_x0 hp 8 7 rfl rfl rfl rfl rfl))
     (.both (ES hp 9 7 rfl rfl rfl rfl rfl) (ES hq 1 0 rfl rfl rfl rfl rfl) rfl))
     (.both (HR hp 10 7 rfl rfl rfl rfl rfl) (HR hq 2 0 rfl rfl rfl rfl rfl) rfl))
     (.ahead<|g_al hp rfl kX rfl))
     (st_st 7 8 9 10 rfl rfl rfl rfl rfl rfl rfl))
     (.behind<|g_as hq 3 1 rfl rfl rfl rfl rfl))
     (.behind<|g_as hq 4 2 rfl rfl rfl rfl rfl))
  intro s w' hJ;obtain⟨h1,h2,h3,h4⟩:=SR hJ;obtain⟨bt,eb,⟨q,hq,hV⟩,hb⟩:=h4 rfl;obtain⟨A,c,e5,hC⟩:=h3 3 _ rfl rfl;have e6:=h3 4 _ rfl rfl;exact Ha ⟨q,A,c,bt,hT.ext h2,hU.ext h2,hV.rep.anyS,hC.rep.anyS,⟨h1.1,h1.2.1,h1.2.2.1,h1.2.2.2.1,h1.2.2.2.2.1,h1.2.2.2.2.2.1,h1.2.2.2.2.2.2.1,h1.2.2.2.2.2.2.2.1,h1.2.2.2.2.2.2.2.2.1,h1.2.2.2.2.2.2.2.2.2.1,h1.2.2.2.2.2.2.2.2.2.2.1,eb,e5,e6,trivial⟩,hF.cons_ext h2 hq hb⟩
 rintro σ w ⟨q7,A7,c7,bt7,hT,hU,hV7,hC7,hzz,hF⟩;refine Aj hzz 2<|Eb (λσ w=>∃(q8:Tv),∃(bt8:Nat),(Rep (λ_=>True) w (Jd tS) [.slice A4 1 c4])/\(Rep (λ_=>True) w (Jd tS) [.slice A10 1 c10])/\(Rep (λ_=>True) w (Na zeroT) q7.cells)/\(Rep (λ_=>True) w (.slice<|[(0:Int)].map Lg) [.slice A7 1 c7])/\(Rep (λ_=>True) w (Na BK) q8.cells)/\AllEq σ [(2,I pS),(3,.bool true),(4,.slice A4 1 c4),(5,J 0),(6,V b3),(7,.bool true),(8,I qQq),(9,J 0),(10,.slice A10 1 c10),(11,.bool true),(12,V bt7),(13,.slice A7 1 c7),(14,J 10),(15,V bt8),(17,J 0)]/\FR w0 [] [(bt8,.cells (q8.cells).toArray 36),(bt7,.cells (q7.cells).toArray 36),(b3,.cells #[.bool true,J yk,I [57],.slice yA yn yc,.slice yB ym ye] 38),(b2,.cells #[W b1 1 1,J 3,.bool true,J 3,I [49],aQ,aQ,.bool true,J 3,I [50],aQ,aQ,.bool false,J 0,I [],aQ,aQ] 40),(b1,.cells #[I [97]] 9)] w) ?_ ?_
 ·
  have hF:=hF.drew;have hT:=hT.ext<|Same.drew w;have hU:=hU.ext<|Same.drew w;have hV7:=hV7.ext<|Same.drew w;have hC7:=hC7.ext<|Same.drew w;have hG0:=hG;have hG:=hG0.ext hF.same;have hb1:=hF.heap (i:=3) rfl;have hp:=@ph8 w0 b1 b2 b3 A4 c4 A10 c10 bt7 A7 c7;have hq:=@ph8b w0 b1 b2 b3 A4 c4 A10 c10 bt7 A7 c7;refine c_all 16 (Inv:=Jv 13 (IG Z1 w.drew (sl8 b1 b2 b3 A4 c4 A10 c10 bt7 A7 c7) (12,15)<|l8 w0 b1 A4 c4)<|IG (Z2 w0 BK) w.drew (sl8 b1 b2 b3 A4 c4 A10 c10 bt7 A7 c7) (12,15)<|l2 w0 BK [] (0) (8,63) 14 (73,74) 15 (16,17)) Ua Ua ?_ ?_ ?_
  ·exact N_ ⟨O,O,O,O,O,O,O,O,O,O,O,O,O,O,trivial⟩ O
  ·exact (below (below (below (below (below (below (below (below (below (below (below (below (below (below (below (below below0
     (.ahead<|LT [] hp 0 rfl rfl (λS s w hd hI=>trivial) λs w=>Md fX sizeOf9 zeroValue9 Ja Ja Ua))
     (.ahead<|Ot hp 1 rfl rfl λS s w hd hI=>⟨_,w,Ua,Same.refl _ _,rfl⟩))
     (.ahead<|LT [(65,.agg holeV.toArray)] hp 2 rfl rfl (λS s w hd hI=>⟨hI.dep hd 1 rfl rfl,trivial⟩) λs w=>Md gX uZ kX Ja Ja Ua))
     (.ahead<|st_map hp 3 rfl rfl λS s w hd hI=>⟨RE hI hd 0 rfl rfl rfl Dt rfl rfl,RE hI hd 2 rfl rfl rfl RF rfl rfl⟩))
     (.ahead<|Ot hp 4 rfl rfl λS s w hd hI=>⟨_,w,Ma (l:=(FJ b1).cells) isAgg40 sizeOf40 ((Zk rfl).trans hI.1.1) rfl<|(hF.ext hI.2.1).part 2 0 rfl rfl,Same.refl _ _,rfl⟩))
     (.ahead<|LT [(68,.agg (FJ b1).cells.toArray)] hp 5 rfl rfl (λS s w hd hI=>⟨hI.dep hd 4 rfl rfl,trivial⟩) λs w=>Md underlying62 sizeOf40 zeroValue40 Ja Ja Ua))
     (.ahead<|g_mv hp 6 rfl rfl 3 rfl rfl))
     (.ahead<|st_se hp 7 3 5 rfl rfl rfl rfl rfl rfl rfl rfl (λS s w hd hI=>(Zk rfl).trans (hI.dep hd 6 rfl rfl)) (λx bc w hs hx hb=>EW x A4 c4 hx (Lq hb1 hs) hb (hT.ext hs)<|hG.ext hs) λb w h=>Pa h))
     (.ahead<|g_cp hp 8 7 rfl rfl rfl rfl rfl))
     (.ahead<|st_x0 hp 9 8 rfl rfl rfl rfl rfl))
     (.both (ES hp 10 8 rfl rfl rfl rfl rfl) (ES hq 1 0 rfl rfl rfl rfl rfl) rfl))
     (.both (HR hp 11 8 rfl rfl rfl rfl rfl) (HR hq 2 0 rfl rfl rfl rfl rfl) rfl))
     (.ahead<|g_al hp rfl kX rfl))
     (st_st 8 9 10 11 rfl rfl rfl rfl rfl rfl rfl))
     (.behind<|g_as hq 3 1 rfl rfl rfl rfl rfl))
     (.behind<|g_as hq 4 2 rfl rfl rfl rfl rfl))
  intro s w' hJ;obtain⟨h1,h2,h3,h4⟩:=SR hJ;obtain⟨bt,eb,⟨q,hq,hV⟩,hb⟩:=h4 rfl;obtain⟨A,c,e5,hC⟩:=h3 3 _ rfl rfl;have e6:=h3 4 _ rfl rfl;exact Ha ⟨q,bt,hT.ext h2,hU.ext h2,hV7.ext h2,hC7.ext h2,hV.rep.anyS,⟨h1.2.1,h1.2.2.1,h1.2.2.2.1,h1.2.2.2.2.1,h1.2.2.2.2.2.1,h1.2.2.2.2.2.2.1,h1.2.2.2.2.2.2.2.1,h1.2.2.2.2.2.2.2.2.1,h1.2.2.2.2.2.2.2.2.2.1,h1.2.2.2.2.2.2.2.2.2.2.1,h1.2.2.2.2.2.2.2.2.2.2.2.1,h1.2.2.2.2.2.2.2.2.2.2.2.2.1,h1.2.2.2.2.2.2.2.2.2.2.2.2.2.1,eb,e6,trivial⟩,hF.cons_ext h2 hq hb⟩
 rintro σ w ⟨q8,bt8,hT,hU,hV7,hC7,hV8,hzz,hF⟩;refine Aj hzz 2<|Gb (.of []) (bQ [0,1,2,3,4,5,6,7,8,9,10,11,12,13,14,15,16,17,18,19,20,21,22,23,24,25,26,27,28,29,30,31,32,33,34,35]<|.act 36<|bQ [37,38,39,40,41,42,43,44]<|.act 45<|.act 46<|bQ [47,48,49,50,51,52,53,54,55,56,57]<|.alt 58 (cQ [59,60,61,62]<|.free 63<|.free 64 .nil)<|.act 59<|.alt 58 (cQ [60,61,62]<|.free 63<|.free 64 .nil)<|cQ [60,58,61,62]<|.free 63<|.free 64 .nil) hF ?_;intro w hF hE;have hT:=hT.ext hE;have hU:=hU.ext hE;have hV7:=hV7.ext hE;have hC7:=hC7.ext hE;have hV8:=hV8.ext hE;refine⟨λwq=>FR w0 [] _ wq,hF,?_⟩;refine rn 3<|Ga O (v:=.bool true) (λw hC=>Ud (Bw O O) O) ?_;refine rn 3<|Ga O (v:=.bool true) (λw hC=>Ud El O) ?_;refine rn 12<|Ga O (v:=.bool true) (λw hC=>Ud (Bw O O) O) ?_;refine rn 3<|Ga O (v:=.bool true) (λw hC=>Ud El O) ?_;refine rn 3<|Ga O (v:=.bool true) (λw hC=>Ud (Bw O O) O) ?_;refine rn 7<|Rc (BF tS A4 A10 c4 c10 _ _ _ hT hU) ?_;intro w hF hE;have hT:=hT.ext hE;have hU:=hU.ext hE;have hV7:=hV7.ext hE;have hC7:=hC7.ext hE;have hV8:=hV8.ext hE;refine rn 4<|Ga O (v:=.bool true) (λw hC=>Ud El<|(tv_kt hV7).1) ?_;refine rn 4 ?_;intro b4 w hb4 hF hE;have hT:=hT.ext hE;have hU:=hU.ext hE;have hV7:=hV7.ext hE;have hC7:=hC7.ext hE;have hV8:=hV8.ext hE;refine Rc (Qk (v':=.bool true) (ints_c _ _ _ [0] [0] _ _ _ _ hC7<|hF.rowS (S:=λ_=>True) 0 O (n:=1) one0_rep O Aa)<|yQ Value.bool<|gZ O) ?_;intro w hF hE;have hT:=hT.ext hE;have hU:=hU.ext hE;have hV7:=hV7.ext hE;have hC7:=hC7.ext hE;have hV8:=hV8.ext hE;refine rn 3<|Ga O (v:=.bool true) (λw hC=>Ud El O) ?_;refine rn 3<|Ga O (v:=.bool true) (λw hC=>Ud El O) ?_;refine rn 3 ?_
 repeat' first
  |refine R7 ?_ ?_|refine Bs 58<|rn 1 ?_;intro b301 w hb301 hF hE;have hT:=hT.ext hE;have hU:=hU.ext hE;have hV7:=hV7.ext hE;have hC7:=hC7.ext hE;have hV8:=hV8.ext hE|refine Bs 59<|Rc (Qk (v':=.agg (ZS 57).cells.toArray) (JI 9 Aa Aa<|hG.ext hF.same) Ua) ?_;intro w hF hE;have hT:=hT.ext hE;have hU:=hU.ext hE;have hV7:=hV7.ext hE;have hC7:=hC7.ext hE;have hV8:=hV8.ext hE|refine Bs 60<|rn 1 ?_;intro b302 w hb302 hF hE;have hT:=hT.ext hE;have hU:=hU.ext hE;have hV7:=hV7.ext hE;have hC7:=hC7.ext hE;have hV8:=hV8.ext hE|refine Bs 61<|Rc (map_c (some ⟨b301,0,none⟩) 1 1 (some ⟨b302,0,none⟩) 1 1 _) ?_;intro w hF hE;have hT:=hT.ext hE;have hU:=hU.ext hE;have hV7:=hV7.ext hE;have hC7:=hC7.ext hE;have hV8:=hV8.ext hE
  |
   refine Bs 62 ?_
   first|refine Rc (Qk (v':=.bool true) (XB BK BK _ _ _ _ _ hV8 (show Rep (λ_=>True) _ (Na BK) [J 6,I [],W b301 1 1,W b302 1 1] from Rep.tree_mk ⟨Ja,Ja⟩ Da (hF.rowS (S:=λ_=>True) 0 rfl (n:=1) Dt rfl Aa).anyS (hF.rowS (S:=λ_=>True) 1 rfl (n:=1) YH rfl Aa).anyS))<|yQ Value.bool<|Hj _) ?_|refine Rc (Qk (v':=.bool true) (XB BK BK _ _ _ _ _ hV8 (show Rep (λ_=>True) _ (Na BK) [J 6,I [],W b301 1 1,W b302 1 1] from Rep.tree_mk ⟨Ja,Ja⟩ Da (hF.rowS (S:=λ_=>True) 1 rfl (n:=1) Dt rfl Aa).anyS (hF.rowS (S:=λ_=>True) 0 rfl (n:=1) YH rfl Aa).anyS))<|yQ Value.bool<|Hj _) ?_
   intro w hF hE;have hT:=hT.ext hE;have hU:=hU.ext hE;have hV7:=hV7.ext hE;have hC7:=hC7.ext hE;have hV8:=hV8.ext hE
  |refine rn 3 ?_;exact⟨O,hF.same⟩|refine rn 1 ?_
end Go.Scarf
