/- A part of the proof. -/
import Derived.Test.YtgkmigdopohcnaaGreatDoorSs
import Derived.Test.YtgkmigdopohcnaaGreatDoorIv
set_option linter.all false
set_option maxHeartbeats 8000000
set_option maxRecDepth 10000
namespace Go.Scarf
open Go.RowKit Go.Proofs Go.Proofs.Tryz
abbrev HP(i:UInt8):Tv:=⟨3,[i],none,0,0,none,0,0⟩
abbrev LG(b:Nat):Cv:=⟨some ⟨b,0,none⟩,1,1,3,⟨true,HP 49⟩,⟨true,HP 50⟩,⟨false,V9⟩⟩
abbrev holeV:List Value:=[J 7,I [48],aQ,aQ]
theorem VB(i:UInt8){S:Nat->Prop}{w:World}:Rep S w (Pb (nuS i)) (HP i).cells:=Rep.tree_mk ⟨by decide,by decide⟩ Ma (Rep.nil_slice 0 Aa none) (Rep.nil_slice 0 Aa none)
theorem s9_rep{S:Nat->Prop}{w:World}:Rep S w (Ve s9) (Sv.cells ⟨true,HP 57⟩):=J5 (s:=s9) (VB 57)
theorem Sr{w:World}:RepL (λ_=>True) w ([([97]:Str)].map Cn) [I [97]]:=RepL.cons_mk (c1:=[I [97]]) (c2:=[]) (Rep.lit_mk (v:=I [97]) (show ([97]:Str).length<=9223372036854775807 by decide)) RepL.nil_mk
theorem DG{w:World}:RepL (λ_=>True) w (Pe [AH 0]) holeV:=by
  have e:AH 0=.node 7 [48] [] []:=by kernel_rfl
  rw[e];exact RepL.cons_mk (c1:=holeV) (c2:=[]) (Rep.tree_mk ⟨by decide,by decide⟩ Ma (Rep.nil_slice 0 Aa none) (Rep.nil_slice 0 Aa none)) RepL.nil_mk
theorem Z5{w:World}:RepL (λ_=>True) w (Pe [nuS 57]) (HP 57).cells:=RepL.cons_mk (c2:=[]) (VB 57) RepL.nil_mk
theorem VO{w:World}{b:Nat}{T:TypeId}(h:w.heap[b]? = some (.cells #[I [97]] T)):CvOf (λ_=>True) w cS (LG b) :=
  ⟨rfl,rfl,EC (n:=1) (l:=[I [97]]) h Sr rfl Aa,J5 (s:=⟨true,nuS 49⟩) (VB 49),J5 (s:=⟨true,nuS 50⟩) (VB 50),Jo⟩
theorem CvOf.rep{S:Nat->Prop}{w:World}{c:Cf}{q:Cv}(h:CvOf S w c q)(hk:-1000<=c.cls/\c.cls<=1000):Rep S w (L8 c) q.cells:=by
  obtain⟨A,n,c',k,x,y,z⟩:=q;obtain⟨h1,h2,h3,h4,h5,h6⟩:=h;obtain rfl:=h2;unfold L8;refine Rep.agg_mk (RepL.cons_mk (c1:=[.slice A n c']) h3 (RepL.cons_mk (c1:=[J c.cls]) (Rep.lit_mk (okI (z:=c.cls) Aa Aa)) (RepL.cons_mk h4 (RepL.cons_mk h5 (RepL.cons_mk (c2:=[]) h6 RepL.nil_mk)))))
theorem VM{w:World}{b bc T:Nat}(h:w.heap[b]? = some (.cells #[I [97]] T))(hc:w.heap[bc]? = some (.cells (LG b).cells.toArray 29)):Rep (λ_=>True) w (.slice ([cS].map L8)) [W bc 1 1] :=
  EC (n:=1) hc (RepL.cons_mk (c2:=[]) ((VO h).rep Ab) RepL.nil_mk) rfl Aa
def SetQ(w0:World)(t:Tree)(ds:List D)(e:Int)(v:Value)(w':World):Prop:=∃(q:Tv)(A:Option Addr)(c:Nat),v=.tuple #[.agg q.cells.toArray,.slice A ds.length c,J e]/\Rep (Btw w0 w') w' (Pb t) q.cells/\Rep (Btw w0 w') w' (.slice ds) [.slice A ds.length c]/\Same [] w0 w'
theorem ZP{w0:World}{b bc T:Nat}(x:Tv)(hx:Rep (λ_=>True) w0 (Pb hmT) x.cells)(h:w0.heap[b]? = some (.cells #[I [97]] T))(hc:w0.heap[bc]? = some (.cells (LG b).cells.toArray 29))(hG:Gl w0) :
    Calls prog 22 #[.agg x.cells.toArray,W bc 1 1,aQ,J 1] w0 (Dd λv w'=>SetQ w0 zeroT ([(0:Int)].map Mi) 10 v w') :=
  (GE hmT x cS _ 1 [] none 0 (λ_=>True) (λ_=>True) (λ_=>True) w0 hx (VM h hc) (Rep.nil_slice 0 Aa none) Ma Ab Pr F1 (by rw[show Mk (Zj [] cS).1=noS from by kernel_rfl];exact AQ) G9 Jy.1 Jy.2 FC TF hG).mono λe w'' ⟨v,he,hv⟩=>⟨v,he,by
    rcases hv with ⟨-,A,c,rfl,hr,hs⟩|⟨hf,-⟩
    ·exact⟨V9,A,c,O,Vn _ _,hr,hs⟩
    rw[LH]at hf;cases hf⟩
theorem HS{w0:World}{b bc T:Nat}(x:Tv)(A:Option Addr)(c:Nat)(hx:Rep (λ_=>True) w0 (Pb hmT) x.cells)(h:w0.heap[b]? = some (.cells #[I [97]] T))(hc:w0.heap[bc]? = some (.cells (LG b).cells.toArray 29))(hT:Rep (λ_=>True) w0 (Mh tS) [.slice A 1 c])(hG:Gl w0) :
    Calls prog 22 #[.agg x.cells.toArray,W bc 1 1,.slice A 1 c,J 1] w0 (Dd λv w'=>SetQ w0 WA [] 0 v w') :=
  (GE hmT x cS _ 1 tS A c (λ_=>True) (λ_=>True) (λ_=>True) w0 hx (VM h hc) hT Y1 Ab Pr F1 (by rw[Y0];exact RT) G9 Jy.1 Jy.2 ME TF hG).mono λe w'' ⟨v,he,hv⟩=>⟨v,he,by
    rcases hv with ⟨hf,-⟩|⟨-,q,rfl,hr,hs⟩
    ·rw[V4]at hf;cases hf
    rw[Y0]at hr ⊢;rw[show F2 cS.cls s9=F2 3 s9 from rfl,KT]at hr ⊢;exact⟨q,none,0,O,hr,Rep.nil_slice 0 Aa none,hs⟩⟩
def idA:Option Value->List Nat
  | some (.pointer (some a))=>[a.block]
  | _=>[]
def JE(t:Tree):Option Value->Value->World->Prop:=λ_ u w=>∃x:Tv,u=.agg x.cells.toArray/\Rep (λ_=>True) w (Pb t) x.cells
def MN(u0:World)(t:Tree)(ds:List D)(e:Int):Option Value->Value->World->Prop:=λa u w=>∃(q:Tv)(A:Option Addr)(c:Nat),u=.tuple #[.agg q.cells.toArray,.slice A ds.length c,J e]/\RX (wE u0) (idA a) w [Pb t] q.cells/\RX (wE u0) (idA a) w [.slice ds] [.slice A ds.length c]
def mvF(u0:World)(t:Tree):Option Value->Value->World->Prop:=λa u w=>∃q:Tv,u=.agg q.cells.toArray/\RX (wE u0) (idA a) w [Pb t] q.cells
def slF(u0:World)(ds:List D):Option Value->Value->World->Prop:=λa u w=>∃(A:Option Addr)(c:Nat),u=.slice A ds.length c/\RX (wE u0) (idA a) w [.slice ds] [.slice A ds.length c]
def isSl(ds:List D)(u:Value)(w:World):Prop:=∃A m c,u=.slice A m c/\Rep (λ_=>True) w (.slice ds) [.slice A m c]
abbrev pV(b:Nat):Value:=V b
section
variable {u0:World}{t:Tree}{ds:List D}{e:Int}
theorem CP:∀a u w w',Same [] w w'->JE t a u w->JE t a u w':=λ_ _ _ _ hs ⟨x,e,h⟩=>⟨x,e,h.ext hs⟩
theorem YO:∀u w w',Same [] w w'->JE t none u w->JE t (some (pV w.heap.size)) u w':=λ_ _ _ hs ⟨x,e,h⟩=>⟨x,e,h.ext hs⟩
theorem OC:∀a u w w',Same [] w w'->MN u0 t ds e a u w->MN u0 t ds e a u w':=λ_ _ _ _ hs ⟨q,A,c,e,h,h'⟩=>⟨q,A,c,e,h.ext hs,h'.ext hs⟩
theorem MA:∀u w w',Same [] w w'->MN u0 t ds e none u w->MN u0 t ds e (some (pV w.heap.size)) u w':=λ_ _ _ hs ⟨q,A,c,e,h,h'⟩=>⟨q,A,c,e,h.alloc hs rfl,h'.alloc hs rfl⟩
theorem BU:∀a u w w',Same [] w w'->mvF u0 t a u w->mvF u0 t a u w':=λ_ _ _ _ hs ⟨q,e,h⟩=>⟨q,e,h.ext hs⟩
theorem UY:∀u w w',Same [] w w'->mvF u0 t none u w->mvF u0 t (some (pV w.heap.size)) u w':=λ_ _ _ hs ⟨q,e,h⟩=>⟨q,e,h.alloc hs rfl⟩
theorem K1:∀a u w w',Same [] w w'->slF u0 ds a u w->slF u0 ds a u w':=λ_ _ _ _ hs ⟨A,c,e,h⟩=>⟨A,c,e,h.ext hs⟩
theorem U0:∀u w w',Same [] w w'->slF u0 ds none u w->slF u0 ds (some (pV w.heap.size)) u w':=λ_ _ _ hs ⟨A,c,e,h⟩=>⟨A,c,e,h.alloc hs rfl⟩
end
section
variable {n:Nat}{ops:List Oper}{Z:Nat->World->Prop}{w00 u0:World}{sl:List (Nat × Value)}{H:Nat × Nat}{l:List Fact}{i d:Nat}{ty:Nat}{pos:String}{aft:Array Edge}{g:Option (Nat × Bool)}{ats:Array TypeId}{S:Nat->Bool}{s:Nat->Value}{w:World}{t:Tree}{ds:List D}{e:Int}
theorem IB{k' d':Nat}{N:Nat}{T:TypeId}{lv:List Value}(hI:IG Z w00 sl H l S s w)(hd:∀d∈Ih ops i,S d=true)(k:Nat)(hk:l[k]? = some (k',d',E2 N (.cells lv.toArray T)))(hm:(Ih ops i).contains k'=true)(hn:Nat.blt d' n=true)(hr:RepL (λ_=>True) w ds lv)(hN:ds.length=N)(hb:decide (N<=9)=true):isSl ds (ev n s (.tmp d')) w:=by
  rw[Zl hn];obtain⟨b,e,hb'⟩:=hI.dep hd k hk hm;exact⟨_,_,_,e,EC hb' hr hN (by have:=of_decide_eq_true hb;omega)⟩
theorem UX{ks:List Str}{xs:List Tree}{x y:Operand}(hp:Ph Z sl H l)(k:Nat)(hk:l[k]? = some (i,d,JE (.node 6 [] ks xs)))(hi:ops[i]? = some ⟨some d,.call ⟨.value (.func 23),#[x,y],ats⟩,ty,pos,aft,g⟩)
    (h:∀S s w,(∀d∈Ih ops i,S d=true)->IG Z w00 sl H l S s w->isSl (ks.map Cn) (ev n s x) w/\isSl (Pe xs) (ev n s y) w) (hw:∀s,Fb ops n s ⟨some d,.call ⟨.value (.func 23),#[x,y],ats⟩,ty,pos,aft,g⟩=true:=by exact λ_=>rfl):StepA prog n ops (IG Z w00 sl H l) i :=
  CV hp k hk hi (λS s w hd hI=>by
    obtain⟨⟨A,m,c,e1,h1⟩,B,m',c',e2,h2⟩:=h S s w hd hI;refine⟨23,_,_,_,WP A m c B m' c' w,Xa HN O e1 e2,?_⟩;rintro v w'' ⟨rfl,hs⟩;exact⟨hs,⟨6,[],A,m,c,B,m',c'⟩,O,Rep.tree_mk ⟨by decide,by decide⟩ Ma (h1.ext hs) (h2.ext hs)⟩) hw
theorem st_se{zop:Operand}{zv:Value}{b1 x y ix iy:Nat}(hp:Ph Z sl H l)(k kx ky:Nat)(hk:l[k]? = some (i,d,MN u0 t ds e))(hx:l[kx]? = some (ix,x,JE hmT))(hy:l[ky]? = some (iy,y,E2 1 (.cells (LG b1).cells.toArray 29)))
    (hi:ops[i]? = some ⟨some d,.call ⟨.value (.func 22),#[.tmp x,.tmp y,zop,.const (J 1)],ats⟩,ty,pos,aft,g⟩) (mx:(Ih ops i).contains ix=true) (my:(Ih ops i).contains iy=true) (nx:Nat.blt x n=true) (ny:Nat.blt y n=true)
    (hz:∀S s w,(∀d∈Ih ops i,S d=true)->IG Z w00 sl H l S s w->ev n s zop=zv)
    (hc:∀(x:Tv)(bc:Nat)(w:World),Same [] w00 w->Rep (λ_=>True) w (Pb hmT) x.cells->w.heap[bc]? = some (.cells (LG b1).cells.toArray 29)->Calls prog 22 #[.agg x.cells.toArray,W bc 1 1,zv,J 1] w (Dd λv w'=>SetQ w t ds e v w'))
    (hZ:∀b w,Z b w->b<w.heap.size) (hw:∀s,Fb ops n s ⟨some d,.call ⟨.value (.func 22),#[.tmp x,.tmp y,zop,.const (J 1)],ats⟩,ty,pos,aft,g⟩=true:=by exact λ_=>rfl):StepA prog n ops (IG Z w00 sl H l) i :=
  CV hp k hk hi (λS s w hd hI=>by
    obtain⟨q1,e1,h1⟩:=hI.dep hd kx hx mx;obtain⟨bc,e2,h2⟩:=hI.dep hd ky hy my;refine⟨22,_,_,_,hc q1 bc w hI.2.1 h1 h2,BO en_22 O ((Zl nx).trans e1) ((Zl ny).trans e2) (hz S s w hd hI) O,?_⟩;rintro v w' ⟨q,A',c,rfl,r1,r2,hs⟩;have hid:∀b∈idA (Vq H S s),b<w.heap.size:=λb hb=>by
      unfold Vq at hb;by_cases hA:S H.1=true
      ·rw[if_pos hA]at hb
       obtain⟨b',e,hz,hge⟩:=hI.2.2.2 hA;rw[e]at hb;obtain rfl:b=b':=by simpa[idA]using hb
       exact hZ _ _ hz
      rw[if_neg hA]at hb;cases hb
    exact⟨hs,q,A',c,O,RX.made (Nat.zero_le _) hid r1,RX.made (Nat.zero_le _) hid r2⟩) hw
theorem st_x0{i' d':Nat}(hp:Ph Z sl H l)(k k':Nat)(hk:l[k]? = some (i,d,mvF u0 t))(hk':l[k']? = some (i',d',MN u0 t ds e))(hi:ops[i]? = some ⟨some d,.extract (.tmp d') 0,ty,pos,aft,g⟩)(hm:(Ih ops i).contains i'=true)(hn:Nat.blt d' n=true)
    (hw:∀s,Fb ops n s ⟨some d,.extract (.tmp d') 0,ty,pos,aft,g⟩=true:=by exact λ_=>rfl):StepA prog n ops (IG Z w00 sl H l) i :=
  Lu hp k hk hi (λS s w hd hI=>by
    obtain⟨q,A,c,e,h1,h2⟩:=hI.dep hd k' hk' hm;exact⟨_,w,Kk ((Zl hn).trans e) O,Same.refl _ _,q,O,h1⟩) hw
theorem DO{i' d':Nat}(hp:Ph Z sl H l)(k k':Nat)(hk:l[k]? = some (i,d,slF u0 ds))(hk':l[k']? = some (i',d',MN u0 t ds e))(hi:ops[i]? = some ⟨some d,.extract (.tmp d') 1,ty,pos,aft,g⟩)(hm:(Ih ops i).contains i'=true)(hn:Nat.blt d' n=true)
    (hw:∀s,Fb ops n s ⟨some d,.extract (.tmp d') 1,ty,pos,aft,g⟩=true:=by exact λ_=>rfl):StepA prog n ops (IG Z w00 sl H l) i :=
  Lu hp k hk hi (λS s w hd hI=>by
    obtain⟨q,A,c,e,h1,h2⟩:=hI.dep hd k' hk' hm;exact⟨_,w,Kk ((Zl hn).trans e) O,Same.refl _ _,A,c,O,h2⟩) hw
theorem SM{i' d':Nat}(hp:Ph Z sl H l)(k k':Nat)(hk:l[k]? = some (i,d,OI (J e)))(hk':l[k']? = some (i',d',MN u0 t ds e))(hi:ops[i]? = some ⟨some d,.extract (.tmp d') 2,ty,pos,aft,g⟩)(hm:(Ih ops i).contains i'=true)(hn:Nat.blt d' n=true)
    (hw:∀s,Fb ops n s ⟨some d,.extract (.tmp d') 2,ty,pos,aft,g⟩=true:=by exact λ_=>rfl):StepA prog n ops (IG Z w00 sl H l) i :=
  Lu hp k hk hi (λS s w hd hI=>by
    obtain⟨q,A,c,e,h1,h2⟩:=hI.dep hd k' hk' hm;exact⟨_,w,Kk ((Zl hn).trans e) O,Same.refl _ _,O⟩) hw
def Z1(b:Nat)(w:World):Prop:=w.heap[b]? = some (.cells #[J 0,I [],aQ,aQ] 25)
def Z2(u0:World)(t:Tree)(b:Nat)(w:World):Prop:=∃q:Tv,w.heap[b]? = some (.cells q.cells.toArray 25)/\RX (wE u0) [b] w [Pb t] q.cells
theorem Z1_st:∀b w w',Same [] w w'->Z1 b w->Z1 b w':=λ_ _ _ hs h=>Hr h hs
theorem Z2_st:∀b w w',Same [] w w'->Z2 u0 t b w->Z2 u0 t b w':=λ_ _ _ hs ⟨q,h,h'⟩=>⟨q,Hr h hs,h'.ext hs⟩
def l2(u0:World)(t:Tree)(ds:List D)(er:Int)(p:Nat × Nat)(e:Nat)(q:Nat × Nat)(e':Nat)(r:Nat × Nat):List Fact :=
  [(p.1,p.2,MN u0 t ds er),(p.1+2,q.1,slF u0 ds),(p.1+3,q.2,OI (J er)),(e,r.1,slF u0 ds),(e',r.2,OI (J er))]
theorem AllG.nil{S:Nat->Bool}{s:Nat->Value}{w:World}:AllG H S s w []:=λk f h=>by simp at h
theorem AllG.cons{S:Nat->Bool}{s:Nat->Value}{w:World}{f:Fact}(h:S f.1=true->f.2.2 (Vq H S s) (s f.2.1) w)(hl:AllG H S s w l):AllG H S s w (f::l):=λk g hg=>by
  cases k with
  | zero => obtain rfl : f = g := by simpa using hg
            exact h
  | succ k=>exact hl k g (by simpa using hg)
theorem st_st{er:Int}{p q r:Nat × Nat}{st dv:Nat}(k31 k32 k33 k34:Nat)(h31:l[k31]? = some (p.1,p.2,MN u0 t ds er))(h32:l[k32]? = some (p.1+1,dv,mvF u0 t))(h33:l[k33]? = some (p.1+2,q.1,slF u0 ds))(h34:l[k34]? = some (p.1+3,q.2,OI (J er)))
    (hi:ops[st]? = some ⟨none,.store 25 (.tmp H.2) (.tmp dv),ty,pos,aft,g⟩) (hA:Nat.blt H.2 n=true) (hv:Nat.blt dv n=true) (mA:(Ih ops st).contains H.1=true:=by kernel_rfl) (mv:(Ih ops st).contains (p.1+1)=true:=by kernel_rfl)
    (m37:(Ih ops (st+1)).contains st=true:=by kernel_rfl) (m38:(Ih ops (st+2)).contains (st+1)=true:=by kernel_rfl) (hsz:decide (st+2<ops.length/\p.1+3<st/\H.1<st)=true:=by kernel_rfl)
    (hw:∀s,Fb ops n s ⟨none,.store 25 (.tmp H.2) (.tmp dv),ty,pos,aft,g⟩=true:=by exact λ_=>rfl) :
    StepA prog n ops (Vx st (IG Z1 w00 sl H l) (IG (Z2 u0 t) w00 sl H (l2 u0 t ds er p (st+1) q (st+2) r))) st:=.at λS s w hS hd hc hI=>by
  have hsz:=of_decide_eq_true hsz;obtain⟨h1,h2,h3,h4⟩:=id hI;have sA:S H.1=true:=hd _ (List.contains_iff_mem.1 mA);obtain⟨b,eb,hz,hb⟩:=h4 sA;obtain⟨x,ex,hx⟩:=hI.dep hd k32 h32 mv;have ea:Vq H S s=some (pV b):=by unfold Vq;rw[sA,if_pos rfl,eb]
  rw[ea]at hx;have hF:FR w00 [] [(b,.cells (List.toArray [J 0,I [],aQ,aQ]) 25)] w:=⟨h2,λq hq=>by rw[pQ.1 hq];exact⟨hz,.inl hb⟩,by simp⟩;have s37:S (st+1)=false:=by
    cases e:S (st+1)with
    | false=>rfl
    | true=>rw[hc _ Aa e st (List.contains_iff_mem.1 m37)]at hS;cases hS
  have s38:S (st+2)=false:=by
    cases e:S (st+2)with
    | false=>rfl
    | true=>rw[hc _ Aa e (st+1) (List.contains_iff_mem.1 m38)]at s37;cases s37
  refine does_dg (λ_ _ _=>True) .done (On hi hF nZ ((Zl hA).trans eb) ((Zl hv).trans ex) Zg (λw' hF' hs=>⟨trivial,Hc (Hb ?_)⟩) O O O (hw s));have eI:Vq H (NI st S) s=some (pV b):=by rw[<-ea];unfold Vq;rw[Sm Aa]
  refine⟨h1,hF'.same,?_,λ_=>⟨b,eb,⟨x,hF'.heap (i:=0) O,hx.store hs (by simp[idA])⟩,hb⟩⟩;refine .cons (λh=>?_) (.cons (λh=>?_) (.cons (λh=>?_) (.cons (λh=>?_) (.cons (λh=>?_) .nil))))
  ·rw[Sm (by show p.1 ≠ st;omega)]at h
   have:=h3 k31 _ h31 h;rw[ea]at this;obtain⟨q,A,c,e,g1,g2⟩:=this;rw[eI];exact⟨q,A,c,e,g1.store hs (by simp[idA]),g2.store hs (by simp[idA])⟩
  ·rw[Sm (by show p.1 + 2 ≠ st;omega)]at h
   have:=h3 k33 _ h33 h;rw[ea]at this;obtain⟨A,c,e,g1⟩:=this;rw[eI];exact⟨A,c,e,g1.store hs (by simp[idA])⟩
  ·rw[Sm (by show p.1 + 3 ≠ st;omega)]at h
   exact h3 k34 _ h34 h
  ·rw[Sm (by show st + 1 ≠ st;omega)]at h
   rw[s37]at h;cases h
  rw[Sm (by show st + 2 ≠ st;omega)]at h;rw[s38]at h;cases h
theorem T_{Z1 Z2:Nat->World->Prop}{l1 l2:List Fact}{st N:Nat}(hs:AllEq s sl)(h:(decide (st<N)&&decide (H.1<N)&&l1.all λf=>decide (f.1<N))=true):Vx st (IG Z1 w sl H l1) (IG Z2 w sl H l2) (λi=>!decide (i<N)) s w:=by
  rw[Bool.and_eq_true,Bool.and_eq_true,decide_eq_true_eq,decide_eq_true_eq]at h;unfold Vx;rw[if_neg (by simp[h.1.1])];refine⟨hs,Same.refl _ _,λk f hf hS=>?_,λhA=>?_⟩
  ·have := of_decide_eq_true (List.all_eq_true.1 h.2 f (List.mem_of_getElem? hf))
   simp[this]at hS
  simp[h.1.2]at hA
theorem PN{J1 J2:(Nat->Bool)->(Nat->Value)->World->Prop}{st:Nat}(h:Vx st J1 J2 (λ_=>true) s w):J2 (λ_=>true) s w:=by
  unfold Vx at h
  rwa [if_pos rfl]at h
end
theorem GV{x y:Tv}(h:x.cells=y.cells):y=x:=by
  obtain⟨k,t,A,n,c,B,m,e⟩:=x;obtain⟨k',t',A',n',c',B',m',e'⟩:=y;simp only[Tv.cells,List.cons.injEq,Value.int.injEq,Value.string.injEq,Value.slice.injEq,true_and,and_true]at h;obtain⟨rfl,h2,⟨rfl,rfl,rfl⟩,rfl,rfl,rfl⟩:=h;have:t=t':=by
    have:=congrArg (λb:ByteArray=>b.data.toList) h2;simpa using this
  rw[this]
theorem tv_kt{S:Nat->Prop}{w:World}{t:Tree}{x:Tv}(h:Rep S w (Pb t) x.cells):x.k=t.kind/\x.t=t.text:=by
  obtain⟨y,hy,h1,h2,-⟩:=Bj h;obtain rfl:=GV hy;exact⟨h1,h2⟩
theorem KU{S:Nat->Prop}{w:World}:RepL S w ([(0:Int)].map Mi) [J 0]:=RepL.cons_mk (c1:=[J 0]) (c2:=[]) (Jn Ab Ab) RepL.nil_mk
def sl7(b1:Nat)(b2:Nat)(b6:Nat)(A4:Option Addr)(c4:Nat)(A10:Option Addr)(c10:Nat):List (Nat × Value):=[(1,pV b2),(2,I pS),(3,.bool true),(4,.slice A4 1 c4),(5,J 0),(6,pV b6),(7,.bool true),(8,I aS),(9,J 0),(10,.slice A10 1 c10),(11,.bool true)]
def l7(u0:World)(b1:Nat)(A4:Option Addr)(c4:Nat):List Fact:=[(0,53,E2 1 (.cells ([I [97]]:List Value).toArray 9)),(1,54,OI (.agg holeV.toArray)),(2,55,E2 1 (.cells holeV.toArray 25)),(3,56,JE hmT),(4,57,OI (.agg (LG b1).cells.toArray)),(5,58,E2 1 (.cells (LG b1).cells.toArray 29)),(6,59,MN u0 zeroT ([(0:Int)].map Mi) (10)),(7,52,MN u0 zeroT ([(0:Int)].map Mi) (10)),(8,60,mvF u0 zeroT),(9,61,slF u0 ([(0:Int)].map Mi)),(10,62,OI (J 10))]
theorem ph7{u0:World}{b1:Nat}{b2:Nat}{b6:Nat}{A4:Option Addr}{c4:Nat}{A10:Option Addr}{c10:Nat}:Ph Z1 (sl7 b1 b2 b6 A4 c4 A10 c10) (11,12) (l7 u0 b1 A4 c4):=⟨by unfold l7;repeat (first|exact StabG.nil|refine StabG.cons ?_ ?_|exact P0|exact ON|exact CP|exact OC|exact BU|exact K1),by unfold l7;repeat (first|exact StabN.nil|refine StabN.cons ?_ ?_|exact Q1|exact EP|exact YO|exact MA|exact UY|exact U0),by kernel_rfl,by kernel_rfl,Z1_st⟩
theorem ph7b{u0:World}{b1:Nat}{b2:Nat}{b6:Nat}{A4:Option Addr}{c4:Nat}{A10:Option Addr}{c10:Nat}:Ph (Z2 u0 zeroT) (sl7 b1 b2 b6 A4 c4 A10 c10) (11,12) (l2 u0 zeroT ([(0:Int)].map Mi) (10) (7,52) 13 (61,62) 14 (13,14)):=⟨.cons OC (.cons K1 (.cons P0 (.cons K1 (.cons P0 .nil)))),.cons MA (.cons U0 (.cons Q1 (.cons U0 (.cons Q1 .nil)))),by kernel_rfl,by kernel_rfl,Z2_st⟩
def sl8(b1:Nat)(b2:Nat)(b6:Nat)(A4:Option Addr)(c4:Nat)(A10:Option Addr)(c10:Nat)(bt7:Nat)(A7:Option Addr)(c7:Nat):List (Nat × Value):=[(1,pV b2),(2,I pS),(3,.bool true),(4,.slice A4 1 c4),(5,J 0),(6,pV b6),(7,.bool true),(8,I aS),(9,J 0),(10,.slice A10 1 c10),(11,.bool true),(12,pV bt7),(13,.slice A7 1 c7),(14,J 10)]
def l8(u0:World)(b1:Nat)(A4:Option Addr)(c4:Nat):List Fact:=[(0,64,E2 1 (.cells ([I [97]]:List Value).toArray 9)),(1,65,OI (.agg holeV.toArray)),(2,66,E2 1 (.cells holeV.toArray 25)),(3,67,JE hmT),(4,68,OI (.agg (LG b1).cells.toArray)),(5,69,E2 1 (.cells (LG b1).cells.toArray 29)),(6,70,OI (.slice A4 1 c4)),(7,71,MN u0 WA [] (0)),(8,63,MN u0 WA [] (0)),(9,72,mvF u0 WA),(10,73,slF u0 []),(11,74,OI (J 0))]
theorem ph8{u0:World}{b1:Nat}{b2:Nat}{b6:Nat}{A4:Option Addr}{c4:Nat}{A10:Option Addr}{c10:Nat}{bt7:Nat}{A7:Option Addr}{c7:Nat}:Ph Z1 (sl8 b1 b2 b6 A4 c4 A10 c10 bt7 A7 c7) (12,15) (l8 u0 b1 A4 c4):=⟨by unfold l8;repeat (first|exact StabG.nil|refine StabG.cons ?_ ?_|exact P0|exact ON|exact CP|exact OC|exact BU|exact K1),by unfold l8;repeat (first|exact StabN.nil|refine StabN.cons ?_ ?_|exact Q1|exact EP|exact YO|exact MA|exact UY|exact U0),by kernel_rfl,by kernel_rfl,Z1_st⟩
theorem ph8b{u0:World}{b1:Nat}{b2:Nat}{b6:Nat}{A4:Option Addr}{c4:Nat}{A10:Option Addr}{c10:Nat}{bt7:Nat}{A7:Option Addr}{c7:Nat}:Ph (Z2 u0 WA) (sl8 b1 b2 b6 A4 c4 A10 c10 bt7 A7 c7) (12,15) (l2 u0 WA [] (0) (8,63) 14 (73,74) 15 (16,17)):=⟨.cons OC (.cons K1 (.cons P0 (.cons K1 (.cons P0 .nil)))),.cons MA (.cons U0 (.cons Q1 (.cons U0 (.cons Q1 .nil)))),by kernel_rfl,by kernel_rfl,Z2_st⟩
theorem IS(w0:World)(hG:Gl w0):Calls prog 6 #[] w0 (Dd λv w'=>v=.bool true/\Same [] w0 w'):=by
  refine Ia func6 O ntmps6 Eb (args_0) ?_;have hF:=FR.start w0 [];refine Ga (Ha ?_);refine Ba (Db O) (Ta ?_);refine Fa (Ga ?_);refine Ha (Rl 1 hF (Nb (cs:=#[I [97]]) yZ sZ qX Ab Ab Ub) ?_);intro b1 w hb1 hF hE;refine Oa hF (Pl (v':=.agg (HP 49).cells.toArray) (Y8 1 Aa Aa _ (hG.ext hF.same)) Ub) (Na DA O O) ?_;intro w hF;refine Oa hF (SI (HP 49) _) (Na PZ O O) ?_;intro w hF;refine Oa hF (Pl (v':=.agg (HP 50).cells.toArray) (Y8 2 Aa Aa _ (hG.ext hF.same)) Ub) (Na DA O O) ?_;intro w hF;refine Oa hF (SI (HP 50) _) (Na PZ O O) ?_;intro w hF;refine Ka (w':=w) (v:=.agg #[W b1 1 1,J 3,.bool true,J 3,I [49],aQ,aQ,.bool true,J 3,I [50],aQ,aQ,.bool false,J 0,I [],aQ,aQ]) Ub (Gg hF zeroValue29 pZ O ?_);intro b2 w hb2 hF hE;refine Ta (Fa ?_);refine Ga (Ha ?_);refine Zb (Of dZ pZ O hF.F 0 O O) (Oa hF (Pl (v':=.tuple #[I pS,.bool true]) (Zv cS (LG b1) _ _ (VO (hF.heap (i:=1) O)) Pr (hG.ext hF.same)) (by rw[TE])) (Na KR O O) ?_);intro w hF;refine Ba (Qk O) (Ba (Iy O O) ?_);refine Ba (Ao O O) (Ba (Fd O) ?_);refine Ba (Db O) (Ta ?_);refine Fa (Ga ?_);refine Md (zs:=.of []) (.free 0 (cQ [1,2,3] (bQ [4,5,6,7,8] .nil))) hF ?_;intro w hF;refine Fg O (Of dZ pZ O C0 0 O O) (Ed hF (Pl (v':=.agg (HP 57).cells.toArray) (Y8 9 Aa Aa _ (hG.ext hF.same)) Ub) O (Na DA O O) ?_);intro w hF;refine⟨hF,?_⟩;refine Ed hF (SI (HP 57) _) O (Na PZ O O) ?_;intro w hF;refine⟨hF,?_⟩;refine Pd O (NZ [] none 0 cS (LG b1) s9 ⟨true,HP 57⟩ (λ_=>True) (λ_=>True) (λ_=>True) _ (Rep.nil_slice 0 Aa none) Ma Ab (VO (hF.heap (i:=1) O)) Pr s9_rep FF (hG.ext hF.same) (by rw[TE];decide)) (Rf en_15 O O O O) ?_;rintro _ w ⟨A4,c4,rfl,hRt,hE⟩;rw[ZS]at hRt ⊢;have hT:=RX.made (ids:=[b2,b1]) hF.same.size (λx hx=>hF.lt_ids (by simpa using hx)) hRt;have hF:=hF.ext hE;clear hE hRt;refine⟨hF,?_⟩;refine Jb O (Qk O) (Jb O (yxl O O) ?_)
  refine Jb O (Tj O O) (Jb O (Lr O) ?_);refine Jb O (Gb O) (Hc ?_);refine Fa (Ga ?_);refine Ha (Ba (Sf O) ?_);refine Zb (Of dZ pZ O hF.F 0 O O) (Lb (IY tS A4 c4 cS (LG b1) _ (λ_=>True) _ hT.rep Y1 Ab (VO (hF.heap (i:=1) O)) Pr (hG.ext hF.same)) (Xa en_16 O O O) ?_);rintro _ w ⟨y,rfl,hRt,hE⟩;rw[Y0]at hRt;rw[V4];have hyt:=tv_kt (Se hRt).2.2.2.2;have hyh:=(Se hRt).1;clear hRt;obtain⟨yh,yk,yt,yA,yn,yc,yB,ym,ye⟩:=y;obtain⟨-,hyt⟩:=hyt;obtain rfl:yh=true:=hyh;obtain rfl:yt=[57]:=hyt;have hT:=hT.ext hE;have hF:=hF.ext hE;refine Ba (Qk O) (Ba (Iw O O) ?_);refine Ba (Ao O O) (Gg hF mX oZ O ?_);intro b3 w hb3 hF hE;have hT:=hT.alloc hE hb3;refine Ba (Db O) (Ta ?_);refine Fa (Ga ?_);refine Ha (Ba (Sf O) ?_);refine Lb (Pl (v':=.tuple #[I aS,J 0]) (DX tS A4 c4 _ _ hT.rep P6 (hG.ext hF.same)) (by rw[UL])) (Na en_11 O O) ?_;rintro _ w ⟨rfl,hE⟩;have hF:=hF.ext hE;have hT:=hT.ext hE;refine Ba (Qk O) (Ba (Iy O O) ?_);refine Ba (Tj O O) (Ba (Fd O) ?_);refine Ba (Gb O) (Ta ?_);refine Fa (Ga ?_);refine Ha (Ba (Bc O) ?_);refine Lb (load_c aS NV small_al GQ UD WY (by rw[NT];exact P6) _ (hG.ext hF.same)) (Na en_12 O O) ?_;rintro _ w ⟨A10,c10,rfl,hU,hE⟩;rw[LL]at hU ⊢;have hT:=(hT.ext hE).rep.anyS;have hF:=hF.ext hE;refine Ba (Qk O) (Ba (yxl O O) ?_);refine Ba (Ao O O) (Ba (Lr O) ?_);refine Ba (Db O) (Ta ?_);refine Fa (Ga ?_);refine Bf (λσ w=>∃(q7:Tv),∃(A7:Option Addr),∃(c7:Nat),∃(bt7:Nat),(Rep (λ_=>True) w (Mh tS) [.slice A4 1 c4])/\(Rep (λ_=>True) w (Mh tS) [.slice A10 1 c10])/\(Rep (λ_=>True) w (Pb zeroT) q7.cells)/\(Rep (λ_=>True) w (.slice ([(0:Int)].map Mi)) [.slice A7 1 c7])/\AllEq σ [(1,V b2),(2,I pS),(3,.bool true),(4,.slice A4 1 c4),(5,J 0),(6,V b3),(7,.bool true),(8,I aS),(9,J 0),(10,.slice A10 1 c10),(11,.bool true),(12,V bt7),(13,.slice A7 1 c7),(14,J 10)]/\FR w0 [] [(bt7,.cells (q7.cells).toArray 25),(b3,.cells #[.bool true,J yk,I [57],.slice yA yn yc,.slice yB ym ye] 27),(b2,.cells #[W b1 1 1,J 3,.bool true,J 3,I [49],aQ,aQ,.bool true,J 3,I [50],aQ,aQ,.bool false,J 0,I [],aQ,aQ] 29),(b1,.cells #[I [97]] 9)] w) ?_ ?_
  ·
   have hF:=hF.drew;have hT:=hT.ext (Same.drew w);have hU:=hU.ext (Same.drew w);have hG0:=hG;have hG:=hG0.ext hF.same;have hb1:=hF.heap (i:=2) rfl;have hp:=@ph7 w0 b1 b2 b3 A4 c4 A10 c10;have hq:=@ph7b w0 b1 b2 b3 A4 c4 A10 c10;refine c_all 15 (Inv:=Vx 12 (IG Z1 w.drew (sl7 b1 b2 b3 A4 c4 A10 c10) (11,12) (l7 w0 b1 A4 c4)) (IG (Z2 w0 zeroT) w.drew (sl7 b1 b2 b3 A4 c4 A10 c10) (11,12) (l2 w0 zeroT ([(0:Int)].map Mi) (10) (7,52) 13 (61,62) 14 (13,14)))) Ub Ub ?_ ?_ ?_
   ·exact T_ ⟨O,O,O,O,O,O,O,O,O,O,O,trivial⟩ O
   ·exact (below (below (below (below (below (below (below (below (below (below (below (below (below (below (below below0
      (.ahead (RQ [] hp 0 rfl rfl (λS s w hd hI=>trivial) λs w=>Nb yZ sZ qX Ab Ab Ub)))
      (.ahead (Lu hp 1 rfl rfl λS s w hd hI=>⟨_,w,by kernel_rfl,Same.refl _ _,rfl⟩)))
      (.ahead (RQ [(54,.agg holeV.toArray)] hp 2 rfl rfl (λS s w hd hI=>⟨hI.dep hd 1 rfl rfl,trivial⟩) λs w=>Nb zZ nZ lX Ab Ab Ub)))
      (.ahead (UX hp 3 rfl rfl λS s w hd hI=>⟨IB hI hd 0 rfl rfl rfl Sr rfl rfl,IB hI hd 2 rfl rfl rfl DG rfl rfl⟩)))
      (.ahead (Lu hp 4 rfl rfl λS s w hd hI=>⟨_,w,Wa (l:=(LG b1).cells) dZ pZ ((Zl rfl).trans hI.1.1) rfl ((hF.ext hI.2.1).part 1 0 rfl rfl),Same.refl _ _,rfl⟩)))
      (.ahead (RQ [(57,.agg (LG b1).cells.toArray)] hp 5 rfl rfl (λS s w hd hI=>⟨hI.dep hd 4 rfl rfl,trivial⟩) λs w=>Nb iX pZ zeroValue29 Ab Ab Ub)))
      (.ahead (st_se hp 6 3 5 rfl rfl rfl rfl rfl rfl rfl rfl (λS s w hd hI=>rfl) (λx bc w hs hx hb=>ZP x hx (Hr hb1 hs) hb (hG.ext hs)) (λb w h=>Wb h))))
      (.ahead (g_cp hp 7 6 rfl rfl rfl rfl rfl)))
      (.ahead (st_x0 hp 8 7 rfl rfl rfl rfl rfl)))
      (.both (DO hp 9 7 rfl rfl rfl rfl rfl) (DO hq 1 0 rfl rfl rfl rfl rfl) rfl))
      (.both (SM hp 10 7 rfl rfl rfl rfl rfl) (SM hq 2 0 rfl rfl rfl rfl rfl) rfl))
      (.ahead (g_al hp rfl lX rfl)))
      (st_st 7 8 9 10 rfl rfl rfl rfl rfl rfl rfl))
      (.behind (g_as hq 3 1 rfl rfl rfl rfl rfl)))
      (.behind (g_as hq 4 2 rfl rfl rfl rfl rfl)))
   intro s w' hJ;obtain⟨h1,h2,h3,h4⟩:=PN hJ;obtain⟨bt,eb,⟨q,hq,hV⟩,hb⟩:=h4 rfl;obtain⟨A,c,e5,hC⟩:=h3 3 _ rfl rfl;have e6:=h3 4 _ rfl rfl;exact Hb ⟨q,A,c,bt,(hT.ext h2),(hU.ext h2),hV.rep.anyS,hC.rep.anyS,⟨h1.1,h1.2.1,h1.2.2.1,h1.2.2.2.1,h1.2.2.2.2.1,h1.2.2.2.2.2.1,h1.2.2.2.2.2.2.1,h1.2.2.2.2.2.2.2.1,h1.2.2.2.2.2.2.2.2.1,h1.2.2.2.2.2.2.2.2.2.1,h1.2.2.2.2.2.2.2.2.2.2.1,eb,e5,e6,trivial⟩,hF.cons_ext h2 hq hb⟩
  rintro σ w ⟨q7,A7,c7,bt7,hT,hU,hV7,hC7,hs,hF⟩;refine Eg.slots hs ?_;clear hs;intro σ;refine Fa (Ga ?_);refine Bf (λσ w=>∃(q8:Tv),∃(bt8:Nat),(Rep (λ_=>True) w (Mh tS) [.slice A4 1 c4])/\(Rep (λ_=>True) w (Mh tS) [.slice A10 1 c10])/\(Rep (λ_=>True) w (Pb zeroT) q7.cells)/\(Rep (λ_=>True) w (.slice ([(0:Int)].map Mi)) [.slice A7 1 c7])/\(Rep (λ_=>True) w (Pb WA) q8.cells)/\AllEq σ [(2,I pS),(3,.bool true),(4,.slice A4 1 c4),(5,J 0),(6,V b3),(7,.bool true),(8,I aS),(9,J 0),(10,.slice A10 1 c10),(11,.bool true),(12,V bt7),(13,.slice A7 1 c7),(14,J 10),(15,V bt8),(17,J 0)]/\FR w0 [] [(bt8,.cells (q8.cells).toArray 25),(bt7,.cells (q7.cells).toArray 25),(b3,.cells #[.bool true,J yk,I [57],.slice yA yn yc,.slice yB ym ye] 27),(b2,.cells #[W b1 1 1,J 3,.bool true,J 3,I [49],aQ,aQ,.bool true,J 3,I [50],aQ,aQ,.bool false,J 0,I [],aQ,aQ] 29),(b1,.cells #[I [97]] 9)] w) ?_ ?_
  ·
   have hF:=hF.drew;have hT:=hT.ext (Same.drew w);have hU:=hU.ext (Same.drew w);have hV7:=hV7.ext (Same.drew w);have hC7:=hC7.ext (Same.drew w);have hG0:=hG;have hG:=hG0.ext hF.same;have hb1:=hF.heap (i:=3) rfl;have hp:=@ph8 w0 b1 b2 b3 A4 c4 A10 c10 bt7 A7 c7;have hq:=@ph8b w0 b1 b2 b3 A4 c4 A10 c10 bt7 A7 c7;refine c_all 16 (Inv:=Vx 13 (IG Z1 w.drew (sl8 b1 b2 b3 A4 c4 A10 c10 bt7 A7 c7) (12,15) (l8 w0 b1 A4 c4)) (IG (Z2 w0 WA) w.drew (sl8 b1 b2 b3 A4 c4 A10 c10 bt7 A7 c7) (12,15) (l2 w0 WA [] (0) (8,63) 14 (73,74) 15 (16,17)))) Ub Ub ?_ ?_ ?_
   ·exact T_ ⟨O,O,O,O,O,O,O,O,O,O,O,O,O,O,trivial⟩ O
   ·exact (below (below (below (below (below (below (below (below (below (below (below (below (below (below (below (below below0
      (.ahead (RQ [] hp 0 rfl rfl (λS s w hd hI=>trivial) λs w=>Nb yZ sZ qX Ab Ab Ub)))
      (.ahead (Lu hp 1 rfl rfl λS s w hd hI=>⟨_,w,by kernel_rfl,Same.refl _ _,rfl⟩)))
      (.ahead (RQ [(65,.agg holeV.toArray)] hp 2 rfl rfl (λS s w hd hI=>⟨hI.dep hd 1 rfl rfl,trivial⟩) λs w=>Nb zZ nZ lX Ab Ab Ub)))
      (.ahead (UX hp 3 rfl rfl λS s w hd hI=>⟨IB hI hd 0 rfl rfl rfl Sr rfl rfl,IB hI hd 2 rfl rfl rfl DG rfl rfl⟩)))
      (.ahead (Lu hp 4 rfl rfl λS s w hd hI=>⟨_,w,Wa (l:=(LG b1).cells) dZ pZ ((Zl rfl).trans hI.1.1) rfl ((hF.ext hI.2.1).part 2 0 rfl rfl),Same.refl _ _,rfl⟩)))
      (.ahead (RQ [(68,.agg (LG b1).cells.toArray)] hp 5 rfl rfl (λS s w hd hI=>⟨hI.dep hd 4 rfl rfl,trivial⟩) λs w=>Nb iX pZ zeroValue29 Ab Ab Ub)))
      (.ahead (g_mv hp 6 rfl rfl 3 rfl rfl)))
      (.ahead (st_se hp 7 3 5 rfl rfl rfl rfl rfl rfl rfl rfl (λS s w hd hI=>(Zl rfl).trans (hI.dep hd 6 rfl rfl)) (λx bc w hs hx hb=>HS x A4 c4 hx (Hr hb1 hs) hb (hT.ext hs) (hG.ext hs)) (λb w h=>Wb h))))
      (.ahead (g_cp hp 8 7 rfl rfl rfl rfl rfl)))
      (.ahead (st_x0 hp 9 8 rfl rfl rfl rfl rfl)))
      (.both (DO hp 10 8 rfl rfl rfl rfl rfl) (DO hq 1 0 rfl rfl rfl rfl rfl) rfl))
      (.both (SM hp 11 8 rfl rfl rfl rfl rfl) (SM hq 2 0 rfl rfl rfl rfl rfl) rfl))
      (.ahead (g_al hp rfl lX rfl)))
      (st_st 8 9 10 11 rfl rfl rfl rfl rfl rfl rfl))
      (.behind (g_as hq 3 1 rfl rfl rfl rfl rfl)))
      (.behind (g_as hq 4 2 rfl rfl rfl rfl rfl)))
   intro s w' hJ;obtain⟨h1,h2,h3,h4⟩:=PN hJ;obtain⟨bt,eb,⟨q,hq,hV⟩,hb⟩:=h4 rfl;obtain⟨A,c,e5,hC⟩:=h3 3 _ rfl rfl;have e6:=h3 4 _ rfl rfl;exact Hb ⟨q,bt,(hT.ext h2),(hU.ext h2),(hV7.ext h2),(hC7.ext h2),hV.rep.anyS,⟨h1.2.1,h1.2.2.1,h1.2.2.2.1,h1.2.2.2.2.1,h1.2.2.2.2.2.1,h1.2.2.2.2.2.2.1,h1.2.2.2.2.2.2.2.1,h1.2.2.2.2.2.2.2.2.1,h1.2.2.2.2.2.2.2.2.2.1,h1.2.2.2.2.2.2.2.2.2.2.1,h1.2.2.2.2.2.2.2.2.2.2.2.1,h1.2.2.2.2.2.2.2.2.2.2.2.2.1,h1.2.2.2.2.2.2.2.2.2.2.2.2.2.1,eb,e6,trivial⟩,hF.cons_ext h2 hq hb⟩
  rintro σ w ⟨q8,bt8,hT,hU,hV7,hC7,hV8,hs,hF⟩;refine Eg.slots hs ?_;clear hs;intro σ;refine Fa (Ga ?_);refine Ke (.of []) (bQ [0,1,2,3,4,5,6,7,8,9,10,11,12,13,14,15,16,17,18,19,20,21,22,23,24,25,26,27,28,29,30,31,32,33,34,35] (.act 36 (bQ [37,38,39,40,41,42,43,44] (.act 45 (.act 46 (bQ [47,48,49,50,51,52,53,54,55,56,57] (.alt 58 (cQ [59,60,61,62] (.free 63 (.free 64 .nil))) (.act 59 (.alt 58 (cQ [60,61,62] (.free 63 (.free 64 .nil))) (cQ [60,58,61,62] (.free 63 (.free 64 .nil)))))))))))) hF ?_;intro w hF hE;have hT:=hT.ext hE;have hU:=hU.ext hE;have hV7:=hV7.ext hE;have hC7:=hC7.ext hE;have hV8:=hV8.ext hE;refine⟨λwq=>FR w0 [] _ wq,hF,?_⟩;refine Jb O (Vb O) (Jb O (Vb O) ?_);refine Jb O (Bc O) (Cb O (v:=.bool true) (λw hC=>Lj (QA O O) (O)) ?_);refine Jb O (Tb O O) (Jb O (Vb O) ?_);refine Jb O (Za O) (Cb O (v:=.bool true) (λw hC=>Lj (Ut O O) (O)) ?_);refine Jb O (Tb O O) (Jb O (Vb O) ?_);refine Jb O (Vb O) (Jb O (Tb O O) ?_);refine Jb O (Vb O) (Jb O (Ob Qh O) ?_);refine Fg O (N3 fZ O C0 2 O O) (Jb O (Tb O O) ?_);refine Jb O (Vb O) (Jb O (Ob Ag O) ?_);refine Jb O (Ob Wd O) (Fg O (Pk jZ O C0 2 O O) ?_);refine Cb O (v:=.bool true) (λw hC=>Lj (QA O O) (O)) (Jb O (Tb O O) ?_);refine Jb O (Vb O) (Jb O (Za O) ?_);refine Cb O (v:=.bool true) (λw hC=>Lj (Ut O O) (O)) (Jb O (Tb O O) ?_);refine Jb O (Vb O) (Jb O (Bc O) ?_);refine Cb O (v:=.bool true) (λw hC=>Lj (QA O O) (O)) (Jb O (Tb O O) ?_);refine Jb O (Vb O) (Jb O (Vb O) ?_);refine Jb O (Tb O O) (Jb O (Vb O) ?_);refine Jb O (Sf O) (Jb O (Sf O) ?_);refine Pd O (same27_c tS A4 A10 c4 c10 _ _ _ hT hU) (Xa en_24 O O O) ?_;rintro _ w ⟨rfl,hE⟩;have hF:=hF.ext hE;have hT:=hT.ext hE;have hU:=hU.ext hE;have hV7:=hV7.ext hE;have hC7:=hC7.ext hE;have hV8:=hV8.ext hE;refine⟨hF,?_⟩;refine Jb O (Tb O O) (Jb O (Vb O) ?_)
  refine Jb O (Ob Xd O) (Fg O (Th eZ O C0 1 O O) ?_);refine Cb O (v:=.bool true) (λw hC=>Lj (Ut O O) ((tv_kt hV7).1)) (Jb O (Tb O O) ?_);refine Jb O (Vb O) (Jb O (Sf O) ?_);refine Kg 1 O hF (Nb (cs:=#[J 0]) gX sizeOf3 oX Ab Ab Ub) ?_;intro b4 w hb4 hF hE;have hT:=hT.ext hE;have hU:=hU.ext hE;have hV7:=hV7.ext hE;have hC7:=hC7.ext hE;have hV8:=hV8.ext hE;refine⟨hF.drop 1,?_⟩;refine Pd O (Pl (v':=.bool true) (ints_c _ _ _ [0] [0] _ _ _ _ hC7 (hF.rowS (S:=λ_=>True) 0 O (n:=1) KU O Aa)) (congrArg Value.bool (decide_eq_true O))) (Xa en_25 O O O) ?_;rintro _ w ⟨rfl,hE⟩;have hF:=hF.ext hE;have hT:=hT.ext hE;have hU:=hU.ext hE;have hV7:=hV7.ext hE;have hC7:=hC7.ext hE;have hV8:=hV8.ext hE;refine⟨hF.drop 1,?_⟩;refine Jb O (Tb O O) (Jb O (Vb O) ?_);refine Jb O (Za O) (Cb O (v:=.bool true) (λw hC=>Lj (Ut O O) (O)) ?_);refine Jb O (Tb O O) (Jb O (Vb O) ?_);refine Jb O (Za O) (Cb O (v:=.bool true) (λw hC=>Lj (Ut O O) (O)) ?_);refine Jb O (Tb O O) (Jb O (Vb O) ?_);refine Fg O (Of aZ nZ O C0 0 O O) (Ky ?_ ?_)
  ·
   refine Kg 1 O hF (Nb (cs:=#[I [97]]) yZ sZ qX Ab Ab Ub) ?_;intro b5 w hb5 hF hE;have hT:=hT.ext hE;have hU:=hU.ext hE;have hV7:=hV7.ext hE;have hC7:=hC7.ext hE;have hV8:=hV8.ext hE;refine⟨hF.drop 2,?_⟩;refine Pd O (Pl (v':=.agg (HP 57).cells.toArray) (Y8 9 Aa Aa _ (hG.ext hF.same)) Ub) (Na DA O O) ?_;rintro _ w ⟨rfl,hE⟩;have hF:=hF.ext hE;have hT:=hT.ext hE;have hU:=hU.ext hE;have hV7:=hV7.ext hE;have hC7:=hC7.ext hE;have hV8:=hV8.ext hE;refine⟨hF.drop 2,?_⟩;refine Kg 1 O hF (Nb (cs:=#[J 3,I [57],aQ,aQ]) zZ nZ lX Ab Ab Ub) ?_;intro b6 w hb6 hF hE;have hT:=hT.ext hE;have hU:=hU.ext hE;have hV7:=hV7.ext hE;have hC7:=hC7.ext hE;have hV8:=hV8.ext hE;refine⟨hF.drop 3,?_⟩;refine Pd O (WP (some ⟨b5,0,none⟩) 1 1 (some ⟨b6,0,none⟩) 1 1 _) (Xa HN O O O) ?_;rintro _ w ⟨rfl,hE⟩;have hF:=hF.ext hE;have hT:=hT.ext hE;have hU:=hU.ext hE;have hV7:=hV7.ext hE;have hC7:=hC7.ext hE;have hV8:=hV8.ext hE;refine⟨hF.drop 3,?_⟩;refine Pd O (Pl (v':=.bool true) (K4 WA WA _ _ _ _ _ hV8 (show Rep (λ_=>True) _ (Pb WA) [J 6,I [],W b5 1 1,W b6 1 1] from Rep.tree_mk ⟨by decide,by decide⟩ Ma (hF.rowS (S:=λ_=>True) 1 O (n:=1) Sr O Aa).anyS (hF.rowS (S:=λ_=>True) 0 O (n:=1) Z5 O Aa).anyS)) (congrArg Value.bool (Xj _))) (Xa NH O O O) ?_;rintro _ w ⟨rfl,hE⟩;have hF:=hF.ext hE;have hT:=hT.ext hE;have hU:=hU.ext hE;have hV7:=hV7.ext hE;have hC7:=hC7.ext hE;have hV8:=hV8.ext hE;refine⟨hF.drop 3,?_⟩;refine Jb O (Tb O O) (Jb O (Db O) ?_);refine Hc (Fa ?_);refine Gc (v:=.bool true) O O ?_;exact⟨O,hF.same⟩
  refine Pd O (Pl (v':=.agg (HP 57).cells.toArray) (Y8 9 Aa Aa _ (hG.ext hF.same)) Ub) (Na DA O O) ?_;rintro _ w ⟨rfl,hE⟩;have hF:=hF.ext hE;have hT:=hT.ext hE;have hU:=hU.ext hE;have hV7:=hV7.ext hE;have hC7:=hC7.ext hE;have hV8:=hV8.ext hE;refine⟨hF.drop 1,?_⟩;refine Ky ?_ ?_
  ·
   refine Kg 1 O hF (Nb (cs:=#[I [97]]) yZ sZ qX Ab Ab Ub) ?_;intro b7 w hb7 hF hE;have hT:=hT.ext hE;have hU:=hU.ext hE;have hV7:=hV7.ext hE;have hC7:=hC7.ext hE;have hV8:=hV8.ext hE;refine⟨hF.drop 2,?_⟩;refine Kg 1 O hF (Nb (cs:=#[J 3,I [57],aQ,aQ]) zZ nZ lX Ab Ab Ub) ?_;intro b8 w hb8 hF hE;have hT:=hT.ext hE;have hU:=hU.ext hE;have hV7:=hV7.ext hE;have hC7:=hC7.ext hE;have hV8:=hV8.ext hE;refine⟨hF.drop 3,?_⟩;refine Pd O (WP (some ⟨b7,0,none⟩) 1 1 (some ⟨b8,0,none⟩) 1 1 _) (Xa HN O O O) ?_;rintro _ w ⟨rfl,hE⟩;have hF:=hF.ext hE;have hT:=hT.ext hE;have hU:=hU.ext hE;have hV7:=hV7.ext hE;have hC7:=hC7.ext hE;have hV8:=hV8.ext hE;refine⟨hF.drop 3,?_⟩;refine Pd O (Pl (v':=.bool true) (K4 WA WA _ _ _ _ _ hV8 (show Rep (λ_=>True) _ (Pb WA) [J 6,I [],W b7 1 1,W b8 1 1] from Rep.tree_mk ⟨by decide,by decide⟩ Ma (hF.rowS (S:=λ_=>True) 1 O (n:=1) Sr O Aa).anyS (hF.rowS (S:=λ_=>True) 0 O (n:=1) Z5 O Aa).anyS)) (congrArg Value.bool (Xj _))) (Xa NH O O O) ?_;rintro _ w ⟨rfl,hE⟩;have hF:=hF.ext hE;have hT:=hT.ext hE;have hU:=hU.ext hE;have hV7:=hV7.ext hE;have hC7:=hC7.ext hE;have hV8:=hV8.ext hE;refine⟨hF.drop 3,?_⟩;refine Jb O (Tb O O) (Jb O (Db O) ?_);refine Hc (Fa ?_);refine Gc (v:=.bool true) O O ?_;exact⟨O,hF.same⟩
  refine Kg 1 O hF (Nb (cs:=#[J 3,I [57],aQ,aQ]) zZ nZ lX Ab Ab Ub) ?_;intro b9 w hb9 hF hE;have hT:=hT.ext hE;have hU:=hU.ext hE;have hV7:=hV7.ext hE;have hC7:=hC7.ext hE;have hV8:=hV8.ext hE;refine⟨hF.drop 2,?_⟩;refine Kg 1 O hF (Nb (cs:=#[I [97]]) yZ sZ qX Ab Ab Ub) ?_;intro b10 w hb10 hF hE;have hT:=hT.ext hE;have hU:=hU.ext hE;have hV7:=hV7.ext hE;have hC7:=hC7.ext hE;have hV8:=hV8.ext hE;refine⟨hF.drop 3,?_⟩;refine Pd O (WP (some ⟨b10,0,none⟩) 1 1 (some ⟨b9,0,none⟩) 1 1 _) (Xa HN O O O) ?_;rintro _ w ⟨rfl,hE⟩;have hF:=hF.ext hE;have hT:=hT.ext hE;have hU:=hU.ext hE;have hV7:=hV7.ext hE;have hC7:=hC7.ext hE;have hV8:=hV8.ext hE;refine⟨hF.drop 3,?_⟩;refine Pd O (Pl (v':=.bool true) (K4 WA WA _ _ _ _ _ hV8 (show Rep (λ_=>True) _ (Pb WA) [J 6,I [],W b10 1 1,W b9 1 1] from Rep.tree_mk ⟨by decide,by decide⟩ Ma (hF.rowS (S:=λ_=>True) 0 O (n:=1) Sr O Aa).anyS (hF.rowS (S:=λ_=>True) 1 O (n:=1) Z5 O Aa).anyS)) (congrArg Value.bool (Xj _))) (Xa NH O O O) ?_;rintro _ w ⟨rfl,hE⟩;have hF:=hF.ext hE;have hT:=hT.ext hE;have hU:=hU.ext hE;have hV7:=hV7.ext hE;have hC7:=hC7.ext hE;have hV8:=hV8.ext hE;refine⟨hF.drop 3,?_⟩;refine Jb O (Tb O O) (Jb O (Db O) ?_);refine Hc (Fa ?_);refine Gc (v:=.bool true) O O ?_;exact⟨O,hF.same⟩
end Go.Scarf
