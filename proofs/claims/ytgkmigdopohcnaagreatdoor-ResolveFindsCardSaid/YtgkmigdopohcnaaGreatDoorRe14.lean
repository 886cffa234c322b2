/- A part of the proof. -/
import Derived.Test.YtgkmigdopohcnaaGreatDoorSs
import Derived.Test.YtgkmigdopohcnaaGreatDoorIv
set_option linter.all false
set_option maxHeartbeats 8000000
set_option maxRecDepth 10000
namespace Go.Scarf
open Go.RowKit Go.Proofs Go.Proofs.Tryz
abbrev DJ(i:UInt8):Tv:=⟨3,[i],none,0,0,none,0,0⟩
abbrev EB(b:Nat):Cv:=⟨some ⟨b,0,none⟩,1,1,3,⟨true,DJ 49⟩,⟨true,DJ 50⟩,⟨false,L6⟩⟩
abbrev holeV:List Value:=[J 7,I [48],aQ,aQ]
theorem F9(i:UInt8){S:Nat->Prop}{w:World}:Rep S w (Hb (RZ i)) (DJ i).cells:=Rep.tree_mk ⟨by decide,by decide⟩ La (Rep.nil_slice 0 Ba none) (Rep.nil_slice 0 Ba none)
theorem s9_rep{S:Nat->Prop}{w:World}:Rep S w (Od s9) (Sv.cells ⟨true,DJ 57⟩):=P0 (s:=s9) (F9 57)
theorem Ip{w:World}:RepL (λ_=>True) w ([([97]:Str)].map Ol) [I [97]]:=RepL.cons_mk (c1:=[I [97]]) (c2:=[]) (Rep.lit_mk (v:=I [97]) (show ([97]:Str).length<=9223372036854775807 by decide)) RepL.nil_mk
theorem WB{w:World}:RepL (λ_=>True) w (Td [Z_ 0]) holeV:=by
  have e:Z_ 0=.node 7 [48] [] []:=by kernel_rfl
  rw[e];exact RepL.cons_mk (c1:=holeV) (c2:=[]) (Rep.tree_mk ⟨by decide,by decide⟩ La (Rep.nil_slice 0 Ba none) (Rep.nil_slice 0 Ba none)) RepL.nil_mk
theorem M0{w:World}:RepL (λ_=>True) w (Td [RZ 57]) (DJ 57).cells:=RepL.cons_mk (c2:=[]) (F9 57) RepL.nil_mk
theorem ZI{w:World}{b:Nat}{T:TypeId}(h:w.heap[b]? = some (.cells #[I [97]] T)):CvOf (λ_=>True) w cS (EB b) :=
  ⟨rfl,rfl,G8 (n:=1) (l:=[I [97]]) h Ip rfl Ba,P0 (s:=⟨true,RZ 49⟩) (F9 49),P0 (s:=⟨true,RZ 50⟩) (F9 50),Wm⟩
theorem CvOf.rep{S:Nat->Prop}{w:World}{c:Cf}{q:Cv}(h:CvOf S w c q)(hk:-1000<=c.cls/\c.cls<=1000):Rep S w (D5 c) q.cells:=by
  obtain⟨A,n,c',k,x,y,z⟩:=q;obtain⟨h1,h2,h3,h4,h5,h6⟩:=h;obtain rfl:=h2;unfold D5;refine Rep.agg_mk (RepL.cons_mk (c1:=[.slice A n c']) h3 (RepL.cons_mk (c1:=[J c.cls]) (Rep.lit_mk (okI (z:=c.cls) Ba Ba)) (RepL.cons_mk h4 (RepL.cons_mk h5 (RepL.cons_mk (c2:=[]) h6 RepL.nil_mk)))))
theorem CK{w:World}{b bc T:Nat}(h:w.heap[b]? = some (.cells #[I [97]] T))(hc:w.heap[bc]? = some (.cells (EB b).cells.toArray 29)):Rep (λ_=>True) w (.slice ([cS].map D5)) [W bc 1 1] :=
  G8 (n:=1) hc (RepL.cons_mk (c2:=[]) ((ZI h).rep Ta) RepL.nil_mk) rfl Ba
def SetQ(w0:World)(t:Tree)(ds:List D)(e:Int)(v:Value)(w':World):Prop:=∃(q:Tv)(A:Option Addr)(c:Nat),v=.tuple #[.agg q.cells.toArray,.slice A ds.length c,J e]/\Rep (Btw w0 w') w' (Hb t) q.cells/\Rep (Btw w0 w') w' (.slice ds) [.slice A ds.length c]/\Same [] w0 w'
theorem BM{w0:World}{b bc T:Nat}(x:Tv)(hx:Rep (λ_=>True) w0 (Hb hmT) x.cells)(h:w0.heap[b]? = some (.cells #[I [97]] T))(hc:w0.heap[bc]? = some (.cells (EB b).cells.toArray 29))(hG:Gl w0) :
    Calls prog 22 #[.agg x.cells.toArray,W bc 1 1,aQ,J 1] w0 (Pc λv w'=>SetQ w0 zeroT ([(0:Int)].map Jh) 10 v w') :=
  (IB hmT x cS _ 1 [] none 0 (λ_=>True) (λ_=>True) (λ_=>True) w0 hx (CK h hc) (Rep.nil_slice 0 Ba none) La Ta Bp Xx (by rw[show Rh (Zf [] cS).1=noS from by kernel_rfl];exact ZM) P5 Ev.1 Ev.2 B8 CB hG).mono λe w'' ⟨v,he,hv⟩=>⟨v,he,by
    rcases hv with ⟨-,A,c,rfl,hr,hs⟩|⟨hf,-⟩
    ·exact⟨L6,A,c,O,Cm _ _,hr,hs⟩
    rw[R_]at hf;cases hf⟩
theorem VN{w0:World}{b bc T:Nat}(x:Tv)(A:Option Addr)(c:Nat)(hx:Rep (λ_=>True) w0 (Hb hmT) x.cells)(h:w0.heap[b]? = some (.cells #[I [97]] T))(hc:w0.heap[bc]? = some (.cells (EB b).cells.toArray 29))(hT:Rep (λ_=>True) w0 (Hf tS) [.slice A 1 c])(hG:Gl w0) :
    Calls prog 22 #[.agg x.cells.toArray,W bc 1 1,.slice A 1 c,J 1] w0 (Pc λv w'=>SetQ w0 A8 [] 0 v w') :=
  (IB hmT x cS _ 1 tS A c (λ_=>True) (λ_=>True) (λ_=>True) w0 hx (CK h hc) hT Zx Ta Bp Xx (by rw[Jy];exact SM) P5 Ev.1 Ev.2 JB CB hG).mono λe w'' ⟨v,he,hv⟩=>⟨v,he,by
    rcases hv with ⟨hf,-⟩|⟨-,q,rfl,hr,hs⟩
    ·rw[Q0]at hf;cases hf
    rw[Jy]at hr ⊢;rw[show Px cS.cls s9=Px 3 s9 from rfl,UO]at hr ⊢;exact⟨q,none,0,O,hr,Rep.nil_slice 0 Ba none,hs⟩⟩
def NV:Option Value->List Nat
  | some (.pointer (some a))=>[a.block]
  | _=>[]
def VA(t:Tree):Option Value->Value->World->Prop:=λ_ u w=>∃x:Tv,u=.agg x.cells.toArray/\Rep (λ_=>True) w (Hb t) x.cells
def UJ(u0:World)(t:Tree)(ds:List D)(e:Int):Option Value->Value->World->Prop:=λa u w=>∃(q:Tv)(A:Option Addr)(c:Nat),u=.tuple #[.agg q.cells.toArray,.slice A ds.length c,J e]/\RX (wE u0) (NV a) w [Hb t] q.cells/\RX (wE u0) (NV a) w [.slice ds] [.slice A ds.length c]
def OZ(u0:World)(t:Tree):Option Value->Value->World->Prop:=λa u w=>∃q:Tv,u=.agg q.cells.toArray/\RX (wE u0) (NV a) w [Hb t] q.cells
def PV(u0:World)(ds:List D):Option Value->Value->World->Prop:=λa u w=>∃(A:Option Addr)(c:Nat),u=.slice A ds.length c/\RX (wE u0) (NV a) w [.slice ds] [.slice A ds.length c]
def isSl(ds:List D)(u:Value)(w:World):Prop:=∃A m c,u=.slice A m c/\Rep (λ_=>True) w (.slice ds) [.slice A m c]
abbrev pV(b:Nat):Value:=V b
section
variable {u0:World}{t:Tree}{ds:List D}{e:Int}
theorem QK:∀a u w w',Same [] w w'->VA t a u w->VA t a u w':=λ_ _ _ _ hs ⟨x,e,h⟩=>⟨x,e,h.ext hs⟩
theorem AL:∀u w w',Same [] w w'->VA t none u w->VA t (some (pV w.heap.size)) u w':=λ_ _ _ hs ⟨x,e,h⟩=>⟨x,e,h.ext hs⟩
theorem U8:∀a u w w',Same [] w w'->UJ u0 t ds e a u w->UJ u0 t ds e a u w':=λ_ _ _ _ hs ⟨q,A,c,e,h,h'⟩=>⟨q,A,c,e,h.ext hs,h'.ext hs⟩
theorem R9:∀u w w',Same [] w w'->UJ u0 t ds e none u w->UJ u0 t ds e (some (pV w.heap.size)) u w':=λ_ _ _ hs ⟨q,A,c,e,h,h'⟩=>⟨q,A,c,e,h.alloc hs rfl,h'.alloc hs rfl⟩
theorem NU:∀a u w w',Same [] w w'->OZ u0 t a u w->OZ u0 t a u w':=λ_ _ _ _ hs ⟨q,e,h⟩=>⟨q,e,h.ext hs⟩
theorem MT:∀u w w',Same [] w w'->OZ u0 t none u w->OZ u0 t (some (pV w.heap.size)) u w':=λ_ _ _ hs ⟨q,e,h⟩=>⟨q,e,h.alloc hs rfl⟩
theorem Gy:∀a u w w',Same [] w w'->PV u0 ds a u w->PV u0 ds a u w':=λ_ _ _ _ hs ⟨A,c,e,h⟩=>⟨A,c,e,h.ext hs⟩
theorem Hy:∀u w w',Same [] w w'->PV u0 ds none u w->PV u0 ds (some (pV w.heap.size)) u w':=λ_ _ _ hs ⟨A,c,e,h⟩=>⟨A,c,e,h.alloc hs rfl⟩
end
section
variable {n:Nat}{ops:List Oper}{Z:Nat->World->Prop}{w00 u0:World}{sl:List (Nat × Value)}{H:Nat × Nat}{l:List Fact}{i d:Nat}{ty:Nat}{pos:String}{aft:Array Edge}{g:Option (Nat × Bool)}{ats:Array TypeId}{S:Nat->Bool}{s:Nat->Value}{w:World}{t:Tree}{ds:List D}{e:Int}
theorem U9{k' d':Nat}{N:Nat}{T:TypeId}{lv:List Value}(hI:IG Z w00 sl H l S s w)(hd:∀d∈Kg ops i,S d=true)(k:Nat)(hk:l[k]? = some (k',d',Wx N (.cells lv.toArray T)))(hm:(Kg ops i).contains k'=true)(hn:Nat.blt d' n=true)(hr:RepL (λ_=>True) w ds lv)(hN:ds.length=N)(hb:decide (N<=9)=true):isSl ds (ev n s (.tmp d')) w:=by
  rw[Qk hn];obtain⟨b,e,hb'⟩:=hI.dep hd k hk hm;exact⟨_,_,_,e,G8 hb' hr hN (by have:=of_decide_eq_true hb;omega)⟩
theorem EU{ks:List Str}{xs:List Tree}{x y:Operand}(hp:Ph Z sl H l)(k:Nat)(hk:l[k]? = some (i,d,VA (.node 6 [] ks xs)))(hi:ops[i]? = some ⟨some d,.call ⟨.value (.func 23),#[x,y],ats⟩,ty,pos,aft,g⟩)
    (h:∀S s w,(∀d∈Kg ops i,S d=true)->IG Z w00 sl H l S s w->isSl (ks.map Ol) (ev n s x) w/\isSl (Td xs) (ev n s y) w) (hw:∀s,Wa ops n s ⟨some d,.call ⟨.value (.func 23),#[x,y],ats⟩,ty,pos,aft,g⟩=true:=by exact λ_=>rfl):StepA prog n ops (IG Z w00 sl H l) i :=
  ZR hp k hk hi (λS s w hd hI=>by
    obtain⟨⟨A,m,c,e1,h1⟩,B,m',c',e2,h2⟩:=h S s w hd hI;refine⟨23,_,_,_,YJ A m c B m' c' w,Ra BK O e1 e2,?_⟩;rintro v w'' ⟨rfl,hs⟩;exact⟨hs,⟨6,[],A,m,c,B,m',c'⟩,O,Rep.tree_mk ⟨by decide,by decide⟩ La (h1.ext hs) (h2.ext hs)⟩) hw
theorem st_se{zop:Operand}{zv:Value}{b1 x y ix iy:Nat}(hp:Ph Z sl H l)(k kx ky:Nat)(hk:l[k]? = some (i,d,UJ u0 t ds e))(hx:l[kx]? = some (ix,x,VA hmT))(hy:l[ky]? = some (iy,y,Wx 1 (.cells (EB b1).cells.toArray 29)))
    (hi:ops[i]? = some ⟨some d,.call ⟨.value (.func 22),#[.tmp x,.tmp y,zop,.const (J 1)],ats⟩,ty,pos,aft,g⟩) (mx:(Kg ops i).contains ix=true) (my:(Kg ops i).contains iy=true) (nx:Nat.blt x n=true) (ny:Nat.blt y n=true)
    (hz:∀S s w,(∀d∈Kg ops i,S d=true)->IG Z w00 sl H l S s w->ev n s zop=zv)
    (hc:∀(x:Tv)(bc:Nat)(w:World),Same [] w00 w->Rep (λ_=>True) w (Hb hmT) x.cells->w.heap[bc]? = some (.cells (EB b1).cells.toArray 29)->Calls prog 22 #[.agg x.cells.toArray,W bc 1 1,zv,J 1] w (Pc λv w'=>SetQ w t ds e v w'))
    (hZ:∀b w,Z b w->b<w.heap.size) (hw:∀s,Wa ops n s ⟨some d,.call ⟨.value (.func 22),#[.tmp x,.tmp y,zop,.const (J 1)],ats⟩,ty,pos,aft,g⟩=true:=by exact λ_=>rfl):StepA prog n ops (IG Z w00 sl H l) i :=
  ZR hp k hk hi (λS s w hd hI=>by
    obtain⟨q1,e1,h1⟩:=hI.dep hd kx hx mx;obtain⟨bc,e2,h2⟩:=hI.dep hd ky hy my;refine⟨22,_,_,_,hc q1 bc w hI.2.1 h1 h2,WI en_22 O ((Qk nx).trans e1) ((Qk ny).trans e2) (hz S s w hd hI) O,?_⟩;rintro v w' ⟨q,A',c,rfl,r1,r2,hs⟩;have hid:∀b∈NV (Xo H S s),b<w.heap.size:=λb hb=>by
      unfold Xo at hb;by_cases hA:S H.1=true
      ·rw[if_pos hA]at hb
       obtain⟨b',e,hz,hge⟩:=hI.2.2.2 hA;rw[e]at hb;obtain rfl:b=b':=by simpa[NV]using hb
       exact hZ _ _ hz
      rw[if_neg hA]at hb;cases hb
    exact⟨hs,q,A',c,O,RX.made (Nat.zero_le _) hid r1,RX.made (Nat.zero_le _) hid r2⟩) hw
theorem st_x0{i' d':Nat}(hp:Ph Z sl H l)(k k':Nat)(hk:l[k]? = some (i,d,OZ u0 t))(hk':l[k']? = some (i',d',UJ u0 t ds e))(hi:ops[i]? = some ⟨some d,.extract (.tmp d') 0,ty,pos,aft,g⟩)(hm:(Kg ops i).contains i'=true)(hn:Nat.blt d' n=true)
    (hw:∀s,Wa ops n s ⟨some d,.extract (.tmp d') 0,ty,pos,aft,g⟩=true:=by exact λ_=>rfl):StepA prog n ops (IG Z w00 sl H l) i :=
  Hs hp k hk hi (λS s w hd hI=>by
    obtain⟨q,A,c,e,h1,h2⟩:=hI.dep hd k' hk' hm;exact⟨_,w,Zi ((Qk hn).trans e) O,Same.refl _ _,q,O,h1⟩) hw
theorem EK{i' d':Nat}(hp:Ph Z sl H l)(k k':Nat)(hk:l[k]? = some (i,d,PV u0 ds))(hk':l[k']? = some (i',d',UJ u0 t ds e))(hi:ops[i]? = some ⟨some d,.extract (.tmp d') 1,ty,pos,aft,g⟩)(hm:(Kg ops i).contains i'=true)(hn:Nat.blt d' n=true)
    (hw:∀s,Wa ops n s ⟨some d,.extract (.tmp d') 1,ty,pos,aft,g⟩=true:=by exact λ_=>rfl):StepA prog n ops (IG Z w00 sl H l) i :=
  Hs hp k hk hi (λS s w hd hI=>by
    obtain⟨q,A,c,e,h1,h2⟩:=hI.dep hd k' hk' hm;exact⟨_,w,Zi ((Qk hn).trans e) O,Same.refl _ _,A,c,O,h2⟩) hw
theorem YI{i' d':Nat}(hp:Ph Z sl H l)(k k':Nat)(hk:l[k]? = some (i,d,BF (J e)))(hk':l[k']? = some (i',d',UJ u0 t ds e))(hi:ops[i]? = some ⟨some d,.extract (.tmp d') 2,ty,pos,aft,g⟩)(hm:(Kg ops i).contains i'=true)(hn:Nat.blt d' n=true)
    (hw:∀s,Wa ops n s ⟨some d,.extract (.tmp d') 2,ty,pos,aft,g⟩=true:=by exact λ_=>rfl):StepA prog n ops (IG Z w00 sl H l) i :=
  Hs hp k hk hi (λS s w hd hI=>by
    obtain⟨q,A,c,e,h1,h2⟩:=hI.dep hd k' hk' hm;exact⟨_,w,Zi ((Qk hn).trans e) O,Same.refl _ _,O⟩) hw
def Z1(b:Nat)(w:World):Prop:=w.heap[b]? = some (.cells #[J 0,I [],aQ,aQ] 25)
def Z2(u0:World)(t:Tree)(b:Nat)(w:World):Prop:=∃q:Tv,w.heap[b]? = some (.cells q.cells.toArray 25)/\RX (wE u0) [b] w [Hb t] q.cells
theorem WY:∀b w w',Same [] w w'->Z1 b w->Z1 b w':=λ_ _ _ hs h=>Sp h hs
theorem Z2_st:∀b w w',Same [] w w'->Z2 u0 t b w->Z2 u0 t b w':=λ_ _ _ hs ⟨q,h,h'⟩=>⟨q,Sp h hs,h'.ext hs⟩
def l2(u0:World)(t:Tree)(ds:List D)(er:Int)(p:Nat × Nat)(e:Nat)(q:Nat × Nat)(e':Nat)(r:Nat × Nat):List Fact :=
  [(p.1,p.2,UJ u0 t ds er),(p.1+2,q.1,PV u0 ds),(p.1+3,q.2,BF (J er)),(e,r.1,PV u0 ds),(e',r.2,BF (J er))]
theorem AllG.nil{S:Nat->Bool}{s:Nat->Value}{w:World}:AllG H S s w []:=λk f h=>by simp at h
theorem AllG.cons{S:Nat->Bool}{s:Nat->Value}{w:World}{f:Fact}(h:S f.1=true->f.2.2 (Xo H S s) (s f.2.1) w)(hl:AllG H S s w l):AllG H S s w (f::l):=λk g hg=>by
  cases k with
  | zero => obtain rfl : f = g := by simpa using hg
            exact h
  | succ k=>exact hl k g (by simpa using hg)
theorem st_st{er:Int}{p q r:Nat × Nat}{st dv:Nat}(k31 k32 k33 k34:Nat)(h31:l[k31]? = some (p.1,p.2,UJ u0 t ds er))(h32:l[k32]? = some (p.1+1,dv,OZ u0 t))(h33:l[k33]? = some (p.1+2,q.1,PV u0 ds))(h34:l[k34]? = some (p.1+3,q.2,BF (J er)))
    (hi:ops[st]? = some ⟨none,.store 25 (.tmp H.2) (.tmp dv),ty,pos,aft,g⟩) (hA:Nat.blt H.2 n=true) (hv:Nat.blt dv n=true) (mA:(Kg ops st).contains H.1=true:=by kernel_rfl) (mv:(Kg ops st).contains (p.1+1)=true:=by kernel_rfl)
    (m37:(Kg ops (st+1)).contains st=true:=by kernel_rfl) (m38:(Kg ops (st+2)).contains (st+1)=true:=by kernel_rfl) (hsz:decide (st+2<ops.length/\p.1+3<st/\H.1<st)=true:=by kernel_rfl)
    (hw:∀s,Wa ops n s ⟨none,.store 25 (.tmp H.2) (.tmp dv),ty,pos,aft,g⟩=true:=by exact λ_=>rfl) :
    StepA prog n ops (Xu st (IG Z1 w00 sl H l) (IG (Z2 u0 t) w00 sl H (l2 u0 t ds er p (st+1) q (st+2) r))) st:=.at λS s w hS hd hc hI=>by
  have hsz:=of_decide_eq_true hsz;obtain⟨h1,h2,h3,h4⟩:=id hI;have sA:S H.1=true:=hd _ (List.contains_iff_mem.1 mA);obtain⟨b,eb,hz,hb⟩:=h4 sA;obtain⟨x,ex,hx⟩:=hI.dep hd k32 h32 mv;have ea:Xo H S s=some (pV b):=by unfold Xo;rw[sA,if_pos rfl,eb]
  rw[ea]at hx;have hF:FR w00 [] [(b,.cells (List.toArray [J 0,I [],aQ,aQ]) 25)] w:=⟨h2,λq hq=>by rw[pQ.1 hq];exact⟨hz,.inl hb⟩,by simp⟩;have s37:S (st+1)=false:=by
    cases e:S (st+1)with
    | false=>rfl
    | true=>rw[hc _ Ba e st (List.contains_iff_mem.1 m37)]at hS;cases hS
  have s38:S (st+2)=false:=by
    cases e:S (st+2)with
    | false=>rfl
    | true=>rw[hc _ Ba e (st+1) (List.contains_iff_mem.1 m38)]at s37;cases s37
  refine PW (λ_ _ _=>True) .done (Lm hi hF mZ ((Qk hA).trans eb) ((Qk hv).trans ex) Pg (λw' hF' hs=>⟨trivial,Ac (Xb ?_)⟩) O O O (hw s));have eI:Xo H (AF st S) s=some (pV b):=by rw[<-ea];unfold Xo;rw[Hl Ba]
  refine⟨h1,hF'.same,?_,λ_=>⟨b,eb,⟨x,hF'.heap (i:=0) O,hx.store hs (by simp[NV])⟩,hb⟩⟩;refine .cons (λh=>?_) (.cons (λh=>?_) (.cons (λh=>?_) (.cons (λh=>?_) (.cons (λh=>?_) .nil))))
  ·rw[Hl (by show p.1 ≠ st;omega)]at h
   have:=h3 k31 _ h31 h;rw[ea]at this;obtain⟨q,A,c,e,g1,g2⟩:=this;rw[eI];exact⟨q,A,c,e,g1.store hs (by simp[NV]),g2.store hs (by simp[NV])⟩
  ·rw[Hl (by show p.1 + 2 ≠ st;omega)]at h
   have:=h3 k33 _ h33 h;rw[ea]at this;obtain⟨A,c,e,g1⟩:=this;rw[eI];exact⟨A,c,e,g1.store hs (by simp[NV])⟩
  ·rw[Hl (by show p.1 + 3 ≠ st;omega)]at h
   exact h3 k34 _ h34 h
  ·rw[Hl (by show st + 1 ≠ st;omega)]at h
   rw[s37]at h;cases h
  rw[Hl (by show st + 2 ≠ st;omega)]at h;rw[s38]at h;cases h
theorem H6{Z1 Z2:Nat->World->Prop}{l1 l2:List Fact}{st N:Nat}(hs:AllEq s sl)(h:(decide (st<N)&&decide (H.1<N)&&l1.all λf=>decide (f.1<N))=true):Xu st (IG Z1 w sl H l1) (IG Z2 w sl H l2) (λi=>!decide (i<N)) s w:=by
  rw[Bool.and_eq_true,Bool.and_eq_true,decide_eq_true_eq,decide_eq_true_eq]at h;unfold Xu;rw[if_neg (by simp[h.1.1])];refine⟨hs,Same.refl _ _,λk f hf hS=>?_,λhA=>?_⟩
  ·have := of_decide_eq_true (List.all_eq_true.1 h.2 f (List.mem_of_getElem? hf))
   simp[this]at hS
  simp[h.1.2]at hA
theorem MI{J1 J2:(Nat->Bool)->(Nat->Value)->World->Prop}{st:Nat}(h:Xu st J1 J2 (λ_=>true) s w):J2 (λ_=>true) s w:=by
  unfold Xu at h
  rwa [if_pos rfl]at h
end
theorem PQ{x y:Tv}(h:x.cells=y.cells):y=x:=by
  obtain⟨k,t,A,n,c,B,m,e⟩:=x;obtain⟨k',t',A',n',c',B',m',e'⟩:=y;simp only[Tv.cells,List.cons.injEq,Value.int.injEq,Value.string.injEq,Value.slice.injEq,true_and,and_true]at h;obtain⟨rfl,h2,⟨rfl,rfl,rfl⟩,rfl,rfl,rfl⟩:=h;have:t=t':=by
    have:=congrArg (λb:ByteArray=>b.data.toList) h2;simpa using this
  rw[this]
theorem YY{S:Nat->Prop}{w:World}{t:Tree}{x:Tv}(h:Rep S w (Hb t) x.cells):x.k=t.kind/\x.t=t.text:=by
  obtain⟨y,hy,h1,h2,-⟩:=Di h;obtain rfl:=PQ hy;exact⟨h1,h2⟩
theorem GT{S:Nat->Prop}{w:World}:RepL S w ([(0:Int)].map Jh) [J 0]:=RepL.cons_mk (c1:=[J 0]) (c2:=[]) (Wl Ta Ta) RepL.nil_mk
def sl7(b1:Nat)(b2:Nat)(b6:Nat)(A4:Option Addr)(c4:Nat)(A10:Option Addr)(c10:Nat):List (Nat × Value):=[(1,pV b2),(2,I pS),(3,.bool true),(4,.slice A4 1 c4),(5,J 0),(6,pV b6),(7,.bool true),(8,I aS),(9,J 0),(10,.slice A10 1 c10),(11,.bool true)]
def l7(u0:World)(b1:Nat)(A4:Option Addr)(c4:Nat):List Fact:=[(0,53,Wx 1 (.cells ([I [97]]:List Value).toArray 9)),(1,54,BF (.agg holeV.toArray)),(2,55,Wx 1 (.cells holeV.toArray 25)),(3,56,VA hmT),(4,57,BF (.agg (EB b1).cells.toArray)),(5,58,Wx 1 (.cells (EB b1).cells.toArray 29)),(6,59,UJ u0 zeroT ([(0:Int)].map Jh) (10)),(7,52,UJ u0 zeroT ([(0:Int)].map Jh) (10)),(8,60,OZ u0 zeroT),(9,61,PV u0 ([(0:Int)].map Jh)),(10,62,BF (J 10))]
theorem ph7{u0:World}{b1:Nat}{b2:Nat}{b6:Nat}{A4:Option Addr}{c4:Nat}{A10:Option Addr}{c10:Nat}:Ph Z1 (sl7 b1 b2 b6 A4 c4 A10 c10) (11,12) (l7 u0 b1 A4 c4):=⟨by unfold l7;repeat (first|exact StabG.nil|refine StabG.cons ?_ ?_|exact Fy|exact AJ|exact QK|exact U8|exact NU|exact Gy),by unfold l7;repeat (first|exact StabN.nil|refine StabN.cons ?_ ?_|exact Rx|exact KK|exact AL|exact R9|exact MT|exact Hy),by kernel_rfl,by kernel_rfl,WY⟩
theorem ph7b{u0:World}{b1:Nat}{b2:Nat}{b6:Nat}{A4:Option Addr}{c4:Nat}{A10:Option Addr}{c10:Nat}:Ph (Z2 u0 zeroT) (sl7 b1 b2 b6 A4 c4 A10 c10) (11,12) (l2 u0 zeroT ([(0:Int)].map Jh) (10) (7,52) 13 (61,62) 14 (13,14)):=⟨.cons U8 (.cons Gy (.cons Fy (.cons Gy (.cons Fy .nil)))),.cons R9 (.cons Hy (.cons Rx (.cons Hy (.cons Rx .nil)))),by kernel_rfl,by kernel_rfl,Z2_st⟩
def sl8(b1:Nat)(b2:Nat)(b6:Nat)(A4:Option Addr)(c4:Nat)(A10:Option Addr)(c10:Nat)(bt7:Nat)(A7:Option Addr)(c7:Nat):List (Nat × Value):=[(1,pV b2),(2,I pS),(3,.bool true),(4,.slice A4 1 c4),(5,J 0),(6,pV b6),(7,.bool true),(8,I aS),(9,J 0),(10,.slice A10 1 c10),(11,.bool true),(12,pV bt7),(13,.slice A7 1 c7),(14,J 10)]
def l8(u0:World)(b1:Nat)(A4:Option Addr)(c4:Nat):List Fact:=[(0,64,Wx 1 (.cells ([I [97]]:List Value).toArray 9)),(1,65,BF (.agg holeV.toArray)),(2,66,Wx 1 (.cells holeV.toArray 25)),(3,67,VA hmT),(4,68,BF (.agg (EB b1).cells.toArray)),(5,69,Wx 1 (.cells (EB b1).cells.toArray 29)),(6,70,BF (.slice A4 1 c4)),(7,71,UJ u0 A8 [] (0)),(8,63,UJ u0 A8 [] (0)),(9,72,OZ u0 A8),(10,73,PV u0 []),(11,74,BF (J 0))]
theorem ph8{u0:World}{b1:Nat}{b2:Nat}{b6:Nat}{A4:Option Addr}{c4:Nat}{A10:Option Addr}{c10:Nat}{bt7:Nat}{A7:Option Addr}{c7:Nat}:Ph Z1 (sl8 b1 b2 b6 A4 c4 A10 c10 bt7 A7 c7) (12,15) (l8 u0 b1 A4 c4):=⟨by unfold l8;repeat (first|exact StabG.nil|refine StabG.cons ?_ ?_|exact Fy|exact AJ|exact QK|exact U8|exact NU|exact Gy),by unfold l8;repeat (first|exact StabN.nil|refine StabN.cons ?_ ?_|exact Rx|exact KK|exact AL|exact R9|exact MT|exact Hy),by kernel_rfl,by kernel_rfl,WY⟩
theorem ph8b{u0:World}{b1:Nat}{b2:Nat}{b6:Nat}{A4:Option Addr}{c4:Nat}{A10:Option Addr}{c10:Nat}{bt7:Nat}{A7:Option Addr}{c7:Nat}:Ph (Z2 u0 A8) (sl8 b1 b2 b6 A4 c4 A10 c10 bt7 A7 c7) (12,15) (l2 u0 A8 [] (0) (8,63) 14 (73,74) 15 (16,17)):=⟨.cons U8 (.cons Gy (.cons Fy (.cons Gy (.cons Fy .nil)))),.cons R9 (.cons Hy (.cons Rx (.cons Hy (.cons Rx .nil)))),by kernel_rfl,by kernel_rfl,Z2_st⟩
theorem KM(w0:World)(hG:Gl w0):Calls prog 6 #[] w0 (Pc λv w'=>v=.bool true/\Same [] w0 w'):=by
  refine Ea func6 O ntmps6 Db (args_0) ?_;have hF:=FR.start w0 [];refine Fa (Ha ?_);refine Aa (Jb O) (Ua ?_);refine Ga (Fa ?_);refine Ha (Ak 1 hF (Eb (cs:=#[I [97]]) xZ rZ qX Ta Ta Ib) ?_);intro b1 w hb1 hF hE;refine Oa hF (Ci (v':=.agg (DJ 49).cells.toArray) (W6 1 Ba Ba _ (hG.ext hF.same)) Ib) (Ma N6 O O) ?_;intro w hF;refine Oa hF (BG (DJ 49) _) (Ma JT O O) ?_;intro w hF;refine Oa hF (Ci (v':=.agg (DJ 50).cells.toArray) (W6 2 Ba Ba _ (hG.ext hF.same)) Ib) (Ma N6 O O) ?_;intro w hF;refine Oa hF (BG (DJ 50) _) (Ma JT O O) ?_;intro w hF;refine Ja (w':=w) (v:=.agg #[W b1 1 1,J 3,.bool true,J 3,I [49],aQ,aQ,.bool true,J 3,I [50],aQ,aQ,.bool false,J 0,I [],aQ,aQ]) Ib (Ye hF zeroValue29 oZ O ?_);intro b2 w hb2 hF hE;refine Ua (Ga ?_);refine Fa (Ha ?_);refine Tb (Ie cZ oZ O hF.F 0 O O) (Oa hF (Ci (v':=.tuple #[I pS,.bool true]) (Vq cS (EB b1) _ _ (ZI (hF.heap (i:=1) O)) Bp (hG.ext hF.same)) (by rw[FE])) (Ma DH O O) ?_);intro w hF;refine Aa (Ri O) (Aa (Kx O O) ?_);refine Aa (Ll O O) (Aa (Rf O) ?_);refine Aa (Jb O) (Ua ?_);refine Ga (Fa ?_);refine Zc (zs:=.of []) (.free 0 (cQ [1,2,3] (bQ [4,5,6,7,8] .nil))) hF ?_;intro w hF;refine Sf O (Ie cZ oZ O C0 0 O O) (Tc hF (Ci (v':=.agg (DJ 57).cells.toArray) (W6 9 Ba Ba _ (hG.ext hF.same)) Ib) O (Ma N6 O O) ?_);intro w hF;refine⟨hF,?_⟩;refine Tc hF (BG (DJ 57) _) O (Ma JT O O) ?_;intro w hF;refine⟨hF,?_⟩;refine Uc O (AC [] none 0 cS (EB b1) s9 ⟨true,DJ 57⟩ (λ_=>True) (λ_=>True) (λ_=>True) _ (Rep.nil_slice 0 Ba none) La Ta (ZI (hF.heap (i:=1) O)) Bp s9_rep YA (hG.ext hF.same) (by rw[FE];decide)) (Re SZ O O O O) ?_;rintro _ w ⟨A4,c4,rfl,hRt,hE⟩;rw[UL]at hRt ⊢;have hT:=RX.made (ids:=[b2,b1]) hF.same.size (λx hx=>hF.lt_ids (by simpa using hx)) hRt;have hF:=hF.ext hE;clear hE hRt;refine⟨hF,?_⟩;refine Fb O (Ri O) (Fb O (yxl O O) ?_)
  refine Fb O (Gj O O) (Fb O (Em O) ?_);refine Fb O (Kb O) (Ac ?_);refine Ga (Fa ?_);refine Ha (Aa (Xd O) ?_);refine Tb (Ie cZ oZ O hF.F 0 O O) (Ya (Yo tS A4 c4 cS (EB b1) _ (λ_=>True) _ hT.rep Zx Ta (ZI (hF.heap (i:=1) O)) Bp (hG.ext hF.same)) (Ra Zt O O O) ?_);rintro _ w ⟨y,rfl,hRt,hE⟩;rw[Jy]at hRt;rw[Q0];have hyt:=YY (Cd hRt).2.2.2.2;have hyh:=(Cd hRt).1;clear hRt;obtain⟨yh,yk,yt,yA,yn,yc,yB,ym,ye⟩:=y;obtain⟨-,hyt⟩:=hyt;obtain rfl:yh=true:=hyh;obtain rfl:yt=[57]:=hyt;have hT:=hT.ext hE;have hF:=hF.ext hE;refine Aa (Ri O) (Aa (Dq O O) ?_);refine Aa (Ll O O) (Ye hF lX nZ O ?_);intro b3 w hb3 hF hE;have hT:=hT.alloc hE hb3;refine Aa (Jb O) (Ua ?_);refine Ga (Fa ?_);refine Ha (Aa (Xd O) ?_);refine Ya (Ci (v':=.tuple #[I aS,J 0]) (YR tS A4 c4 _ _ hT.rep M1 (hG.ext hF.same)) (by rw[WG])) (Ma GZ O O) ?_;rintro _ w ⟨rfl,hE⟩;have hF:=hF.ext hE;have hT:=hT.ext hE;refine Aa (Ri O) (Aa (Kx O O) ?_);refine Aa (Gj O O) (Aa (Rf O) ?_);refine Aa (Kb O) (Ua ?_);refine Ga (Fa ?_);refine Ha (Aa (Md O) ?_);refine Ya (load_c aS BR BU LL UE KQ (by rw[YL];exact M1) _ (hG.ext hF.same)) (Ma en_12 O O) ?_;rintro _ w ⟨A10,c10,rfl,hU,hE⟩;rw[LH]at hU ⊢;have hT:=(hT.ext hE).rep.anyS;have hF:=hF.ext hE;refine Aa (Ri O) (Aa (yxl O O) ?_);refine Aa (Ll O O) (Aa (Em O) ?_);refine Aa (Jb O) (Ua ?_);refine Ga (Fa ?_);refine En (λσ w=>∃(q7:Tv),∃(A7:Option Addr),∃(c7:Nat),∃(bt7:Nat),(Rep (λ_=>True) w (Hf tS) [.slice A4 1 c4])/\(Rep (λ_=>True) w (Hf tS) [.slice A10 1 c10])/\(Rep (λ_=>True) w (Hb zeroT) q7.cells)/\(Rep (λ_=>True) w (.slice ([(0:Int)].map Jh)) [.slice A7 1 c7])/\AllEq σ [(1,V b2),(2,I pS),(3,.bool true),(4,.slice A4 1 c4),(5,J 0),(6,V b3),(7,.bool true),(8,I aS),(9,J 0),(10,.slice A10 1 c10),(11,.bool true),(12,V bt7),(13,.slice A7 1 c7),(14,J 10)]/\FR w0 [] [(bt7,.cells (q7.cells).toArray 25),(b3,.cells #[.bool true,J yk,I [57],.slice yA yn yc,.slice yB ym ye] 27),(b2,.cells #[W b1 1 1,J 3,.bool true,J 3,I [49],aQ,aQ,.bool true,J 3,I [50],aQ,aQ,.bool false,J 0,I [],aQ,aQ] 29),(b1,.cells #[I [97]] 9)] w) ?_ ?_
  ·
   have hF:=hF.drew;have hT:=hT.ext (Same.drew w);have hU:=hU.ext (Same.drew w);have hG0:=hG;have hG:=hG0.ext hF.same;have hb1:=hF.heap (i:=2) rfl;have hp:=@ph7 w0 b1 b2 b3 A4 c4 A10 c10;have hq:=@ph7b w0 b1 b2 b3 A4 c4 A10 c10;refine PZ 15 (Inv:=Xu 12 (IG Z1 w.drew (sl7 b1 b2 b3 A4 c4 A10 c10) (11,12) (l7 w0 b1 A4 c4)) (IG (Z2 w0 zeroT) w.drew (sl7 b1 b2 b3 A4 c4 A10 c10) (11,12) (l2 w0 zeroT ([(0:Int)].map Jh) (10) (7,52) 13 (61,62) 14 (13,14)))) Ib Ib ?_ ?_ ?_
   ·exact H6 ⟨O,O,O,O,O,O,O,O,O,O,O,trivial⟩ O
   ·exact (below (below (below (below (below (below (below (below (below (below (below (below (below (below (below DP
      (.ahead (QN [] hp 0 rfl rfl (λS s w hd hI=>trivial) λs w=>Eb xZ rZ qX Ta Ta Ib)))
      (.ahead (Hs hp 1 rfl rfl λS s w hd hI=>⟨_,w,by kernel_rfl,Same.refl _ _,rfl⟩)))
      (.ahead (QN [(54,.agg holeV.toArray)] hp 2 rfl rfl (λS s w hd hI=>⟨hI.dep hd 1 rfl rfl,trivial⟩) λs w=>Eb yZ mZ kX Ta Ta Ib)))
      (.ahead (EU hp 3 rfl rfl λS s w hd hI=>⟨U9 hI hd 0 rfl rfl rfl Ip rfl rfl,U9 hI hd 2 rfl rfl rfl WB rfl rfl⟩)))
      (.ahead (Hs hp 4 rfl rfl λS s w hd hI=>⟨_,w,Xa (l:=(EB b1).cells) cZ oZ ((Qk rfl).trans hI.1.1) rfl ((hF.ext hI.2.1).part 1 0 rfl rfl),Same.refl _ _,rfl⟩)))
      (.ahead (QN [(57,.agg (EB b1).cells.toArray)] hp 5 rfl rfl (λS s w hd hI=>⟨hI.dep hd 4 rfl rfl,trivial⟩) λs w=>Eb gX oZ zeroValue29 Ta Ta Ib)))
      (.ahead (st_se hp 6 3 5 rfl rfl rfl rfl rfl rfl rfl rfl (λS s w hd hI=>rfl) (λx bc w hs hx hb=>BM x hx (Sp hb1 hs) hb (hG.ext hs)) (λb w h=>Lb h))))
      (.ahead (g_cp hp 7 6 rfl rfl rfl rfl rfl)))
      (.ahead (st_x0 hp 8 7 rfl rfl rfl rfl rfl)))
      (.both (EK hp 9 7 rfl rfl rfl rfl rfl) (EK hq 1 0 rfl rfl rfl rfl rfl) rfl))
      (.both (YI hp 10 7 rfl rfl rfl rfl rfl) (YI hq 2 0 rfl rfl rfl rfl rfl) rfl))
      (.ahead (g_al hp rfl kX rfl)))
      (st_st 7 8 9 10 rfl rfl rfl rfl rfl rfl rfl))
      (.behind (GW hq 3 1 rfl rfl rfl rfl rfl)))
      (.behind (GW hq 4 2 rfl rfl rfl rfl rfl)))
   intro s w' hJ;obtain⟨h1,h2,h3,h4⟩:=MI hJ;obtain⟨bt,eb,⟨q,hq,hV⟩,hb⟩:=h4 rfl;obtain⟨A,c,e5,hC⟩:=h3 3 _ rfl rfl;have e6:=h3 4 _ rfl rfl;exact Xb ⟨q,A,c,bt,(hT.ext h2),(hU.ext h2),hV.rep.anyS,hC.rep.anyS,⟨h1.1,h1.2.1,h1.2.2.1,h1.2.2.2.1,h1.2.2.2.2.1,h1.2.2.2.2.2.1,h1.2.2.2.2.2.2.1,h1.2.2.2.2.2.2.2.1,h1.2.2.2.2.2.2.2.2.1,h1.2.2.2.2.2.2.2.2.2.1,h1.2.2.2.2.2.2.2.2.2.2.1,eb,e5,e6,trivial⟩,hF.cons_ext h2 hq hb⟩
  rintro σ w ⟨q7,A7,c7,bt7,hT,hU,hV7,hC7,hs,hF⟩;refine Eg.slots hs ?_;clear hs;intro σ;refine Ga (Fa ?_);refine En (λσ w=>∃(q8:Tv),∃(bt8:Nat),(Rep (λ_=>True) w (Hf tS) [.slice A4 1 c4])/\(Rep (λ_=>True) w (Hf tS) [.slice A10 1 c10])/\(Rep (λ_=>True) w (Hb zeroT) q7.cells)/\(Rep (λ_=>True) w (.slice ([(0:Int)].map Jh)) [.slice A7 1 c7])/\(Rep (λ_=>True) w (Hb A8) q8.cells)/\AllEq σ [(2,I pS),(3,.bool true),(4,.slice A4 1 c4),(5,J 0),(6,V b3),(7,.bool true),(8,I aS),(9,J 0),(10,.slice A10 1 c10),(11,.bool true),(12,V bt7),(13,.slice A7 1 c7),(14,J 10),(15,V bt8),(17,J 0)]/\FR w0 [] [(bt8,.cells (q8.cells).toArray 25),(bt7,.cells (q7.cells).toArray 25),(b3,.cells #[.bool true,J yk,I [57],.slice yA yn yc,.slice yB ym ye] 27),(b2,.cells #[W b1 1 1,J 3,.bool true,J 3,I [49],aQ,aQ,.bool true,J 3,I [50],aQ,aQ,.bool false,J 0,I [],aQ,aQ] 29),(b1,.cells #[I [97]] 9)] w) ?_ ?_
  ·
   have hF:=hF.drew;have hT:=hT.ext (Same.drew w);have hU:=hU.ext (Same.drew w);have hV7:=hV7.ext (Same.drew w);have hC7:=hC7.ext (Same.drew w);have hG0:=hG;have hG:=hG0.ext hF.same;have hb1:=hF.heap (i:=3) rfl;have hp:=@ph8 w0 b1 b2 b3 A4 c4 A10 c10 bt7 A7 c7;have hq:=@ph8b w0 b1 b2 b3 A4 c4 A10 c10 bt7 A7 c7;refine PZ 16 (Inv:=Xu 13 (IG Z1 w.drew (sl8 b1 b2 b3 A4 c4 A10 c10 bt7 A7 c7) (12,15) (l8 w0 b1 A4 c4)) (IG (Z2 w0 A8) w.drew (sl8 b1 b2 b3 A4 c4 A10 c10 bt7 A7 c7) (12,15) (l2 w0 A8 [] (0) (8,63) 14 (73,74) 15 (16,17)))) Ib Ib ?_ ?_ ?_
   ·exact H6 ⟨O,O,O,O,O,O,O,O,O,O,O,O,O,O,trivial⟩ O
   ·exact (below (below (below (below (below (below (below (below (below (below (below (below (below (below (below (below DP
      (.ahead (QN [] hp 0 rfl rfl (λS s w hd hI=>trivial) λs w=>Eb xZ rZ qX Ta Ta Ib)))
      (.ahead (Hs hp 1 rfl rfl λS s w hd hI=>⟨_,w,by kernel_rfl,Same.refl _ _,rfl⟩)))
      (.ahead (QN [(65,.agg holeV.toArray)] hp 2 rfl rfl (λS s w hd hI=>⟨hI.dep hd 1 rfl rfl,trivial⟩) λs w=>Eb yZ mZ kX Ta Ta Ib)))
      (.ahead (EU hp 3 rfl rfl λS s w hd hI=>⟨U9 hI hd 0 rfl rfl rfl Ip rfl rfl,U9 hI hd 2 rfl rfl rfl WB rfl rfl⟩)))
      (.ahead (Hs hp 4 rfl rfl λS s w hd hI=>⟨_,w,Xa (l:=(EB b1).cells) cZ oZ ((Qk rfl).trans hI.1.1) rfl ((hF.ext hI.2.1).part 2 0 rfl rfl),Same.refl _ _,rfl⟩)))
      (.ahead (QN [(68,.agg (EB b1).cells.toArray)] hp 5 rfl rfl (λS s w hd hI=>⟨hI.dep hd 4 rfl rfl,trivial⟩) λs w=>Eb gX oZ zeroValue29 Ta Ta Ib)))
      (.ahead (g_mv hp 6 rfl rfl 3 rfl rfl)))
      (.ahead (st_se hp 7 3 5 rfl rfl rfl rfl rfl rfl rfl rfl (λS s w hd hI=>(Qk rfl).trans (hI.dep hd 6 rfl rfl)) (λx bc w hs hx hb=>VN x A4 c4 hx (Sp hb1 hs) hb (hT.ext hs) (hG.ext hs)) (λb w h=>Lb h))))
      (.ahead (g_cp hp 8 7 rfl rfl rfl rfl rfl)))
      (.ahead (st_x0 hp 9 8 rfl rfl rfl rfl rfl)))
      (.both (EK hp 10 8 rfl rfl rfl rfl rfl) (EK hq 1 0 rfl rfl rfl rfl rfl) rfl))
      (.both (YI hp 11 8 rfl rfl rfl rfl rfl) (YI hq 2 0 rfl rfl rfl rfl rfl) rfl))
      (.ahead (g_al hp rfl kX rfl)))
      (st_st 8 9 10 11 rfl rfl rfl rfl rfl rfl rfl))
      (.behind (GW hq 3 1 rfl rfl rfl rfl rfl)))
      (.behind (GW hq 4 2 rfl rfl rfl rfl rfl)))
   intro s w' hJ;obtain⟨h1,h2,h3,h4⟩:=MI hJ;obtain⟨bt,eb,⟨q,hq,hV⟩,hb⟩:=h4 rfl;obtain⟨A,c,e5,hC⟩:=h3 3 _ rfl rfl;have e6:=h3 4 _ rfl rfl;exact Xb ⟨q,bt,(hT.ext h2),(hU.ext h2),(hV7.ext h2),(hC7.ext h2),hV.rep.anyS,⟨h1.2.1,h1.2.2.1,h1.2.2.2.1,h1.2.2.2.2.1,h1.2.2.2.2.2.1,h1.2.2.2.2.2.2.1,h1.2.2.2.2.2.2.2.1,h1.2.2.2.2.2.2.2.2.1,h1.2.2.2.2.2.2.2.2.2.1,h1.2.2.2.2.2.2.2.2.2.2.1,h1.2.2.2.2.2.2.2.2.2.2.2.1,h1.2.2.2.2.2.2.2.2.2.2.2.2.1,h1.2.2.2.2.2.2.2.2.2.2.2.2.2.1,eb,e6,trivial⟩,hF.cons_ext h2 hq hb⟩
  rintro σ w ⟨q8,bt8,hT,hU,hV7,hC7,hV8,hs,hF⟩;refine Eg.slots hs ?_;clear hs;intro σ;refine Ga (Fa ?_);refine Kd (.of []) (bQ [0,1,2,3,4,5,6,7,8,9,10,11,12,13,14,15,16,17,18,19,20,21,22,23,24,25,26,27,28,29,30,31,32,33,34,35] (.act 36 (bQ [37,38,39,40,41,42,43,44] (.act 45 (.act 46 (bQ [47,48,49,50,51,52,53,54,55,56,57] (.alt 58 (cQ [59,60,61,62] (.free 63 (.free 64 .nil))) (.act 59 (.alt 58 (cQ [60,61,62] (.free 63 (.free 64 .nil))) (cQ [60,58,61,62] (.free 63 (.free 64 .nil)))))))))))) hF ?_;intro w hF hE;have hT:=hT.ext hE;have hU:=hU.ext hE;have hV7:=hV7.ext hE;have hC7:=hC7.ext hE;have hV8:=hV8.ext hE;refine⟨λwq=>FR w0 [] _ wq,hF,?_⟩;refine Fb O (Dc O) (Fb O (Dc O) ?_);refine Fb O (Md O) (Bb O (v:=.bool true) (λw hC=>Sj (K9 O O) (O)) ?_);refine Fb O (Yb O O) (Fb O (Dc O) ?_);refine Fb O (Gb O) (Bb O (v:=.bool true) (λw hC=>Sj (Yp O O) (O)) ?_);refine Fb O (Yb O O) (Fb O (Dc O) ?_);refine Fb O (Dc O) (Fb O (Yb O O) ?_);refine Fb O (Dc O) (Fb O (Ob Mi O) ?_);refine Sf O (O6 eZ O C0 2 O O) (Fb O (Yb O O) ?_);refine Fb O (Dc O) (Fb O (Ob Xe O) ?_);refine Fb O (Ob Oe O) (Sf O (Rm iZ O C0 2 O O) ?_);refine Bb O (v:=.bool true) (λw hC=>Sj (K9 O O) (O)) (Fb O (Yb O O) ?_);refine Fb O (Dc O) (Fb O (Gb O) ?_);refine Bb O (v:=.bool true) (λw hC=>Sj (Yp O O) (O)) (Fb O (Yb O O) ?_);refine Fb O (Dc O) (Fb O (Md O) ?_);refine Bb O (v:=.bool true) (λw hC=>Sj (K9 O O) (O)) (Fb O (Yb O O) ?_);refine Fb O (Dc O) (Fb O (Dc O) ?_);refine Fb O (Yb O O) (Fb O (Dc O) ?_);refine Fb O (Xd O) (Fb O (Xd O) ?_);refine Uc O (FU tS A4 A10 c4 c10 _ _ _ hT hU) (Ra en_24 O O O) ?_;rintro _ w ⟨rfl,hE⟩;have hF:=hF.ext hE;have hT:=hT.ext hE;have hU:=hU.ext hE;have hV7:=hV7.ext hE;have hC7:=hC7.ext hE;have hV8:=hV8.ext hE;refine⟨hF,?_⟩;refine Fb O (Yb O O) (Fb O (Dc O) ?_)
  refine Fb O (Ob Se O) (Sf O (Yi dZ O C0 1 O O) ?_);refine Bb O (v:=.bool true) (λw hC=>Sj (Yp O O) ((YY hV7).1)) (Fb O (Yb O O) ?_);refine Fb O (Dc O) (Fb O (Xd O) ?_);refine Qf 1 O hF (Eb (cs:=#[J 0]) fX sizeOf3 mX Ta Ta Ib) ?_;intro b4 w hb4 hF hE;have hT:=hT.ext hE;have hU:=hU.ext hE;have hV7:=hV7.ext hE;have hC7:=hC7.ext hE;have hV8:=hV8.ext hE;refine⟨hF.drop 1,?_⟩;refine Uc O (Ci (v':=.bool true) (ints_c _ _ _ [0] [0] _ _ _ _ hC7 (hF.rowS (S:=λ_=>True) 0 O (n:=1) GT O Ba)) (congrArg Value.bool (decide_eq_true O))) (Ra en_25 O O O) ?_;rintro _ w ⟨rfl,hE⟩;have hF:=hF.ext hE;have hT:=hT.ext hE;have hU:=hU.ext hE;have hV7:=hV7.ext hE;have hC7:=hC7.ext hE;have hV8:=hV8.ext hE;refine⟨hF.drop 1,?_⟩;refine Fb O (Yb O O) (Fb O (Dc O) ?_);refine Fb O (Gb O) (Bb O (v:=.bool true) (λw hC=>Sj (Yp O O) (O)) ?_);refine Fb O (Yb O O) (Fb O (Dc O) ?_);refine Fb O (Gb O) (Bb O (v:=.bool true) (λw hC=>Sj (Yp O O) (O)) ?_);refine Fb O (Yb O O) (Fb O (Dc O) ?_);refine Sf O (Ie aZ mZ O C0 0 O O) (Cx ?_ ?_)
  ·
   refine Qf 1 O hF (Eb (cs:=#[I [97]]) xZ rZ qX Ta Ta Ib) ?_;intro b5 w hb5 hF hE;have hT:=hT.ext hE;have hU:=hU.ext hE;have hV7:=hV7.ext hE;have hC7:=hC7.ext hE;have hV8:=hV8.ext hE;refine⟨hF.drop 2,?_⟩;refine Uc O (Ci (v':=.agg (DJ 57).cells.toArray) (W6 9 Ba Ba _ (hG.ext hF.same)) Ib) (Ma N6 O O) ?_;rintro _ w ⟨rfl,hE⟩;have hF:=hF.ext hE;have hT:=hT.ext hE;have hU:=hU.ext hE;have hV7:=hV7.ext hE;have hC7:=hC7.ext hE;have hV8:=hV8.ext hE;refine⟨hF.drop 2,?_⟩;refine Qf 1 O hF (Eb (cs:=#[J 3,I [57],aQ,aQ]) yZ mZ kX Ta Ta Ib) ?_;intro b6 w hb6 hF hE;have hT:=hT.ext hE;have hU:=hU.ext hE;have hV7:=hV7.ext hE;have hC7:=hC7.ext hE;have hV8:=hV8.ext hE;refine⟨hF.drop 3,?_⟩;refine Uc O (YJ (some ⟨b5,0,none⟩) 1 1 (some ⟨b6,0,none⟩) 1 1 _) (Ra BK O O O) ?_;rintro _ w ⟨rfl,hE⟩;have hF:=hF.ext hE;have hT:=hT.ext hE;have hU:=hU.ext hE;have hV7:=hV7.ext hE;have hC7:=hC7.ext hE;have hV8:=hV8.ext hE;refine⟨hF.drop 3,?_⟩;refine Uc O (Ci (v':=.bool true) (Vv A8 A8 _ _ _ _ _ hV8 (show Rep (λ_=>True) _ (Hb A8) [J 6,I [],W b5 1 1,W b6 1 1] from Rep.tree_mk ⟨by decide,by decide⟩ La (hF.rowS (S:=λ_=>True) 1 O (n:=1) Ip O Ba).anyS (hF.rowS (S:=λ_=>True) 0 O (n:=1) M0 O Ba).anyS)) (congrArg Value.bool (Gi _))) (Ra L7 O O O) ?_;rintro _ w ⟨rfl,hE⟩;have hF:=hF.ext hE;have hT:=hT.ext hE;have hU:=hU.ext hE;have hV7:=hV7.ext hE;have hC7:=hC7.ext hE;have hV8:=hV8.ext hE;refine⟨hF.drop 3,?_⟩;refine Fb O (Yb O O) (Fb O (Jb O) ?_);refine Ac (Ga ?_);refine Hc (v:=.bool true) O O ?_;exact⟨O,hF.same⟩
  refine Uc O (Ci (v':=.agg (DJ 57).cells.toArray) (W6 9 Ba Ba _ (hG.ext hF.same)) Ib) (Ma N6 O O) ?_;rintro _ w ⟨rfl,hE⟩;have hF:=hF.ext hE;have hT:=hT.ext hE;have hU:=hU.ext hE;have hV7:=hV7.ext hE;have hC7:=hC7.ext hE;have hV8:=hV8.ext hE;refine⟨hF.drop 1,?_⟩;refine Cx ?_ ?_
  ·
   refine Qf 1 O hF (Eb (cs:=#[I [97]]) xZ rZ qX Ta Ta Ib) ?_;intro b7 w hb7 hF hE;have hT:=hT.ext hE;have hU:=hU.ext hE;have hV7:=hV7.ext hE;have hC7:=hC7.ext hE;have hV8:=hV8.ext hE;refine⟨hF.drop 2,?_⟩;refine Qf 1 O hF (Eb (cs:=#[J 3,I [57],aQ,aQ]) yZ mZ kX Ta Ta Ib) ?_;intro b8 w hb8 hF hE;have hT:=hT.ext hE;have hU:=hU.ext hE;have hV7:=hV7.ext hE;have hC7:=hC7.ext hE;have hV8:=hV8.ext hE;refine⟨hF.drop 3,?_⟩;refine Uc O (YJ (some ⟨b7,0,none⟩) 1 1 (some ⟨b8,0,none⟩) 1 1 _) (Ra BK O O O) ?_;rintro _ w ⟨rfl,hE⟩;have hF:=hF.ext hE;have hT:=hT.ext hE;have hU:=hU.ext hE;have hV7:=hV7.ext hE;have hC7:=hC7.ext hE;have hV8:=hV8.ext hE;refine⟨hF.drop 3,?_⟩;refine Uc O (Ci (v':=.bool true) (Vv A8 A8 _ _ _ _ _ hV8 (show Rep (λ_=>True) _ (Hb A8) [J 6,I [],W b7 1 1,W b8 1 1] from Rep.tree_mk ⟨by decide,by decide⟩ La (hF.rowS (S:=λ_=>True) 1 O (n:=1) Ip O Ba).anyS (hF.rowS (S:=λ_=>True) 0 O (n:=1) M0 O Ba).anyS)) (congrArg Value.bool (Gi _))) (Ra L7 O O O) ?_;rintro _ w ⟨rfl,hE⟩;have hF:=hF.ext hE;have hT:=hT.ext hE;have hU:=hU.ext hE;have hV7:=hV7.ext hE;have hC7:=hC7.ext hE;have hV8:=hV8.ext hE;refine⟨hF.drop 3,?_⟩;refine Fb O (Yb O O) (Fb O (Jb O) ?_);refine Ac (Ga ?_);refine Hc (v:=.bool true) O O ?_;exact⟨O,hF.same⟩
  refine Qf 1 O hF (Eb (cs:=#[J 3,I [57],aQ,aQ]) yZ mZ kX Ta Ta Ib) ?_;intro b9 w hb9 hF hE;have hT:=hT.ext hE;have hU:=hU.ext hE;have hV7:=hV7.ext hE;have hC7:=hC7.ext hE;have hV8:=hV8.ext hE;refine⟨hF.drop 2,?_⟩;refine Qf 1 O hF (Eb (cs:=#[I [97]]) xZ rZ qX Ta Ta Ib) ?_;intro b10 w hb10 hF hE;have hT:=hT.ext hE;have hU:=hU.ext hE;have hV7:=hV7.ext hE;have hC7:=hC7.ext hE;have hV8:=hV8.ext hE;refine⟨hF.drop 3,?_⟩;refine Uc O (YJ (some ⟨b10,0,none⟩) 1 1 (some ⟨b9,0,none⟩) 1 1 _) (Ra BK O O O) ?_;rintro _ w ⟨rfl,hE⟩;have hF:=hF.ext hE;have hT:=hT.ext hE;have hU:=hU.ext hE;have hV7:=hV7.ext hE;have hC7:=hC7.ext hE;have hV8:=hV8.ext hE;refine⟨hF.drop 3,?_⟩;refine Uc O (Ci (v':=.bool true) (Vv A8 A8 _ _ _ _ _ hV8 (show Rep (λ_=>True) _ (Hb A8) [J 6,I [],W b10 1 1,W b9 1 1] from Rep.tree_mk ⟨by decide,by decide⟩ La (hF.rowS (S:=λ_=>True) 0 O (n:=1) Ip O Ba).anyS (hF.rowS (S:=λ_=>True) 1 O (n:=1) M0 O Ba).anyS)) (congrArg Value.bool (Gi _))) (Ra L7 O O O) ?_;rintro _ w ⟨rfl,hE⟩;have hF:=hF.ext hE;have hT:=hT.ext hE;have hU:=hU.ext hE;have hV7:=hV7.ext hE;have hC7:=hC7.ext hE;have hV8:=hV8.ext hE;refine⟨hF.drop 3,?_⟩;refine Fb O (Yb O O) (Fb O (Jb O) ?_);refine Ac (Ga ?_);refine Hc (v:=.bool true) O O ?_;exact⟨O,hF.same⟩
end Go.Scarf
