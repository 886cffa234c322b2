/- A part of the proof. -/
import Derived.Test.YtgkmigdopohcnaaGreatDoorSs
import Derived.Test.YtgkmigdopohcnaaGreatDoorIv
set_option linter.all false
set_option maxHeartbeats 8000000
set_option maxRecDepth 10000
namespace Go.Scarf
open Go.RowKit Go.Proofs Go.Proofs.Tryz
abbrev MI(i:UInt8):Tv:=⟨3,[i],none,0,0,none,0,0⟩
abbrev WD(b:Nat):Cv:=⟨some ⟨b,0,none⟩,1,1,3,⟨true,MI 49⟩,⟨true,MI 50⟩,⟨false,O5⟩⟩
abbrev holeV:List Value:=[J 7,I [48],aQ,aQ]
theorem F_(i:UInt8){S:Nat->Prop}{w:World}:Rep S w (Hb (FZ i)) (MI i).cells:=Rep.tree_mk ⟨by decide,by decide⟩ La (Rep.nil_slice 0 Ba none) (Rep.nil_slice 0 Ba none)
theorem s9_rep{S:Nat->Prop}{w:World}:Rep S w (Od s9) (Sv.cells ⟨true,MI 57⟩):=F3 (s:=s9) (F_ 57)
theorem Aq{w:World}:RepL (λ_=>True) w ([([97]:Str)].map Hl) [I [97]]:=RepL.cons_mk (c1:=[I [97]]) (c2:=[]) (Rep.lit_mk (v:=I [97]) (show ([97]:Str).length<=9223372036854775807 by decide)) RepL.nil_mk
theorem VD{w:World}:RepL (λ_=>True) w (Qd [UA 0]) holeV:=by
  have e:UA 0=.node 7 [48] [] []:=by kernel_rfl
  rw[e];exact RepL.cons_mk (c1:=holeV) (c2:=[]) (Rep.tree_mk ⟨by decide,by decide⟩ La (Rep.nil_slice 0 Ba none) (Rep.nil_slice 0 Ba none)) RepL.nil_mk
theorem G2{w:World}:RepL (λ_=>True) w (Qd [FZ 57]) (MI 57).cells:=RepL.cons_mk (c2:=[]) (F_ 57) RepL.nil_mk
theorem LJ{w:World}{b:Nat}{T:TypeId}(h:w.heap[b]? = some (.cells #[I [97]] T)):CvOf (λ_=>True) w cS (WD b) :=
  ⟨rfl,rfl,E9 (n:=1) (l:=[I [97]]) h Aq rfl Ba,F3 (s:=⟨true,FZ 49⟩) (F_ 49),F3 (s:=⟨true,FZ 50⟩) (F_ 50),Tm⟩
theorem CvOf.rep{S:Nat->Prop}{w:World}{c:Cf}{q:Cv}(h:CvOf S w c q)(hk:-1000<=c.cls/\c.cls<=1000):Rep S w (D5 c) q.cells:=by
  obtain⟨A,n,c',k,x,y,z⟩:=q;obtain⟨h1,h2,h3,h4,h5,h6⟩:=h;obtain rfl:=h2;unfold D5;refine Rep.agg_mk (RepL.cons_mk (c1:=[.slice A n c']) h3 (RepL.cons_mk (c1:=[J c.cls]) (Rep.lit_mk (okI (z:=c.cls) Ba Ba)) (RepL.cons_mk h4 (RepL.cons_mk h5 (RepL.cons_mk (c2:=[]) h6 RepL.nil_mk)))))
theorem SI{w:World}{b bc T:Nat}(h:w.heap[b]? = some (.cells #[I [97]] T))(hc:w.heap[bc]? = some (.cells (WD b).cells.toArray 29)):Rep (λ_=>True) w (.slice ([cS].map D5)) [W bc 1 1] :=
  E9 (n:=1) hc (RepL.cons_mk (c2:=[]) ((LJ h).rep Ta) RepL.nil_mk) rfl Ba
def SetQ(w0:World)(t:Tree)(ds:List D)(e:Int)(v:Value)(w':World):Prop:=∃(q:Tv)(A:Option Addr)(c:Nat),v=.tuple #[.agg q.cells.toArray,.slice A ds.length c,J e]/\Rep (Btw w0 w') w' (Hb t) q.cells/\Rep (Btw w0 w') w' (.slice ds) [.slice A ds.length c]/\Same [] w0 w'
theorem UM{w0:World}{b bc T:Nat}(x:Tv)(hx:Rep (λ_=>True) w0 (Hb hmT) x.cells)(h:w0.heap[b]? = some (.cells #[I [97]] T))(hc:w0.heap[bc]? = some (.cells (WD b).cells.toArray 29))(hG:Gl w0) :
    Calls prog 22 #[.agg x.cells.toArray,W bc 1 1,aQ,J 1] w0 (Pc λv w'=>SetQ w0 zeroT ([(0:Int)].map Kh) 10 v w') :=
  (BC hmT x cS _ 1 [] none 0 (λ_=>True) (λ_=>True) (λ_=>True) w0 hx (SI h hc) (Rep.nil_slice 0 Ba none) La Ta Lp Lx (by rw[show Th (Zf [] cS).1=noS from by kernel_rfl];exact JN) H6 Uv.1 Uv.2 L9 DD hG).mono λe w'' ⟨v,he,hv⟩=>⟨v,he,by
    rcases hv with ⟨-,A,c,rfl,hr,hs⟩|⟨hf,-⟩
    ·exact⟨O5,A,c,O,Dm _ _,hr,hs⟩
    rw[R_]at hf;cases hf⟩
theorem JL{w0:World}{b bc T:Nat}(x:Tv)(A:Option Addr)(c:Nat)(hx:Rep (λ_=>True) w0 (Hb hmT) x.cells)(h:w0.heap[b]? = some (.cells #[I [97]] T))(hc:w0.heap[bc]? = some (.cells (WD b).cells.toArray 29))(hT:Rep (λ_=>True) w0 (If tS) [.slice A 1 c])(hG:Gl w0) :
    Calls prog 22 #[.agg x.cells.toArray,W bc 1 1,.slice A 1 c,J 1] w0 (Pc λv w'=>SetQ w0 K8 [] 0 v w') :=
  (BC hmT x cS _ 1 tS A c (λ_=>True) (λ_=>True) (λ_=>True) w0 hx (SI h hc) hT Rx Ta Lp Lx (by rw[Ox];exact ML) H6 Uv.1 Uv.2 SD DD hG).mono λe w'' ⟨v,he,hv⟩=>⟨v,he,by
    rcases hv with ⟨hf,-⟩|⟨-,q,rfl,hr,hs⟩
    ·rw[E1]at hf;cases hf
    rw[Ox]at hr ⊢;rw[show Sx cS.cls s9=Sx 3 s9 from rfl,KO]at hr ⊢;exact⟨q,none,0,O,hr,Rep.nil_slice 0 Ba none,hs⟩⟩
def TV:Option Value->List Nat
  | some (.pointer (some a))=>[a.block]
  | _=>[]
def S_(t:Tree):Option Value->Value->World->Prop:=λ_ u w=>∃x:Tv,u=.agg x.cells.toArray/\Rep (λ_=>True) w (Hb t) x.cells
def UK(u0:World)(t:Tree)(ds:List D)(e:Int):Option Value->Value->World->Prop:=λa u w=>∃(q:Tv)(A:Option Addr)(c:Nat),u=.tuple #[.agg q.cells.toArray,.slice A ds.length c,J e]/\RX (wE u0) (TV a) w [Hb t] q.cells/\RX (wE u0) (TV a) w [.slice ds] [.slice A ds.length c]
def XY(u0:World)(t:Tree):Option Value->Value->World->Prop:=λa u w=>∃q:Tv,u=.agg q.cells.toArray/\RX (wE u0) (TV a) w [Hb t] q.cells
def PV(u0:World)(ds:List D):Option Value->Value->World->Prop:=λa u w=>∃(A:Option Addr)(c:Nat),u=.slice A ds.length c/\RX (wE u0) (TV a) w [.slice ds] [.slice A ds.length c]
def isSl(ds:List D)(u:Value)(w:World):Prop:=∃A m c,u=.slice A m c/\Rep (λ_=>True) w (.slice ds) [.slice A m c]
abbrev pV(b:Nat):Value:=V b
section
variable {u0:World}{t:Tree}{ds:List D}{e:Int}
theorem YJ:∀a u w w',Same [] w w'->S_ t a u w->S_ t a u w':=λ_ _ _ _ hs ⟨x,e,h⟩=>⟨x,e,h.ext hs⟩
theorem RK:∀u w w',Same [] w w'->S_ t none u w->S_ t (some (pV w.heap.size)) u w':=λ_ _ _ hs ⟨x,e,h⟩=>⟨x,e,h.ext hs⟩
theorem R8:∀a u w w',Same [] w w'->UK u0 t ds e a u w->UK u0 t ds e a u w':=λ_ _ _ _ hs ⟨q,A,c,e,h,h'⟩=>⟨q,A,c,e,h.ext hs,h'.ext hs⟩
theorem I8:∀u w w',Same [] w w'->UK u0 t ds e none u w->UK u0 t ds e (some (pV w.heap.size)) u w':=λ_ _ _ hs ⟨q,A,c,e,h,h'⟩=>⟨q,A,c,e,h.alloc hs rfl,h'.alloc hs rfl⟩
theorem QU:∀a u w w',Same [] w w'->XY u0 t a u w->XY u0 t a u w':=λ_ _ _ _ hs ⟨q,e,h⟩=>⟨q,e,h.ext hs⟩
theorem AQ:∀u w w',Same [] w w'->XY u0 t none u w->XY u0 t (some (pV w.heap.size)) u w':=λ_ _ _ hs ⟨q,e,h⟩=>⟨q,e,h.alloc hs rfl⟩
theorem Wx:∀a u w w',Same [] w w'->PV u0 ds a u w->PV u0 ds a u w':=λ_ _ _ _ hs ⟨A,c,e,h⟩=>⟨A,c,e,h.ext hs⟩
theorem Gy:∀u w w',Same [] w w'->PV u0 ds none u w->PV u0 ds (some (pV w.heap.size)) u w':=λ_ _ _ hs ⟨A,c,e,h⟩=>⟨A,c,e,h.alloc hs rfl⟩
end
section
variable {n:Nat}{ops:List Oper}{Z:Nat->World->Prop}{w00 u0:World}{sl:List (Nat × Value)}{H:Nat × Nat}{l:List Fact}{i d:Nat}{ty:Nat}{pos:String}{aft:Array Edge}{g:Option (Nat × Bool)}{ats:Array TypeId}{S:Nat->Bool}{s:Nat->Value}{w:World}{t:Tree}{ds:List D}{e:Int}
theorem X9{k' d':Nat}{N:Nat}{T:TypeId}{lv:List Value}(hI:IG Z w00 sl H l S s w)(hd:∀d∈Jg ops i,S d=true)(k:Nat)(hk:l[k]? = some (k',d',Yx N (.cells lv.toArray T)))(hm:(Jg ops i).contains k'=true)(hn:Nat.blt d' n=true)(hr:RepL (λ_=>True) w ds lv)(hN:ds.length=N)(hb:decide (N<=9)=true):isSl ds (ev n s (.tmp d')) w:=by
  rw[Vk hn];obtain⟨b,e,hb'⟩:=hI.dep hd k hk hm;exact⟨_,_,_,e,E9 hb' hr hN (by have:=of_decide_eq_true hb;omega)⟩
theorem ER{ks:List Str}{xs:List Tree}{x y:Operand}(hp:Ph Z sl H l)(k:Nat)(hk:l[k]? = some (i,d,S_ (.node 6 [] ks xs)))(hi:ops[i]? = some ⟨some d,.call ⟨.value (.func 23),#[x,y],ats⟩,ty,pos,aft,g⟩)
    (h:∀S s w,(∀d∈Jg ops i,S d=true)->IG Z w00 sl H l S s w->isSl (ks.map Hl) (ev n s x) w/\isSl (Qd xs) (ev n s y) w) (hw:∀s,Wa ops n s ⟨some d,.call ⟨.value (.func 23),#[x,y],ats⟩,ty,pos,aft,g⟩=true:=by exact λ_=>rfl):StepA prog n ops (IG Z w00 sl H l) i :=
  VR hp k hk hi (λS s w hd hI=>by
    obtain⟨⟨A,m,c,e1,h1⟩,B,m',c',e2,h2⟩:=h S s w hd hI;refine⟨23,_,_,_,SK A m c B m' c' w,Ra RJ O e1 e2,?_⟩;rintro v w'' ⟨rfl,hs⟩;exact⟨hs,⟨6,[],A,m,c,B,m',c'⟩,O,Rep.tree_mk ⟨by decide,by decide⟩ La (h1.ext hs) (h2.ext hs)⟩) hw
theorem st_se{zop:Operand}{zv:Value}{b1 x y ix iy:Nat}(hp:Ph Z sl H l)(k kx ky:Nat)(hk:l[k]? = some (i,d,UK u0 t ds e))(hx:l[kx]? = some (ix,x,S_ hmT))(hy:l[ky]? = some (iy,y,Yx 1 (.cells (WD b1).cells.toArray 29)))
    (hi:ops[i]? = some ⟨some d,.call ⟨.value (.func 22),#[.tmp x,.tmp y,zop,.const (J 1)],ats⟩,ty,pos,aft,g⟩) (mx:(Jg ops i).contains ix=true) (my:(Jg ops i).contains iy=true) (nx:Nat.blt x n=true) (ny:Nat.blt y n=true)
    (hz:∀S s w,(∀d∈Jg ops i,S d=true)->IG Z w00 sl H l S s w->ev n s zop=zv)
    (hc:∀(x:Tv)(bc:Nat)(w:World),Same [] w00 w->Rep (λ_=>True) w (Hb hmT) x.cells->w.heap[bc]? = some (.cells (WD b1).cells.toArray 29)->Calls prog 22 #[.agg x.cells.toArray,W bc 1 1,zv,J 1] w (Pc λv w'=>SetQ w t ds e v w'))
    (hZ:∀b w,Z b w->b<w.heap.size) (hw:∀s,Wa ops n s ⟨some d,.call ⟨.value (.func 22),#[.tmp x,.tmp y,zop,.const (J 1)],ats⟩,ty,pos,aft,g⟩=true:=by exact λ_=>rfl):StepA prog n ops (IG Z w00 sl H l) i :=
  VR hp k hk hi (λS s w hd hI=>by
    obtain⟨q1,e1,h1⟩:=hI.dep hd kx hx mx;obtain⟨bc,e2,h2⟩:=hI.dep hd ky hy my;refine⟨22,_,_,_,hc q1 bc w hI.2.1 h1 h2,BK en_22 O ((Vk nx).trans e1) ((Vk ny).trans e2) (hz S s w hd hI) O,?_⟩;rintro v w' ⟨q,A',c,rfl,r1,r2,hs⟩;have hid:∀b∈TV (Yo H S s),b<w.heap.size:=λb hb=>by
      unfold Yo at hb;by_cases hA:S H.1=true
      ·rw[if_pos hA]at hb
       obtain⟨b',e,hz,hge⟩:=hI.2.2.2 hA;rw[e]at hb;obtain rfl:b=b':=by simpa[TV]using hb
       exact hZ _ _ hz
      rw[if_neg hA]at hb;cases hb
    exact⟨hs,q,A',c,O,RX.made (Nat.zero_le _) hid r1,RX.made (Nat.zero_le _) hid r2⟩) hw
theorem st_x0{i' d':Nat}(hp:Ph Z sl H l)(k k':Nat)(hk:l[k]? = some (i,d,XY u0 t))(hk':l[k']? = some (i',d',UK u0 t ds e))(hi:ops[i]? = some ⟨some d,.extract (.tmp d') 0,ty,pos,aft,g⟩)(hm:(Jg ops i).contains i'=true)(hn:Nat.blt d' n=true)
    (hw:∀s,Wa ops n s ⟨some d,.extract (.tmp d') 0,ty,pos,aft,g⟩=true:=by exact λ_=>rfl):StepA prog n ops (IG Z w00 sl H l) i :=
  Sr hp k hk hi (λS s w hd hI=>by
    obtain⟨q,A,c,e,h1,h2⟩:=hI.dep hd k' hk' hm;exact⟨_,w,Bj ((Vk hn).trans e) O,Same.refl _ _,q,O,h1⟩) hw
theorem KK{i' d':Nat}(hp:Ph Z sl H l)(k k':Nat)(hk:l[k]? = some (i,d,PV u0 ds))(hk':l[k']? = some (i',d',UK u0 t ds e))(hi:ops[i]? = some ⟨some d,.extract (.tmp d') 1,ty,pos,aft,g⟩)(hm:(Jg ops i).contains i'=true)(hn:Nat.blt d' n=true)
    (hw:∀s,Wa ops n s ⟨some d,.extract (.tmp d') 1,ty,pos,aft,g⟩=true:=by exact λ_=>rfl):StepA prog n ops (IG Z w00 sl H l) i :=
  Sr hp k hk hi (λS s w hd hI=>by
    obtain⟨q,A,c,e,h1,h2⟩:=hI.dep hd k' hk' hm;exact⟨_,w,Bj ((Vk hn).trans e) O,Same.refl _ _,A,c,O,h2⟩) hw
theorem DK{i' d':Nat}(hp:Ph Z sl H l)(k k':Nat)(hk:l[k]? = some (i,d,AF (J e)))(hk':l[k']? = some (i',d',UK u0 t ds e))(hi:ops[i]? = some ⟨some d,.extract (.tmp d') 2,ty,pos,aft,g⟩)(hm:(Jg ops i).contains i'=true)(hn:Nat.blt d' n=true)
    (hw:∀s,Wa ops n s ⟨some d,.extract (.tmp d') 2,ty,pos,aft,g⟩=true:=by exact λ_=>rfl):StepA prog n ops (IG Z w00 sl H l) i :=
  Sr hp k hk hi (λS s w hd hI=>by
    obtain⟨q,A,c,e,h1,h2⟩:=hI.dep hd k' hk' hm;exact⟨_,w,Bj ((Vk hn).trans e) O,Same.refl _ _,O⟩) hw
def Z1(b:Nat)(w:World):Prop:=w.heap[b]? = some (.cells #[J 0,I [],aQ,aQ] 25)
def Z2(u0:World)(t:Tree)(b:Nat)(w:World):Prop:=∃q:Tv,w.heap[b]? = some (.cells q.cells.toArray 25)/\RX (wE u0) [b] w [Hb t] q.cells
theorem OZ:∀b w w',Same [] w w'->Z1 b w->Z1 b w':=λ_ _ _ hs h=>Gp h hs
theorem AZ:∀b w w',Same [] w w'->Z2 u0 t b w->Z2 u0 t b w':=λ_ _ _ hs ⟨q,h,h'⟩=>⟨q,Gp h hs,h'.ext hs⟩
def l2(u0:World)(t:Tree)(ds:List D)(er:Int)(p:Nat × Nat)(e:Nat)(q:Nat × Nat)(e':Nat)(r:Nat × Nat):List Fact :=
  [(p.1,p.2,UK u0 t ds er),(p.1+2,q.1,PV u0 ds),(p.1+3,q.2,AF (J er)),(e,r.1,PV u0 ds),(e',r.2,AF (J er))]
theorem AllG.nil{S:Nat->Bool}{s:Nat->Value}{w:World}:AllG H S s w []:=λk f h=>by simp at h
theorem AllG.cons{S:Nat->Bool}{s:Nat->Value}{w:World}{f:Fact}(h:S f.1=true->f.2.2 (Yo H S s) (s f.2.1) w)(hl:AllG H S s w l):AllG H S s w (f::l):=λk g hg=>by
  cases k with
  | zero => obtain rfl : f = g := by simpa using hg
            exact h
  | succ k=>exact hl k g (by simpa using hg)
theorem st_st{er:Int}{p q r:Nat × Nat}{st dv:Nat}(k31 k32 k33 k34:Nat)(h31:l[k31]? = some (p.1,p.2,UK u0 t ds er))(h32:l[k32]? = some (p.1+1,dv,XY u0 t))(h33:l[k33]? = some (p.1+2,q.1,PV u0 ds))(h34:l[k34]? = some (p.1+3,q.2,AF (J er)))
    (hi:ops[st]? = some ⟨none,.store 25 (.tmp H.2) (.tmp dv),ty,pos,aft,g⟩) (hA:Nat.blt H.2 n=true) (hv:Nat.blt dv n=true) (mA:(Jg ops st).contains H.1=true:=by kernel_rfl) (mv:(Jg ops st).contains (p.1+1)=true:=by kernel_rfl)
    (m37:(Jg ops (st+1)).contains st=true:=by kernel_rfl) (m38:(Jg ops (st+2)).contains (st+1)=true:=by kernel_rfl) (hsz:decide (st+2<ops.length/\p.1+3<st/\H.1<st)=true:=by kernel_rfl)
    (hw:∀s,Wa ops n s ⟨none,.store 25 (.tmp H.2) (.tmp dv),ty,pos,aft,g⟩=true:=by exact λ_=>rfl) :
    StepA prog n ops (Ou st (IG Z1 w00 sl H l) (IG (Z2 u0 t) w00 sl H (l2 u0 t ds er p (st+1) q (st+2) r))) st:=.at λS s w hS hd hc hI=>by
  have hsz:=of_decide_eq_true hsz;obtain⟨h1,h2,h3,h4⟩:=id hI;have sA:S H.1=true:=hd _ (List.contains_iff_mem.1 mA);obtain⟨b,eb,hz,hb⟩:=h4 sA;obtain⟨x,ex,hx⟩:=hI.dep hd k32 h32 mv;have ea:Yo H S s=some (pV b):=by unfold Yo;rw[sA,if_pos rfl,eb]
  rw[ea]at hx;have hF:FR w00 [] [(b,.cells (List.toArray [J 0,I [],aQ,aQ]) 25)] w:=⟨h2,λq hq=>by rw[pQ.1 hq];exact⟨hz,.inl hb⟩,by simp⟩;have s37:S (st+1)=false:=by
    cases e:S (st+1)with
    | false=>rfl
    | true=>rw[hc _ Ba e st (List.contains_iff_mem.1 m37)]at hS;cases hS
  have s38:S (st+2)=false:=by
    cases e:S (st+2)with
    | false=>rfl
    | true=>rw[hc _ Ba e (st+1) (List.contains_iff_mem.1 m38)]at s37;cases s37
  refine FW (λ_ _ _=>True) .done (Wm hi hF mZ ((Vk hA).trans eb) ((Vk hv).trans ex) Qg (λw' hF' hs=>⟨trivial,Ac (Xb ?_)⟩) O O O (hw s));have eI:Yo H (BF st S) s=some (pV b):=by rw[<-ea];unfold Yo;rw[Ql Ba]
  refine⟨h1,hF'.same,?_,λ_=>⟨b,eb,⟨x,hF'.heap (i:=0) O,hx.store hs (by simp[TV])⟩,hb⟩⟩;refine .cons (λh=>?_) (.cons (λh=>?_) (.cons (λh=>?_) (.cons (λh=>?_) (.cons (λh=>?_) .nil))))
  ·rw[Ql (by show p.1 ≠ st;omega)]at h
   have:=h3 k31 _ h31 h;rw[ea]at this;obtain⟨q,A,c,e,g1,g2⟩:=this;rw[eI];exact⟨q,A,c,e,g1.store hs (by simp[TV]),g2.store hs (by simp[TV])⟩
  ·rw[Ql (by show p.1 + 2 ≠ st;omega)]at h
   have:=h3 k33 _ h33 h;rw[ea]at this;obtain⟨A,c,e,g1⟩:=this;rw[eI];exact⟨A,c,e,g1.store hs (by simp[TV])⟩
  ·rw[Ql (by show p.1 + 3 ≠ st;omega)]at h
   exact h3 k34 _ h34 h
  ·rw[Ql (by show st + 1 ≠ st;omega)]at h
   rw[s37]at h;cases h
  rw[Ql (by show st + 2 ≠ st;omega)]at h;rw[s38]at h;cases h
theorem B7{Z1 Z2:Nat->World->Prop}{l1 l2:List Fact}{st N:Nat}(hs:AllEq s sl)(h:(decide (st<N)&&decide (H.1<N)&&l1.all λf=>decide (f.1<N))=true):Ou st (IG Z1 w sl H l1) (IG Z2 w sl H l2) (λi=>!decide (i<N)) s w:=by
  rw[Bool.and_eq_true,Bool.and_eq_true,decide_eq_true_eq,decide_eq_true_eq]at h;unfold Ou;rw[if_neg (by simp[h.1.1])];refine⟨hs,Same.refl _ _,λk f hf hS=>?_,λhA=>?_⟩
  ·have := of_decide_eq_true (List.all_eq_true.1 h.2 f (List.mem_of_getElem? hf))
   simp[this]at hS
  simp[h.1.2]at hA
theorem AL{J1 J2:(Nat->Bool)->(Nat->Value)->World->Prop}{st:Nat}(h:Ou st J1 J2 (λ_=>true) s w):J2 (λ_=>true) s w:=by
  unfold Ou at h
  rwa [if_pos rfl]at h
end
theorem SQ{x y:Tv}(h:x.cells=y.cells):y=x:=by
  obtain⟨k,t,A,n,c,B,m,e⟩:=x;obtain⟨k',t',A',n',c',B',m',e'⟩:=y;simp only[Tv.cells,List.cons.injEq,Value.int.injEq,Value.string.injEq,Value.slice.injEq,true_and,and_true]at h;obtain⟨rfl,h2,⟨rfl,rfl,rfl⟩,rfl,rfl,rfl⟩:=h;have:t=t':=by
    have:=congrArg (λb:ByteArray=>b.data.toList) h2;simpa using this
  rw[this]
theorem tv_kt{S:Nat->Prop}{w:World}{t:Tree}{x:Tv}(h:Rep S w (Hb t) x.cells):x.k=t.kind/\x.t=t.text:=by
  obtain⟨y,hy,h1,h2,-⟩:=Di h;obtain rfl:=SQ hy;exact⟨h1,h2⟩
theorem CT{S:Nat->Prop}{w:World}:RepL S w ([(0:Int)].map Kh) [J 0]:=RepL.cons_mk (c1:=[J 0]) (c2:=[]) (Wl Ta Ta) RepL.nil_mk
def sl7(b1:Nat)(b2:Nat)(b6:Nat)(A4:Option Addr)(c4:Nat)(A10:Option Addr)(c10:Nat):List (Nat × Value):=[(1,pV b2),(2,I pS),(3,.bool true),(4,.slice A4 1 c4),(5,J 0),(6,pV b6),(7,.bool true),(8,I aS),(9,J 0),(10,.slice A10 1 c10),(11,.bool true)]
def l7(u0:World)(b1:Nat)(A4:Option Addr)(c4:Nat):List Fact:=[(0,53,Yx 1 (.cells ([I [97]]:List Value).toArray 9)),(1,54,AF (.agg holeV.toArray)),(2,55,Yx 1 (.cells holeV.toArray 25)),(3,56,S_ hmT),(4,57,AF (.agg (WD b1).cells.toArray)),(5,58,Yx 1 (.cells (WD b1).cells.toArray 29)),(6,59,UK u0 zeroT ([(0:Int)].map Kh) (10)),(7,52,UK u0 zeroT ([(0:Int)].map Kh) (10)),(8,60,XY u0 zeroT),(9,61,PV u0 ([(0:Int)].map Kh)),(10,62,AF (J 10))]
theorem ph7{u0:World}{b1:Nat}{b2:Nat}{b6:Nat}{A4:Option Addr}{c4:Nat}{A10:Option Addr}{c10:Nat}:Ph Z1 (sl7 b1 b2 b6 A4 c4 A10 c10) (11,12) (l7 u0 b1 A4 c4):=⟨by unfold l7;repeat (first|exact StabG.nil|refine StabG.cons ?_ ?_|exact Cy|exact EL|exact YJ|exact R8|exact QU|exact Wx),by unfold l7;repeat (first|exact StabN.nil|refine StabN.cons ?_ ?_|exact By|exact UI|exact RK|exact I8|exact AQ|exact Gy),by kernel_rfl,by kernel_rfl,OZ⟩
theorem ph7b{u0:World}{b1:Nat}{b2:Nat}{b6:Nat}{A4:Option Addr}{c4:Nat}{A10:Option Addr}{c10:Nat}:Ph (Z2 u0 zeroT) (sl7 b1 b2 b6 A4 c4 A10 c10) (11,12) (l2 u0 zeroT ([(0:Int)].map Kh) (10) (7,52) 13 (61,62) 14 (13,14)):=⟨.cons R8 (.cons Wx (.cons Cy (.cons Wx (.cons Cy .nil)))),.cons I8 (.cons Gy (.cons By (.cons Gy (.cons By .nil)))),by kernel_rfl,by kernel_rfl,AZ⟩
def sl8(b1:Nat)(b2:Nat)(b6:Nat)(A4:Option Addr)(c4:Nat)(A10:Option Addr)(c10:Nat)(bt7:Nat)(A7:Option Addr)(c7:Nat):List (Nat × Value):=[(1,pV b2),(2,I pS),(3,.bool true),(4,.slice A4 1 c4),(5,J 0),(6,pV b6),(7,.bool true),(8,I aS),(9,J 0),(10,.slice A10 1 c10),(11,.bool true),(12,pV bt7),(13,.slice A7 1 c7),(14,J 10)]
def l8(u0:World)(b1:Nat)(A4:Option Addr)(c4:Nat):List Fact:=[(0,64,Yx 1 (.cells ([I [97]]:List Value).toArray 9)),(1,65,AF (.agg holeV.toArray)),(2,66,Yx 1 (.cells holeV.toArray 25)),(3,67,S_ hmT),(4,68,AF (.agg (WD b1).cells.toArray)),(5,69,Yx 1 (.cells (WD b1).cells.toArray 29)),(6,70,AF (.slice A4 1 c4)),(7,71,UK u0 K8 [] (0)),(8,63,UK u0 K8 [] (0)),(9,72,XY u0 K8),(10,73,PV u0 []),(11,74,AF (J 0))]
theorem ph8{u0:World}{b1:Nat}{b2:Nat}{b6:Nat}{A4:Option Addr}{c4:Nat}{A10:Option Addr}{c10:Nat}{bt7:Nat}{A7:Option Addr}{c7:Nat}:Ph Z1 (sl8 b1 b2 b6 A4 c4 A10 c10 bt7 A7 c7) (12,15) (l8 u0 b1 A4 c4):=⟨by unfold l8;repeat (first|exact StabG.nil|refine StabG.cons ?_ ?_|exact Cy|exact EL|exact YJ|exact R8|exact QU|exact Wx),by unfold l8;repeat (first|exact StabN.nil|refine StabN.cons ?_ ?_|exact By|exact UI|exact RK|exact I8|exact AQ|exact Gy),by kernel_rfl,by kernel_rfl,OZ⟩
theorem ph8b{u0:World}{b1:Nat}{b2:Nat}{b6:Nat}{A4:Option Addr}{c4:Nat}{A10:Option Addr}{c10:Nat}{bt7:Nat}{A7:Option Addr}{c7:Nat}:Ph (Z2 u0 K8) (sl8 b1 b2 b6 A4 c4 A10 c10 bt7 A7 c7) (12,15) (l2 u0 K8 [] (0) (8,63) 14 (73,74) 15 (16,17)):=⟨.cons R8 (.cons Wx (.cons Cy (.cons Wx (.cons Cy .nil)))),.cons I8 (.cons Gy (.cons By (.cons Gy (.cons By .nil)))),by kernel_rfl,by kernel_rfl,AZ⟩
theorem LN(w0:World)(hG:Gl w0):Calls prog 6 #[] w0 (Pc λv w'=>v=.bool true/\Same [] w0 w'):=by
  refine Ea func6 O ntmps6 Db (args_0) ?_;have hF:=FR.start w0 [];refine Fa (Ha ?_);refine Aa (Jb O) (Ua ?_);refine Ga (Fa ?_);refine Ha (Ek 1 hF (Eb (cs:=#[I [97]]) xZ rZ qX Ta Ta Ib) ?_);intro b1 w hb1 hF hE;refine Oa hF (Ci (v':=.agg (MI 49).cells.toArray) (T5 1 Ba Ba _ (hG.ext hF.same)) Ib) (Ma M7 O O) ?_;intro w hF;refine Oa hF (GH (MI 49) _) (Ma OR O O) ?_;intro w hF;refine Oa hF (Ci (v':=.agg (MI 50).cells.toArray) (T5 2 Ba Ba _ (hG.ext hF.same)) Ib) (Ma M7 O O) ?_;intro w hF;refine Oa hF (GH (MI 50) _) (Ma OR O O) ?_;intro w hF;refine Ja (w':=w) (v:=.agg #[W b1 1 1,J 3,.bool true,J 3,I [49],aQ,aQ,.bool true,J 3,I [50],aQ,aQ,.bool false,J 0,I [],aQ,aQ]) Ib (Ye hF zeroValue29 oZ O ?_);intro b2 w hb2 hF hE;refine Ua (Ga ?_);refine Fa (Ha ?_);refine Tb (He cZ oZ O hF.F 0 O O) (Oa hF (Ci (v':=.tuple #[I pS,.bool true]) (Uq cS (WD b1) _ _ (LJ (hF.heap (i:=1) O)) Lp (hG.ext hF.same)) (by rw[ND])) (Ma LH O O) ?_);intro w hF;refine Aa (Ri O) (Aa (Kx O O) ?_);refine Aa (Jl O O) (Aa (Rf O) ?_);refine Aa (Jb O) (Ua ?_);refine Ga (Fa ?_);refine Zc (zs:=.of []) (.free 0 (cQ [1,2,3] (bQ [4,5,6,7,8] .nil))) hF ?_;intro w hF;refine Sf O (He cZ oZ O C0 0 O O) (Sc hF (Ci (v':=.agg (MI 57).cells.toArray) (T5 9 Ba Ba _ (hG.ext hF.same)) Ib) O (Ma M7 O O) ?_);intro w hF;refine⟨hF,?_⟩;refine Sc hF (GH (MI 57) _) O (Ma OR O O) ?_;intro w hF;refine⟨hF,?_⟩;refine Uc O (T_ [] none 0 cS (WD b1) s9 ⟨true,MI 57⟩ (λ_=>True) (λ_=>True) (λ_=>True) _ (Rep.nil_slice 0 Ba none) La Ta (LJ (hF.heap (i:=1) O)) Lp s9_rep JD (hG.ext hF.same) (by rw[ND];decide)) (Te PZ O O O O) ?_;rintro _ w ⟨A4,c4,rfl,hRt,hE⟩;rw[TL]at hRt ⊢;have hT:=RX.made (ids:=[b2,b1]) hF.same.size (λx hx=>hF.lt_ids (by simpa using hx)) hRt;have hF:=hF.ext hE;clear hE hRt;refine⟨hF,?_⟩;refine Fb O (Ri O) (Fb O (yxl O O) ?_)
  refine Fb O (Gj O O) (Fb O (Em O) ?_);refine Fb O (Lb O) (Ac ?_);refine Ga (Fa ?_);refine Ha (Aa (Wd O) ?_);refine Tb (He cZ oZ O hF.F 0 O O) (Ya (To tS A4 c4 cS (WD b1) _ (λ_=>True) _ hT.rep Rx Ta (LJ (hF.heap (i:=1) O)) Lp (hG.ext hF.same)) (Ra Xt O O O) ?_);rintro _ w ⟨y,rfl,hRt,hE⟩;rw[Ox]at hRt;rw[E1];have hyt:=tv_kt (Dd hRt).2.2.2.2;have hyh:=(Dd hRt).1;clear hRt;obtain⟨yh,yk,yt,yA,yn,yc,yB,ym,ye⟩:=y;obtain⟨-,hyt⟩:=hyt;obtain rfl:yh=true:=hyh;obtain rfl:yt=[57]:=hyt;have hT:=hT.ext hE;have hF:=hF.ext hE;refine Aa (Ri O) (Aa (Dq O O) ?_);refine Aa (Jl O O) (Ye hF lX nZ O ?_);intro b3 w hb3 hF hE;have hT:=hT.alloc hE hb3;refine Aa (Jb O) (Ua ?_);refine Ga (Fa ?_);refine Ha (Aa (Wd O) ?_);refine Ya (Ci (v':=.tuple #[I aS,J 0]) (RS tS A4 c4 _ _ hT.rep K0 (hG.ext hF.same)) (by rw[XG])) (Ma QZ O O) ?_;rintro _ w ⟨rfl,hE⟩;have hF:=hF.ext hE;have hT:=hT.ext hE;refine Aa (Ri O) (Aa (Kx O O) ?_);refine Aa (Gj O O) (Aa (Rf O) ?_);refine Aa (Lb O) (Ua ?_);refine Ga (Fa ?_);refine Ha (Aa (Md O) ?_);refine Ya (load_c aS ZS QS YM GD JV (by rw[QO];exact K0) _ (hG.ext hF.same)) (Ma en_12 O O) ?_;rintro _ w ⟨A10,c10,rfl,hU,hE⟩;rw[UH]at hU ⊢;have hT:=(hT.ext hE).rep.anyS;have hF:=hF.ext hE;refine Aa (Ri O) (Aa (yxl O O) ?_);refine Aa (Jl O O) (Aa (Em O) ?_);refine Aa (Jb O) (Ua ?_);refine Ga (Fa ?_);refine Dn (λσ w=>∃(q7:Tv),∃(A7:Option Addr),∃(c7:Nat),∃(bt7:Nat),(Rep (λ_=>True) w (If tS) [.slice A4 1 c4])/\(Rep (λ_=>True) w (If tS) [.slice A10 1 c10])/\(Rep (λ_=>True) w (Hb zeroT) q7.cells)/\(Rep (λ_=>True) w (.slice ([(0:Int)].map Kh)) [.slice A7 1 c7])/\AllEq σ [(1,V b2),(2,I pS),(3,.bool true),(4,.slice A4 1 c4),(5,J 0),(6,V b3),(7,.bool true),(8,I aS),(9,J 0),(10,.slice A10 1 c10),(11,.bool true),(12,V bt7),(13,.slice A7 1 c7),(14,J 10)]/\FR w0 [] [(bt7,.cells (q7.cells).toArray 25),(b3,.cells #[.bool true,J yk,I [57],.slice yA yn yc,.slice yB ym ye] 27),(b2,.cells #[W b1 1 1,J 3,.bool true,J 3,I [49],aQ,aQ,.bool true,J 3,I [50],aQ,aQ,.bool false,J 0,I [],aQ,aQ] 29),(b1,.cells #[I [97]] 9)] w) ?_ ?_
  ·
   have hF:=hF.drew;have hT:=hT.ext (Same.drew w);have hU:=hU.ext (Same.drew w);have hG0:=hG;have hG:=hG0.ext hF.same;have hb1:=hF.heap (i:=2) rfl;have hp:=@ph7 w0 b1 b2 b3 A4 c4 A10 c10;have hq:=@ph7b w0 b1 b2 b3 A4 c4 A10 c10;refine UZ 15 (Inv:=Ou 12 (IG Z1 w.drew (sl7 b1 b2 b3 A4 c4 A10 c10) (11,12) (l7 w0 b1 A4 c4)) (IG (Z2 w0 zeroT) w.drew (sl7 b1 b2 b3 A4 c4 A10 c10) (11,12) (l2 w0 zeroT ([(0:Int)].map Kh) (10) (7,52) 13 (61,62) 14 (13,14)))) Ib Ib ?_ ?_ ?_
   ·exact B7 ⟨O,O,O,O,O,O,O,O,O,O,O,trivial⟩ O
   ·exact (below (below (below (below (below (below (below (below (below (below (below (below (below (below (below UP
      (.ahead (HN [] hp 0 rfl rfl (λS s w hd hI=>trivial) λs w=>Eb xZ rZ qX Ta Ta Ib)))
      (.ahead (Sr hp 1 rfl rfl λS s w hd hI=>⟨_,w,by kernel_rfl,Same.refl _ _,rfl⟩)))
      (.ahead (HN [(54,.agg holeV.toArray)] hp 2 rfl rfl (λS s w hd hI=>⟨hI.dep hd 1 rfl rfl,trivial⟩) λs w=>Eb yZ mZ kX Ta Ta Ib)))
      (.ahead (ER hp 3 rfl rfl λS s w hd hI=>⟨X9 hI hd 0 rfl rfl rfl Aq rfl rfl,X9 hI hd 2 rfl rfl rfl VD rfl rfl⟩)))
      (.ahead (Sr hp 4 rfl rfl λS s w hd hI=>⟨_,w,Xa (l:=(WD b1).cells) cZ oZ ((Vk rfl).trans hI.1.1) rfl ((hF.ext hI.2.1).part 1 0 rfl rfl),Same.refl _ _,rfl⟩)))
      (.ahead (HN [(57,.agg (WD b1).cells.toArray)] hp 5 rfl rfl (λS s w hd hI=>⟨hI.dep hd 4 rfl rfl,trivial⟩) λs w=>Eb gX oZ zeroValue29 Ta Ta Ib)))
      (.ahead (st_se hp 6 3 5 rfl rfl rfl rfl rfl rfl rfl rfl (λS s w hd hI=>rfl) (λx bc w hs hx hb=>UM x hx (Gp hb1 hs) hb (hG.ext hs)) (λb w h=>Kb h))))
      (.ahead (g_cp hp 7 6 rfl rfl rfl rfl rfl)))
      (.ahead (st_x0 hp 8 7 rfl rfl rfl rfl rfl)))
      (.both (KK hp 9 7 rfl rfl rfl rfl rfl) (KK hq 1 0 rfl rfl rfl rfl rfl) rfl))
      (.both (DK hp 10 7 rfl rfl rfl rfl rfl) (DK hq 2 0 rfl rfl rfl rfl rfl) rfl))
      (.ahead (g_al hp rfl kX rfl)))
      (st_st 7 8 9 10 rfl rfl rfl rfl rfl rfl rfl))
      (.behind (PX hq 3 1 rfl rfl rfl rfl rfl)))
      (.behind (PX hq 4 2 rfl rfl rfl rfl rfl)))
   intro s w' hJ;obtain⟨h1,h2,h3,h4⟩:=AL hJ;obtain⟨bt,eb,⟨q,hq,hV⟩,hb⟩:=h4 rfl;obtain⟨A,c,e5,hC⟩:=h3 3 _ rfl rfl;have e6:=h3 4 _ rfl rfl;exact Xb ⟨q,A,c,bt,(hT.ext h2),(hU.ext h2),hV.rep.anyS,hC.rep.anyS,⟨h1.1,h1.2.1,h1.2.2.1,h1.2.2.2.1,h1.2.2.2.2.1,h1.2.2.2.2.2.1,h1.2.2.2.2.2.2.1,h1.2.2.2.2.2.2.2.1,h1.2.2.2.2.2.2.2.2.1,h1.2.2.2.2.2.2.2.2.2.1,h1.2.2.2.2.2.2.2.2.2.2.1,eb,e5,e6,trivial⟩,hF.cons_ext h2 hq hb⟩
  rintro σ w ⟨q7,A7,c7,bt7,hT,hU,hV7,hC7,hs,hF⟩;refine Eg.slots hs ?_;clear hs;intro σ;refine Ga (Fa ?_);refine Dn (λσ w=>∃(q8:Tv),∃(bt8:Nat),(Rep (λ_=>True) w (If tS) [.slice A4 1 c4])/\(Rep (λ_=>True) w (If tS) [.slice A10 1 c10])/\(Rep (λ_=>True) w (Hb zeroT) q7.cells)/\(Rep (λ_=>True) w (.slice ([(0:Int)].map Kh)) [.slice A7 1 c7])/\(Rep (λ_=>True) w (Hb K8) q8.cells)/\AllEq σ [(2,I pS),(3,.bool true),(4,.slice A4 1 c4),(5,J 0),(6,V b3),(7,.bool true),(8,I aS),(9,J 0),(10,.slice A10 1 c10),(11,.bool true),(12,V bt7),(13,.slice A7 1 c7),(14,J 10),(15,V bt8),(17,J 0)]/\FR w0 [] [(bt8,.cells (q8.cells).toArray 25),(bt7,.cells (q7.cells).toArray 25),(b3,.cells #[.bool true,J yk,I [57],.slice yA yn yc,.slice yB ym ye] 27),(b2,.cells #[W b1 1 1,J 3,.bool true,J 3,I [49],aQ,aQ,.bool true,J 3,I [50],aQ,aQ,.bool false,J 0,I [],aQ,aQ] 29),(b1,.cells #[I [97]] 9)] w) ?_ ?_
  ·
   have hF:=hF.drew;have hT:=hT.ext (Same.drew w);have hU:=hU.ext (Same.drew w);have hV7:=hV7.ext (Same.drew w);have hC7:=hC7.ext (Same.drew w);have hG0:=hG;have hG:=hG0.ext hF.same;have hb1:=hF.heap (i:=3) rfl;have hp:=@ph8 w0 b1 b2 b3 A4 c4 A10 c10 bt7 A7 c7;have hq:=@ph8b w0 b1 b2 b3 A4 c4 A10 c10 bt7 A7 c7;refine UZ 16 (Inv:=Ou 13 (IG Z1 w.drew (sl8 b1 b2 b3 A4 c4 A10 c10 bt7 A7 c7) (12,15) (l8 w0 b1 A4 c4)) (IG (Z2 w0 K8) w.drew (sl8 b1 b2 b3 A4 c4 A10 c10 bt7 A7 c7) (12,15) (l2 w0 K8 [] (0) (8,63) 14 (73,74) 15 (16,17)))) Ib Ib ?_ ?_ ?_
   ·exact B7 ⟨O,O,O,O,O,O,O,O,O,O,O,O,O,O,trivial⟩ O
   ·exact (below (below (below (below (below (below (below (below (below (below (below (below (below (below (below (below UP
      (.ahead (HN [] hp 0 rfl rfl (λS s w hd hI=>trivial) λs w=>Eb xZ rZ qX Ta Ta Ib)))
      (.ahead (Sr hp 1 rfl rfl λS s w hd hI=>⟨_,w,by kernel_rfl,Same.refl _ _,rfl⟩)))
      (.ahead (HN [(65,.agg holeV.toArray)] hp 2 rfl rfl (λS s w hd hI=>⟨hI.dep hd 1 rfl rfl,trivial⟩) λs w=>Eb yZ mZ kX Ta Ta Ib)))
      (.ahead (ER hp 3 rfl rfl λS s w hd hI=>⟨X9 hI hd 0 rfl rfl rfl Aq rfl rfl,X9 hI hd 2 rfl rfl rfl VD rfl rfl⟩)))
      (.ahead (Sr hp 4 rfl rfl λS s w hd hI=>⟨_,w,Xa (l:=(WD b1).cells) cZ oZ ((Vk rfl).trans hI.1.1) rfl ((hF.ext hI.2.1).part 2 0 rfl rfl),Same.refl _ _,rfl⟩)))
      (.ahead (HN [(68,.agg (WD b1).cells.toArray)] hp 5 rfl rfl (λS s w hd hI=>⟨hI.dep hd 4 rfl rfl,trivial⟩) λs w=>Eb gX oZ zeroValue29 Ta Ta Ib)))
      (.ahead (g_mv hp 6 rfl rfl 3 rfl rfl)))
      (.ahead (st_se hp 7 3 5 rfl rfl rfl rfl rfl rfl rfl rfl (λS s w hd hI=>(Vk rfl).trans (hI.dep hd 6 rfl rfl)) (λx bc w hs hx hb=>JL x A4 c4 hx (Gp hb1 hs) hb (hT.ext hs) (hG.ext hs)) (λb w h=>Kb h))))
      (.ahead (g_cp hp 8 7 rfl rfl rfl rfl rfl)))
      (.ahead (st_x0 hp 9 8 rfl rfl rfl rfl rfl)))
      (.both (KK hp 10 8 rfl rfl rfl rfl rfl) (KK hq 1 0 rfl rfl rfl rfl rfl) rfl))
      (.both (DK hp 11 8 rfl rfl rfl rfl rfl) (DK hq 2 0 rfl rfl rfl rfl rfl) rfl))
      (.ahead (g_al hp rfl kX rfl)))
      (st_st 8 9 10 11 rfl rfl rfl rfl rfl rfl rfl))
      (.behind (PX hq 3 1 rfl rfl rfl rfl rfl)))
      (.behind (PX hq 4 2 rfl rfl rfl rfl rfl)))
   intro s w' hJ;obtain⟨h1,h2,h3,h4⟩:=AL hJ;obtain⟨bt,eb,⟨q,hq,hV⟩,hb⟩:=h4 rfl;obtain⟨A,c,e5,hC⟩:=h3 3 _ rfl rfl;have e6:=h3 4 _ rfl rfl;exact Xb ⟨q,bt,(hT.ext h2),(hU.ext h2),(hV7.ext h2),(hC7.ext h2),hV.rep.anyS,⟨h1.2.1,h1.2.2.1,h1.2.2.2.1,h1.2.2.2.2.1,h1.2.2.2.2.2.1,h1.2.2.2.2.2.2.1,h1.2.2.2.2.2.2.2.1,h1.2.2.2.2.2.2.2.2.1,h1.2.2.2.2.2.2.2.2.2.1,h1.2.2.2.2.2.2.2.2.2.2.1,h1.2.2.2.2.2.2.2.2.2.2.2.1,h1.2.2.2.2.2.2.2.2.2.2.2.2.1,h1.2.2.2.2.2.2.2.2.2.2.2.2.2.1,eb,e6,trivial⟩,hF.cons_ext h2 hq hb⟩
  rintro σ w ⟨q8,bt8,hT,hU,hV7,hC7,hV8,hs,hF⟩;refine Eg.slots hs ?_;clear hs;intro σ;refine Ga (Fa ?_);refine Ld (.of []) (bQ [0,1,2,3,4,5,6,7,8,9,10,11,12,13,14,15,16,17,18,19,20,21,22,23,24,25,26,27,28,29,30,31,32,33,34,35] (.act 36 (bQ [37,38,39,40,41,42,43,44] (.act 45 (.act 46 (bQ [47,48,49,50,51,52,53,54,55,56,57] (.alt 58 (cQ [59,60,61,62] (.free 63 (.free 64 .nil))) (.act 59 (.alt 58 (cQ [60,61,62] (.free 63 (.free 64 .nil))) (cQ [60,58,61,62] (.free 63 (.free 64 .nil)))))))))))) hF ?_;intro w hF hE;have hT:=hT.ext hE;have hU:=hU.ext hE;have hV7:=hV7.ext hE;have hC7:=hC7.ext hE;have hV8:=hV8.ext hE;refine⟨λwq=>FR w0 [] _ wq,hF,?_⟩;refine Fb O (Dc O) (Fb O (Dc O) ?_);refine Fb O (Md O) (Bb O (v:=.bool true) (λw hC=>Jj (R9 O O) (O)) ?_);refine Fb O (Yb O O) (Fb O (Dc O) ?_);refine Fb O (Gb O) (Bb O (v:=.bool true) (λw hC=>Jj (Fp O O) (O)) ?_);refine Fb O (Yb O O) (Fb O (Dc O) ?_);refine Fb O (Dc O) (Fb O (Yb O O) ?_);refine Fb O (Dc O) (Fb O (Ob Ni O) ?_);refine Sf O (D6 eZ O C0 2 O O) (Fb O (Yb O O) ?_);refine Fb O (Dc O) (Fb O (Ob Xe O) ?_);refine Fb O (Ob Re O) (Sf O (Rm iZ O C0 2 O O) ?_);refine Bb O (v:=.bool true) (λw hC=>Jj (R9 O O) (O)) (Fb O (Yb O O) ?_);refine Fb O (Dc O) (Fb O (Gb O) ?_);refine Bb O (v:=.bool true) (λw hC=>Jj (Fp O O) (O)) (Fb O (Yb O O) ?_);refine Fb O (Dc O) (Fb O (Md O) ?_);refine Bb O (v:=.bool true) (λw hC=>Jj (R9 O O) (O)) (Fb O (Yb O O) ?_);refine Fb O (Dc O) (Fb O (Dc O) ?_);refine Fb O (Yb O O) (Fb O (Dc O) ?_);refine Fb O (Wd O) (Fb O (Wd O) ?_);refine Uc O (XR tS A4 A10 c4 c10 _ _ _ hT hU) (Ra en_24 O O O) ?_;rintro _ w ⟨rfl,hE⟩;have hF:=hF.ext hE;have hT:=hT.ext hE;have hU:=hU.ext hE;have hV7:=hV7.ext hE;have hC7:=hC7.ext hE;have hV8:=hV8.ext hE;refine⟨hF,?_⟩;refine Fb O (Yb O O) (Fb O (Dc O) ?_)
  refine Fb O (Ob Se O) (Sf O (Yi dZ O C0 1 O O) ?_);refine Bb O (v:=.bool true) (λw hC=>Jj (Fp O O) ((tv_kt hV7).1)) (Fb O (Yb O O) ?_);refine Fb O (Dc O) (Fb O (Wd O) ?_);refine Nf 1 O hF (Eb (cs:=#[J 0]) fX sizeOf3 mX Ta Ta Ib) ?_;intro b4 w hb4 hF hE;have hT:=hT.ext hE;have hU:=hU.ext hE;have hV7:=hV7.ext hE;have hC7:=hC7.ext hE;have hV8:=hV8.ext hE;refine⟨hF.drop 1,?_⟩;refine Uc O (Ci (v':=.bool true) (ints_c _ _ _ [0] [0] _ _ _ _ hC7 (hF.rowS (S:=λ_=>True) 0 O (n:=1) CT O Ba)) (congrArg Value.bool (decide_eq_true O))) (Ra en_25 O O O) ?_;rintro _ w ⟨rfl,hE⟩;have hF:=hF.ext hE;have hT:=hT.ext hE;have hU:=hU.ext hE;have hV7:=hV7.ext hE;have hC7:=hC7.ext hE;have hV8:=hV8.ext hE;refine⟨hF.drop 1,?_⟩;refine Fb O (Yb O O) (Fb O (Dc O) ?_);refine Fb O (Gb O) (Bb O (v:=.bool true) (λw hC=>Jj (Fp O O) (O)) ?_);refine Fb O (Yb O O) (Fb O (Dc O) ?_);refine Fb O (Gb O) (Bb O (v:=.bool true) (λw hC=>Jj (Fp O O) (O)) ?_);refine Fb O (Yb O O) (Fb O (Dc O) ?_);refine Sf O (He aZ mZ O C0 0 O O) (Yv ?_ ?_)
  ·
   refine Nf 1 O hF (Eb (cs:=#[I [97]]) xZ rZ qX Ta Ta Ib) ?_;intro b5 w hb5 hF hE;have hT:=hT.ext hE;have hU:=hU.ext hE;have hV7:=hV7.ext hE;have hC7:=hC7.ext hE;have hV8:=hV8.ext hE;refine⟨hF.drop 2,?_⟩;refine Uc O (Ci (v':=.agg (MI 57).cells.toArray) (T5 9 Ba Ba _ (hG.ext hF.same)) Ib) (Ma M7 O O) ?_;rintro _ w ⟨rfl,hE⟩;have hF:=hF.ext hE;have hT:=hT.ext hE;have hU:=hU.ext hE;have hV7:=hV7.ext hE;have hC7:=hC7.ext hE;have hV8:=hV8.ext hE;refine⟨hF.drop 2,?_⟩;refine Nf 1 O hF (Eb (cs:=#[J 3,I [57],aQ,aQ]) yZ mZ kX Ta Ta Ib) ?_;intro b6 w hb6 hF hE;have hT:=hT.ext hE;have hU:=hU.ext hE;have hV7:=hV7.ext hE;have hC7:=hC7.ext hE;have hV8:=hV8.ext hE;refine⟨hF.drop 3,?_⟩;refine Uc O (SK (some ⟨b5,0,none⟩) 1 1 (some ⟨b6,0,none⟩) 1 1 _) (Ra RJ O O O) ?_;rintro _ w ⟨rfl,hE⟩;have hF:=hF.ext hE;have hT:=hT.ext hE;have hU:=hU.ext hE;have hV7:=hV7.ext hE;have hC7:=hC7.ext hE;have hV8:=hV8.ext hE;refine⟨hF.drop 3,?_⟩;refine Uc O (Ci (v':=.bool true) (Gv K8 K8 _ _ _ _ _ hV8 (show Rep (λ_=>True) _ (Hb K8) [J 6,I [],W b5 1 1,W b6 1 1] from Rep.tree_mk ⟨by decide,by decide⟩ La (hF.rowS (S:=λ_=>True) 1 O (n:=1) Aq O Ba).anyS (hF.rowS (S:=λ_=>True) 0 O (n:=1) G2 O Ba).anyS)) (congrArg Value.bool (Fi _))) (Ra F5 O O O) ?_;rintro _ w ⟨rfl,hE⟩;have hF:=hF.ext hE;have hT:=hT.ext hE;have hU:=hU.ext hE;have hV7:=hV7.ext hE;have hC7:=hC7.ext hE;have hV8:=hV8.ext hE;refine⟨hF.drop 3,?_⟩;refine Fb O (Yb O O) (Fb O (Jb O) ?_);refine Ac (Ga ?_);refine Hc (v:=.bool true) O O ?_;exact⟨O,hF.same⟩
  refine Uc O (Ci (v':=.agg (MI 57).cells.toArray) (T5 9 Ba Ba _ (hG.ext hF.same)) Ib) (Ma M7 O O) ?_;rintro _ w ⟨rfl,hE⟩;have hF:=hF.ext hE;have hT:=hT.ext hE;have hU:=hU.ext hE;have hV7:=hV7.ext hE;have hC7:=hC7.ext hE;have hV8:=hV8.ext hE;refine⟨hF.drop 1,?_⟩;refine Yv ?_ ?_
  ·
   refine Nf 1 O hF (Eb (cs:=#[I [97]]) xZ rZ qX Ta Ta Ib) ?_;intro b7 w hb7 hF hE;have hT:=hT.ext hE;have hU:=hU.ext hE;have hV7:=hV7.ext hE;have hC7:=hC7.ext hE;have hV8:=hV8.ext hE;refine⟨hF.drop 2,?_⟩;refine Nf 1 O hF (Eb (cs:=#[J 3,I [57],aQ,aQ]) yZ mZ kX Ta Ta Ib) ?_;intro b8 w hb8 hF hE;have hT:=hT.ext hE;have hU:=hU.ext hE;have hV7:=hV7.ext hE;have hC7:=hC7.ext hE;have hV8:=hV8.ext hE;refine⟨hF.drop 3,?_⟩;refine Uc O (SK (some ⟨b7,0,none⟩) 1 1 (some ⟨b8,0,none⟩) 1 1 _) (Ra RJ O O O) ?_;rintro _ w ⟨rfl,hE⟩;have hF:=hF.ext hE;have hT:=hT.ext hE;have hU:=hU.ext hE;have hV7:=hV7.ext hE;have hC7:=hC7.ext hE;have hV8:=hV8.ext hE;refine⟨hF.drop 3,?_⟩;refine Uc O (Ci (v':=.bool true) (Gv K8 K8 _ _ _ _ _ hV8 (show Rep (λ_=>True) _ (Hb K8) [J 6,I [],W b7 1 1,W b8 1 1] from Rep.tree_mk ⟨by decide,by decide⟩ La (hF.rowS (S:=λ_=>True) 1 O (n:=1) Aq O Ba).anyS (hF.rowS (S:=λ_=>True) 0 O (n:=1) G2 O Ba).anyS)) (congrArg Value.bool (Fi _))) (Ra F5 O O O) ?_;rintro _ w ⟨rfl,hE⟩;have hF:=hF.ext hE;have hT:=hT.ext hE;have hU:=hU.ext hE;have hV7:=hV7.ext hE;have hC7:=hC7.ext hE;have hV8:=hV8.ext hE;refine⟨hF.drop 3,?_⟩;refine Fb O (Yb O O) (Fb O (Jb O) ?_);refine Ac (Ga ?_);refine Hc (v:=.bool true) O O ?_;exact⟨O,hF.same⟩
  refine Nf 1 O hF (Eb (cs:=#[J 3,I [57],aQ,aQ]) yZ mZ kX Ta Ta Ib) ?_;intro b9 w hb9 hF hE;have hT:=hT.ext hE;have hU:=hU.ext hE;have hV7:=hV7.ext hE;have hC7:=hC7.ext hE;have hV8:=hV8.ext hE;refine⟨hF.drop 2,?_⟩;refine Nf 1 O hF (Eb (cs:=#[I [97]]) xZ rZ qX Ta Ta Ib) ?_;intro b10 w hb10 hF hE;have hT:=hT.ext hE;have hU:=hU.ext hE;have hV7:=hV7.ext hE;have hC7:=hC7.ext hE;have hV8:=hV8.ext hE;refine⟨hF.drop 3,?_⟩;refine Uc O (SK (some ⟨b10,0,none⟩) 1 1 (some ⟨b9,0,none⟩) 1 1 _) (Ra RJ O O O) ?_;rintro _ w ⟨rfl,hE⟩;have hF:=hF.ext hE;have hT:=hT.ext hE;have hU:=hU.ext hE;have hV7:=hV7.ext hE;have hC7:=hC7.ext hE;have hV8:=hV8.ext hE;refine⟨hF.drop 3,?_⟩;refine Uc O (Ci (v':=.bool true) (Gv K8 K8 _ _ _ _ _ hV8 (show Rep (λ_=>True) _ (Hb K8) [J 6,I [],W b10 1 1,W b9 1 1] from Rep.tree_mk ⟨by decide,by decide⟩ La (hF.rowS (S:=λ_=>True) 0 O (n:=1) Aq O Ba).anyS (hF.rowS (S:=λ_=>True) 1 O (n:=1) G2 O Ba).anyS)) (congrArg Value.bool (Fi _))) (Ra F5 O O O) ?_;rintro _ w ⟨rfl,hE⟩;have hF:=hF.ext hE;have hT:=hT.ext hE;have hU:=hU.ext hE;have hV7:=hV7.ext hE;have hC7:=hC7.ext hE;have hV8:=hV8.ext hE;refine⟨hF.drop 3,?_⟩;refine Fb O (Yb O O) (Fb O (Jb O) ?_);refine Ac (Ga ?_);refine Hc (v:=.bool true) O O ?_;exact⟨O,hF.same⟩
end Go.Scarf
