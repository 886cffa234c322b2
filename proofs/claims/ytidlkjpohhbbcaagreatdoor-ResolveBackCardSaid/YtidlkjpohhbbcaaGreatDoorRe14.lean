/- A part of the proof. -/
import Derived.Test.YtidlkjpohhbbcaaGreatDoorRe12
import Derived.Test.YtidlkjpohhbbcaaGreatDoorIv
set_option linter.all false
set_option maxHeartbeats 8000000
set_option maxRecDepth 10000
namespace Go.Scarf
open Go.RowKit Go.Proofs Go.Proofs.Tryz
abbrev VP(i:UInt8):Tv:=⟨3,[i],none,0,0,none,0,0⟩
abbrev WH(b:Nat):Cv:=⟨some ⟨b,0,none⟩,1,1,3,⟨true,VP 49⟩,⟨true,VP 50⟩,⟨false,O_⟩⟩
abbrev holeV:List Value:=[J 7,I [48],aQ,aQ]
theorem ED(i:UInt8){S:Nat->Prop}{w:World}:Rep S w (Jb (nuS i)) (VP i).cells:=Rep.tree_mk ⟨by decide,by decide⟩ La (Rep.nil_slice 0 Aa none) (Rep.nil_slice 0 Aa none)
theorem s9_rep{S:Nat->Prop}{w:World}:Rep S w (Se s9) (Sv.cells ⟨true,VP 57⟩):=S5 (s:=s9) (ED 57)
theorem Pr{w:World}:RepL (λ_=>True) w ([([97]:Str)].map Zm) [I [97]]:=RepL.cons_mk (c1:=[I [97]]) (c2:=[]) (Rep.lit_mk (v:=I [97]) (show ([97]:Str).length<=9223372036854775807 by decide)) RepL.nil_mk
theorem IF{w:World}:RepL (λ_=>True) w (Ie [QE 0]) holeV:=by
  have e:QE 0=.node 7 [48] [] []:=by kernel_rfl
  rw[e];exact RepL.cons_mk (c1:=holeV) (c2:=[]) (Rep.tree_mk ⟨by decide,by decide⟩ La (Rep.nil_slice 0 Aa none) (Rep.nil_slice 0 Aa none)) RepL.nil_mk
theorem S4{w:World}:RepL (λ_=>True) w (Ie [nuS 57]) (VP 57).cells:=RepL.cons_mk (c2:=[]) (ED 57) RepL.nil_mk
theorem YO{w:World}{b:Nat}{T:TypeId}(h:w.heap[b]? = some (.cells #[I [97]] T)):CvOf (λ_=>True) w cS (WH b) :=
  ⟨rfl,rfl,YB (n:=1) (l:=[I [97]]) h Pr rfl Aa,S5 (s:=⟨true,nuS 49⟩) (ED 49),S5 (s:=⟨true,nuS 50⟩) (ED 50),Ho⟩
theorem CvOf.rep{S:Nat->Prop}{w:World}{c:Cf}{q:Cv}(h:CvOf S w c q)(hk:-1000<=c.cls/\c.cls<=1000):Rep S w (VJ c) q.cells:=by
  obtain⟨A,n,c',k,x,y,z⟩:=q;obtain⟨h1,h2,h3,h4,h5,h6⟩:=h;obtain rfl:=h2;unfold VJ;refine Rep.agg_mk (RepL.cons_mk (c1:=[.slice A n c']) h3 (RepL.cons_mk (c1:=[J c.cls]) (Rep.lit_mk (okI (z:=c.cls) Aa Aa)) (RepL.cons_mk h4 (RepL.cons_mk h5 (RepL.cons_mk (c2:=[]) h6 RepL.nil_mk)))))
theorem FO{w:World}{b bc T:Nat}(h:w.heap[b]? = some (.cells #[I [97]] T))(hc:w.heap[bc]? = some (.cells (WH b).cells.toArray 40)):Rep (λ_=>True) w (.slice ([cS].map VJ)) [W bc 1 1] :=
  YB (n:=1) hc (RepL.cons_mk (c2:=[]) ((YO h).rep Oa) RepL.nil_mk) rfl Aa
def SetQ(w0:World)(t:Tree)(ds:List D)(e:Int)(v:Value)(w':World):Prop:=∃(q:Tv)(A:Option Addr)(c:Nat),v=.tuple #[.agg q.cells.toArray,.slice A ds.length c,J e]/\Rep (Btw w0 w') w' (Jb t) q.cells/\Rep (Btw w0 w') w' (.slice ds) [.slice A ds.length c]/\Same [] w0 w'
theorem HR{w0:World}{b bc T:Nat}(x:Tv)(hx:Rep (λ_=>True) w0 (Jb hmT) x.cells)(h:w0.heap[b]? = some (.cells #[I [97]] T))(hc:w0.heap[bc]? = some (.cells (WH b).cells.toArray 40))(hG:Gl w0) :
    Calls prog 31 #[.agg x.cells.toArray,W bc 1 1,aQ,J 1] w0 (Oc λv w'=>SetQ w0 zeroT ([(0:Int)].map Ai) 10 v w') :=
  (ZG hmT x cS _ 1 [] none 0 (λ_=>True) (λ_=>True) (λ_=>True) w0 hx (FO h hc) (Rep.nil_slice 0 Aa none) La Oa Yq F1 (by rw[show Zj (Jj [] cS).1=noS from by kernel_rfl];exact WS) T9 Ny.1 Ny.2 SB KI hG).mono λe w'' ⟨v,he,hv⟩=>⟨v,he,by
    rcases hv with ⟨-,A,c,rfl,hr,hs⟩|⟨hf,-⟩
    ·exact⟨O_,A,c,O,Jn _ _,hr,hs⟩
    rw[KG]at hf;cases hf⟩
theorem XT{w0:World}{b bc T:Nat}(x:Tv)(A:Option Addr)(c:Nat)(hx:Rep (λ_=>True) w0 (Jb hmT) x.cells)(h:w0.heap[b]? = some (.cells #[I [97]] T))(hc:w0.heap[bc]? = some (.cells (WH b).cells.toArray 40))(hT:Rep (λ_=>True) w0 (Tf tS) [.slice A 1 c])(hG:Gl w0) :
    Calls prog 31 #[.agg x.cells.toArray,W bc 1 1,.slice A 1 c,J 1] w0 (Oc λv w'=>SetQ w0 JB [] 0 v w') :=
  (ZG hmT x cS _ 1 tS A c (λ_=>True) (λ_=>True) (λ_=>True) w0 hx (FO h hc) hT P0 Oa Yq F1 (by rw[I1];exact PR) T9 Ny.1 Ny.2 PJ KI hG).mono λe w'' ⟨v,he,hv⟩=>⟨v,he,by
    rcases hv with ⟨hf,-⟩|⟨-,q,rfl,hr,hs⟩
    ·rw[L7]at hf;cases hf
    rw[I1]at hr ⊢;rw[show L0 cS.cls s9=L0 3 s9 from rfl,OR]at hr ⊢;exact⟨q,none,0,O,hr,Rep.nil_slice 0 Aa none,hs⟩⟩
def idA:Option Value->List Nat
  | some (.pointer (some a))=>[a.block]
  | _=>[]
def FF(t:Tree):Option Value->Value->World->Prop:=λ_ u w=>∃x:Tv,u=.agg x.cells.toArray/\Rep (λ_=>True) w (Jb t) x.cells
def GP(u0:World)(t:Tree)(ds:List D)(e:Int):Option Value->Value->World->Prop:=λa u w=>∃(q:Tv)(A:Option Addr)(c:Nat),u=.tuple #[.agg q.cells.toArray,.slice A ds.length c,J e]/\RX (wE u0) (idA a) w [Jb t] q.cells/\RX (wE u0) (idA a) w [.slice ds] [.slice A ds.length c]
def mvF(u0:World)(t:Tree):Option Value->Value->World->Prop:=λa u w=>∃q:Tv,u=.agg q.cells.toArray/\RX (wE u0) (idA a) w [Jb t] q.cells
def slF(u0:World)(ds:List D):Option Value->Value->World->Prop:=λa u w=>∃(A:Option Addr)(c:Nat),u=.slice A ds.length c/\RX (wE u0) (idA a) w [.slice ds] [.slice A ds.length c]
def isSl(ds:List D)(u:Value)(w:World):Prop:=∃A m c,u=.slice A m c/\Rep (λ_=>True) w (.slice ds) [.slice A m c]
abbrev pV(b:Nat):Value:=V b
section
variable {u0:World}{t:Tree}{ds:List D}{e:Int}
theorem WO:∀a u w w',Same [] w w'->FF t a u w->FF t a u w':=λ_ _ _ _ hs ⟨x,e,h⟩=>⟨x,e,h.ext hs⟩
theorem YQ:∀u w w',Same [] w w'->FF t none u w->FF t (some (pV w.heap.size)) u w':=λ_ _ _ hs ⟨x,e,h⟩=>⟨x,e,h.ext hs⟩
theorem QC:∀a u w w',Same [] w w'->GP u0 t ds e a u w->GP u0 t ds e a u w':=λ_ _ _ _ hs ⟨q,A,c,e,h,h'⟩=>⟨q,A,c,e,h.ext hs,h'.ext hs⟩
theorem AE:∀u w w',Same [] w w'->GP u0 t ds e none u w->GP u0 t ds e (some (pV w.heap.size)) u w':=λ_ _ _ hs ⟨q,A,c,e,h,h'⟩=>⟨q,A,c,e,h.alloc hs rfl,h'.alloc hs rfl⟩
theorem mvF_st:∀a u w w',Same [] w w'->mvF u0 t a u w->mvF u0 t a u w':=λ_ _ _ _ hs ⟨q,e,h⟩=>⟨q,e,h.ext hs⟩
theorem mvF_sn:∀u w w',Same [] w w'->mvF u0 t none u w->mvF u0 t (some (pV w.heap.size)) u w':=λ_ _ _ hs ⟨q,e,h⟩=>⟨q,e,h.alloc hs rfl⟩
theorem T0:∀a u w w',Same [] w w'->slF u0 ds a u w->slF u0 ds a u w':=λ_ _ _ _ hs ⟨A,c,e,h⟩=>⟨A,c,e,h.ext hs⟩
theorem K0:∀u w w',Same [] w w'->slF u0 ds none u w->slF u0 ds (some (pV w.heap.size)) u w':=λ_ _ _ hs ⟨A,c,e,h⟩=>⟨A,c,e,h.alloc hs rfl⟩
end
section
variable {n:Nat}{ops:List Oper}{Z:Nat->World->Prop}{w00 u0:World}{sl:List (Nat × Value)}{H:Nat × Nat}{l:List Fact}{i d:Nat}{ty:Nat}{pos:String}{aft:Array Edge}{g:Option (Nat × Bool)}{ats:Array TypeId}{S:Nat->Bool}{s:Nat->Value}{w:World}{t:Tree}{ds:List D}{e:Int}
theorem HB{k' d':Nat}{N:Nat}{T:TypeId}{lv:List Value}(hI:IG Z w00 sl H l S s w)(hd:∀d∈Rg ops i,S d=true)(k:Nat)(hk:l[k]? = some (k',d',Z0 N (.cells lv.toArray T)))(hm:(Rg ops i).contains k'=true)(hn:Nat.blt d' n=true)(hr:RepL (λ_=>True) w ds lv)(hN:ds.length=N)(hb:decide (N<=9)=true):isSl ds (ev n s (.tmp d')) w:=by
  rw[Wl hn];obtain⟨b,e,hb'⟩:=hI.dep hd k hk hm;exact⟨_,_,_,e,YB hb' hr hN (by have:=of_decide_eq_true hb;omega)⟩
theorem st_map{ks:List Str}{xs:List Tree}{x y:Operand}(hp:Ph Z sl H l)(k:Nat)(hk:l[k]? = some (i,d,FF (.node 6 [] ks xs)))(hi:ops[i]? = some ⟨some d,.call ⟨.value (.func 32),#[x,y],ats⟩,ty,pos,aft,g⟩)
    (h:∀S s w,(∀d∈Rg ops i,S d=true)->IG Z w00 sl H l S s w->isSl (ks.map Zm) (ev n s x) w/\isSl (Ie xs) (ev n s y) w) (hw:∀s,Ya ops n s ⟨some d,.call ⟨.value (.func 32),#[x,y],ats⟩,ty,pos,aft,g⟩=true:=by exact λ_=>rfl):StepA prog n ops (IG Z w00 sl H l) i :=
  g_call hp k hk hi (λS s w hd hI=>by
    obtain⟨⟨A,m,c,e1,h1⟩,B,m',c',e2,h2⟩:=h S s w hd hI;refine⟨32,_,_,_,RQ A m c B m' c' w,Ua NQ O e1 e2,?_⟩;rintro v w'' ⟨rfl,hs⟩;exact⟨hs,⟨6,[],A,m,c,B,m',c'⟩,O,Rep.tree_mk ⟨by decide,by decide⟩ La (h1.ext hs) (h2.ext hs)⟩) hw
theorem st_se{zop:Operand}{zv:Value}{b1 x y ix iy:Nat}(hp:Ph Z sl H l)(k kx ky:Nat)(hk:l[k]? = some (i,d,GP u0 t ds e))(hx:l[kx]? = some (ix,x,FF hmT))(hy:l[ky]? = some (iy,y,Z0 1 (.cells (WH b1).cells.toArray 40)))
    (hi:ops[i]? = some ⟨some d,.call ⟨.value (.func 31),#[.tmp x,.tmp y,zop,.const (J 1)],ats⟩,ty,pos,aft,g⟩) (mx:(Rg ops i).contains ix=true) (my:(Rg ops i).contains iy=true) (nx:Nat.blt x n=true) (ny:Nat.blt y n=true)
    (hz:∀S s w,(∀d∈Rg ops i,S d=true)->IG Z w00 sl H l S s w->ev n s zop=zv)
    (hc:∀(x:Tv)(bc:Nat)(w:World),Same [] w00 w->Rep (λ_=>True) w (Jb hmT) x.cells->w.heap[bc]? = some (.cells (WH b1).cells.toArray 40)->Calls prog 31 #[.agg x.cells.toArray,W bc 1 1,zv,J 1] w (Oc λv w'=>SetQ w t ds e v w'))
    (hZ:∀b w,Z b w->b<w.heap.size) (hw:∀s,Ya ops n s ⟨some d,.call ⟨.value (.func 31),#[.tmp x,.tmp y,zop,.const (J 1)],ats⟩,ty,pos,aft,g⟩=true:=by exact λ_=>rfl):StepA prog n ops (IG Z w00 sl H l) i :=
  g_call hp k hk hi (λS s w hd hI=>by
    obtain⟨q1,e1,h1⟩:=hI.dep hd kx hx mx;obtain⟨bc,e2,h2⟩:=hI.dep hd ky hy my;refine⟨31,_,_,_,hc q1 bc w hI.2.1 h1 h2,EO en_31 O ((Wl nx).trans e1) ((Wl ny).trans e2) (hz S s w hd hI) O,?_⟩;rintro v w' ⟨q,A',c,rfl,r1,r2,hs⟩;have hid:∀b∈idA (Mq H S s),b<w.heap.size:=λb hb=>by
      unfold Mq at hb;by_cases hA:S H.1=true
      ·rw[if_pos hA]at hb
       obtain⟨b',e,hz,hge⟩:=hI.2.2.2 hA;rw[e]at hb;obtain rfl:b=b':=by simpa[idA]using hb
       exact hZ _ _ hz
      rw[if_neg hA]at hb;cases hb
    exact⟨hs,q,A',c,O,RX.made (Nat.zero_le _) hid r1,RX.made (Nat.zero_le _) hid r2⟩) hw
theorem st_x0{i' d':Nat}(hp:Ph Z sl H l)(k k':Nat)(hk:l[k]? = some (i,d,mvF u0 t))(hk':l[k']? = some (i',d',GP u0 t ds e))(hi:ops[i]? = some ⟨some d,.extract (.tmp d') 0,ty,pos,aft,g⟩)(hm:(Rg ops i).contains i'=true)(hn:Nat.blt d' n=true)
    (hw:∀s,Ya ops n s ⟨some d,.extract (.tmp d') 0,ty,pos,aft,g⟩=true:=by exact λ_=>rfl):StepA prog n ops (IG Z w00 sl H l) i :=
  Uu hp k hk hi (λS s w hd hI=>by
    obtain⟨q,A,c,e,h1,h2⟩:=hI.dep hd k' hk' hm;exact⟨_,w,Wj ((Wl hn).trans e) O,Same.refl _ _,q,O,h1⟩) hw
theorem SO{i' d':Nat}(hp:Ph Z sl H l)(k k':Nat)(hk:l[k]? = some (i,d,slF u0 ds))(hk':l[k']? = some (i',d',GP u0 t ds e))(hi:ops[i]? = some ⟨some d,.extract (.tmp d') 1,ty,pos,aft,g⟩)(hm:(Rg ops i).contains i'=true)(hn:Nat.blt d' n=true)
    (hw:∀s,Ya ops n s ⟨some d,.extract (.tmp d') 1,ty,pos,aft,g⟩=true:=by exact λ_=>rfl):StepA prog n ops (IG Z w00 sl H l) i :=
  Uu hp k hk hi (λS s w hd hI=>by
    obtain⟨q,A,c,e,h1,h2⟩:=hI.dep hd k' hk' hm;exact⟨_,w,Wj ((Wl hn).trans e) O,Same.refl _ _,A,c,O,h2⟩) hw
theorem IP{i' d':Nat}(hp:Ph Z sl H l)(k k':Nat)(hk:l[k]? = some (i,d,WJ (J e)))(hk':l[k']? = some (i',d',GP u0 t ds e))(hi:ops[i]? = some ⟨some d,.extract (.tmp d') 2,ty,pos,aft,g⟩)(hm:(Rg ops i).contains i'=true)(hn:Nat.blt d' n=true)
    (hw:∀s,Ya ops n s ⟨some d,.extract (.tmp d') 2,ty,pos,aft,g⟩=true:=by exact λ_=>rfl):StepA prog n ops (IG Z w00 sl H l) i :=
  Uu hp k hk hi (λS s w hd hI=>by
    obtain⟨q,A,c,e,h1,h2⟩:=hI.dep hd k' hk' hm;exact⟨_,w,Wj ((Wl hn).trans e) O,Same.refl _ _,O⟩) hw
def Z1(b:Nat)(w:World):Prop:=w.heap[b]? = some (.cells #[J 0,I [],aQ,aQ] 36)
def Z2(u0:World)(t:Tree)(b:Nat)(w:World):Prop:=∃q:Tv,w.heap[b]? = some (.cells q.cells.toArray 36)/\RX (wE u0) [b] w [Jb t] q.cells
theorem Z1_st:∀b w w',Same [] w w'->Z1 b w->Z1 b w':=λ_ _ _ hs h=>Vq h hs
theorem Z2_st:∀b w w',Same [] w w'->Z2 u0 t b w->Z2 u0 t b w':=λ_ _ _ hs ⟨q,h,h'⟩=>⟨q,Vq h hs,h'.ext hs⟩
def l2(u0:World)(t:Tree)(ds:List D)(er:Int)(p:Nat × Nat)(e:Nat)(q:Nat × Nat)(e':Nat)(r:Nat × Nat):List Fact :=
  [(p.1,p.2,GP u0 t ds er),(p.1+2,q.1,slF u0 ds),(p.1+3,q.2,WJ (J er)),(e,r.1,slF u0 ds),(e',r.2,WJ (J er))]
theorem AllG.nil{S:Nat->Bool}{s:Nat->Value}{w:World}:AllG H S s w []:=λk f h=>by simp at h
theorem AllG.cons{S:Nat->Bool}{s:Nat->Value}{w:World}{f:Fact}(h:S f.1=true->f.2.2 (Mq H S s) (s f.2.1) w)(hl:AllG H S s w l):AllG H S s w (f::l):=λk g hg=>by
  cases k with
  | zero => obtain rfl : f = g := by simpa using hg
            exact h
  | succ k=>exact hl k g (by simpa using hg)
theorem st_st{er:Int}{p q r:Nat × Nat}{st dv:Nat}(k31 k32 k33 k34:Nat)(h31:l[k31]? = some (p.1,p.2,GP u0 t ds er))(h32:l[k32]? = some (p.1+1,dv,mvF u0 t))(h33:l[k33]? = some (p.1+2,q.1,slF u0 ds))(h34:l[k34]? = some (p.1+3,q.2,WJ (J er)))
    (hi:ops[st]? = some ⟨none,.store 36 (.tmp H.2) (.tmp dv),ty,pos,aft,g⟩) (hA:Nat.blt H.2 n=true) (hv:Nat.blt dv n=true) (mA:(Rg ops st).contains H.1=true:=by kernel_rfl) (mv:(Rg ops st).contains (p.1+1)=true:=by kernel_rfl)
    (m37:(Rg ops (st+1)).contains st=true:=by kernel_rfl) (m38:(Rg ops (st+2)).contains (st+1)=true:=by kernel_rfl) (hsz:decide (st+2<ops.length/\p.1+3<st/\H.1<st)=true:=by kernel_rfl)
    (hw:∀s,Ya ops n s ⟨none,.store 36 (.tmp H.2) (.tmp dv),ty,pos,aft,g⟩=true:=by exact λ_=>rfl) :
    StepA prog n ops (Px st (IG Z1 w00 sl H l) (IG (Z2 u0 t) w00 sl H (l2 u0 t ds er p (st+1) q (st+2) r))) st:=.at λS s w hS hd hc hI=>by
  have hsz:=of_decide_eq_true hsz;obtain⟨h1,h2,h3,h4⟩:=id hI;have sA:S H.1=true:=hd _ (List.contains_iff_mem.1 mA);obtain⟨b,eb,hz,hb⟩:=h4 sA;obtain⟨x,ex,hx⟩:=hI.dep hd k32 h32 mv;have ea:Mq H S s=some (pV b):=by unfold Mq;rw[sA,if_pos rfl,eb]
  rw[ea]at hx;have hF:FR w00 [] [(b,.cells (List.toArray [J 0,I [],aQ,aQ]) 36)] w:=⟨h2,λq hq=>by rw[pQ.1 hq];exact⟨hz,.inl hb⟩,by simp⟩;have s37:S (st+1)=false:=by
    cases e:S (st+1)with
    | false=>rfl
    | true=>rw[hc _ Aa e st (List.contains_iff_mem.1 m37)]at hS;cases hS
  have s38:S (st+2)=false:=by
    cases e:S (st+2)with
    | false=>rfl
    | true=>rw[hc _ Aa e (st+1) (List.contains_iff_mem.1 m38)]at s37;cases s37
  refine does_dg (λ_ _ _=>True) .done (Aw hi hF oZ ((Wl hA).trans eb) ((Wl hv).trans ex) Oi (λw' hF' hs=>⟨trivial,d_nil (Qb ?_)⟩) O O O (hw s));have eI:Mq H (XJ st S) s=some (pV b):=by rw[<-ea];unfold Mq;rw[Em Aa]
  refine⟨h1,hF'.same,?_,λ_=>⟨b,eb,⟨x,hF'.heap (i:=0) O,hx.store hs (by simp[idA])⟩,hb⟩⟩;refine .cons (λh=>?_) (.cons (λh=>?_) (.cons (λh=>?_) (.cons (λh=>?_) (.cons (λh=>?_) .nil))))
  ·rw[Em (by show p.1 ≠ st;omega)]at h
   have:=h3 k31 _ h31 h;rw[ea]at this;obtain⟨q,A,c,e,g1,g2⟩:=this;rw[eI];exact⟨q,A,c,e,g1.store hs (by simp[idA]),g2.store hs (by simp[idA])⟩
  ·rw[Em (by show p.1 + 2 ≠ st;omega)]at h
   have:=h3 k33 _ h33 h;rw[ea]at this;obtain⟨A,c,e,g1⟩:=this;rw[eI];exact⟨A,c,e,g1.store hs (by simp[idA])⟩
  ·rw[Em (by show p.1 + 3 ≠ st;omega)]at h
   exact h3 k34 _ h34 h
  ·rw[Em (by show st + 1 ≠ st;omega)]at h
   rw[s37]at h;cases h
  rw[Em (by show st + 2 ≠ st;omega)]at h;rw[s38]at h;cases h
theorem F_{Z1 Z2:Nat->World->Prop}{l1 l2:List Fact}{st N:Nat}(hs:AllEq s sl)(h:(decide (st<N)&&decide (H.1<N)&&l1.all λf=>decide (f.1<N))=true):Px st (IG Z1 w sl H l1) (IG Z2 w sl H l2) (λi=>!decide (i<N)) s w:=by
  rw[Bool.and_eq_true,Bool.and_eq_true,decide_eq_true_eq,decide_eq_true_eq]at h;unfold Px;rw[if_neg (by simp[h.1.1])];refine⟨hs,Same.refl _ _,λk f hf hS=>?_,λhA=>?_⟩
  ·have := of_decide_eq_true (List.all_eq_true.1 h.2 f (List.mem_of_getElem? hf))
   simp[this]at hS
  simp[h.1.2]at hA
theorem LQ{J1 J2:(Nat->Bool)->(Nat->Value)->World->Prop}{st:Nat}(h:Px st J1 J2 (λ_=>true) s w):J2 (λ_=>true) s w:=by
  unfold Px at h
  rwa [if_pos rfl]at h
end
theorem HW{x y:Tv}(h:x.cells=y.cells):y=x:=by
  obtain⟨k,t,A,n,c,B,m,e⟩:=x;obtain⟨k',t',A',n',c',B',m',e'⟩:=y;simp only[Tv.cells,List.cons.injEq,Value.int.injEq,Value.string.injEq,Value.slice.injEq,true_and,and_true]at h;obtain⟨rfl,h2,⟨rfl,rfl,rfl⟩,rfl,rfl,rfl⟩:=h;have:t=t':=by
    have:=congrArg (λb:ByteArray=>b.data.toList) h2;simpa using this
  rw[this]
theorem tv_kt{S:Nat->Prop}{w:World}{t:Tree}{x:Tv}(h:Rep S w (Jb t) x.cells):x.k=t.kind/\x.t=t.text:=by
  obtain⟨y,hy,h1,h2,-⟩:=Wh h;obtain rfl:=HW hy;exact⟨h1,h2⟩
theorem AW{S:Nat->Prop}{w:World}:RepL S w ([(0:Int)].map Ai) [J 0]:=RepL.cons_mk (c1:=[J 0]) (c2:=[]) (Tm Oa Oa) RepL.nil_mk
def sl7(b1:Nat)(b2:Nat)(b6:Nat)(A4:Option Addr)(c4:Nat)(A10:Option Addr)(c10:Nat):List (Nat × Value):=[(1,pV b2),(2,I pS),(3,.bool true),(4,.slice A4 1 c4),(5,J 0),(6,pV b6),(7,.bool true),(8,I aS),(9,J 0),(10,.slice A10 1 c10),(11,.bool true)]
def l7(u0:World)(b1:Nat)(A4:Option Addr)(c4:Nat):List Fact:=[(0,53,Z0 1 (.cells ([I [97]]:List Value).toArray 9)),(1,54,WJ (.agg holeV.toArray)),(2,55,Z0 1 (.cells holeV.toArray 36)),(3,56,FF hmT),(4,57,WJ (.agg (WH b1).cells.toArray)),(5,58,Z0 1 (.cells (WH b1).cells.toArray 40)),(6,59,GP u0 zeroT ([(0:Int)].map Ai) (10)),(7,52,GP u0 zeroT ([(0:Int)].map Ai) (10)),(8,60,mvF u0 zeroT),(9,61,slF u0 ([(0:Int)].map Ai)),(10,62,WJ (J 10))]
theorem ph7{u0:World}{b1:Nat}{b2:Nat}{b6:Nat}{A4:Option Addr}{c4:Nat}{A10:Option Addr}{c10:Nat}:Ph Z1 (sl7 b1 b2 b6 A4 c4 A10 c10) (11,12) (l7 u0 b1 A4 c4):=⟨by unfold l7;repeat (first|exact StabG.nil|refine StabG.cons ?_ ?_|exact R0|exact WP|exact WO|exact QC|exact mvF_st|exact T0),by unfold l7;repeat (first|exact StabN.nil|refine StabN.cons ?_ ?_|exact W0|exact UO|exact YQ|exact AE|exact mvF_sn|exact K0),by kernel_rfl,by kernel_rfl,Z1_st⟩
theorem ph7b{u0:World}{b1:Nat}{b2:Nat}{b6:Nat}{A4:Option Addr}{c4:Nat}{A10:Option Addr}{c10:Nat}:Ph (Z2 u0 zeroT) (sl7 b1 b2 b6 A4 c4 A10 c10) (11,12) (l2 u0 zeroT ([(0:Int)].map Ai) (10) (7,52) 13 (61,62) 14 (13,14)):=⟨.cons QC (.cons T0 (.cons R0 (.cons T0 (.cons R0 .nil)))),.cons AE (.cons K0 (.cons W0 (.cons K0 (.cons W0 .nil)))),by kernel_rfl,by kernel_rfl,Z2_st⟩
def sl8(b1:Nat)(b2:Nat)(b6:Nat)(A4:Option Addr)(c4:Nat)(A10:Option Addr)(c10:Nat)(bt7:Nat)(A7:Option Addr)(c7:Nat):List (Nat × Value):=[(1,pV b2),(2,I pS),(3,.bool true),(4,.slice A4 1 c4),(5,J 0),(6,pV b6),(7,.bool true),(8,I aS),(9,J 0),(10,.slice A10 1 c10),(11,.bool true),(12,pV bt7),(13,.slice A7 1 c7),(14,J 10)]
def l8(u0:World)(b1:Nat)(A4:Option Addr)(c4:Nat):List Fact:=[(0,64,Z0 1 (.cells ([I [97]]:List Value).toArray 9)),(1,65,WJ (.agg holeV.toArray)),(2,66,Z0 1 (.cells holeV.toArray 36)),(3,67,FF hmT),(4,68,WJ (.agg (WH b1).cells.toArray)),(5,69,Z0 1 (.cells (WH b1).cells.toArray 40)),(6,70,WJ (.slice A4 1 c4)),(7,71,GP u0 JB [] (0)),(8,63,GP u0 JB [] (0)),(9,72,mvF u0 JB),(10,73,slF u0 []),(11,74,WJ (J 0))]
theorem ph8{u0:World}{b1:Nat}{b2:Nat}{b6:Nat}{A4:Option Addr}{c4:Nat}{A10:Option Addr}{c10:Nat}{bt7:Nat}{A7:Option Addr}{c7:Nat}:Ph Z1 (sl8 b1 b2 b6 A4 c4 A10 c10 bt7 A7 c7) (12,15) (l8 u0 b1 A4 c4):=⟨by unfold l8;repeat (first|exact StabG.nil|refine StabG.cons ?_ ?_|exact R0|exact WP|exact WO|exact QC|exact mvF_st|exact T0),by unfold l8;repeat (first|exact StabN.nil|refine StabN.cons ?_ ?_|exact W0|exact UO|exact YQ|exact AE|exact mvF_sn|exact K0),by kernel_rfl,by kernel_rfl,Z1_st⟩
theorem ph8b{u0:World}{b1:Nat}{b2:Nat}{b6:Nat}{A4:Option Addr}{c4:Nat}{A10:Option Addr}{c10:Nat}{bt7:Nat}{A7:Option Addr}{c7:Nat}:Ph (Z2 u0 JB) (sl8 b1 b2 b6 A4 c4 A10 c10 bt7 A7 c7) (12,15) (l2 u0 JB [] (0) (8,63) 14 (73,74) 15 (16,17)):=⟨.cons QC (.cons T0 (.cons R0 (.cons T0 (.cons R0 .nil)))),.cons AE (.cons K0 (.cons W0 (.cons K0 (.cons W0 .nil)))),by kernel_rfl,by kernel_rfl,Z2_st⟩
theorem BR(w0:World)(hG:Gl w0):Calls prog 6 #[] w0 (Oc λv w'=>v=.bool true/\Same [] w0 w'):=by
 refine Ea func6 O ntmps6 Bb (args_0) ?_;have hF:=FR.start w0 [];refine Da (Ba (Kb O) (Ob ?_));refine Ck 1 hF (Fb (cs:=#[I [97]]) iX sZ vX Oa Oa Ib) ?_;rintro b1 w hb1 hF -;refine Qa hF (Lh (v':=.agg (VP 49).cells.toArray) (W9 1 Aa Aa _ (hG.ext hF.same)) Ib) (Ma CB O O) ?_;intro w hF;refine Qa hF (PN (VP 49) _) (Ma VV O O) ?_;intro w hF;refine Qa hF (Lh (v':=.agg (VP 50).cells.toArray) (W9 2 Aa Aa _ (hG.ext hF.same)) Ib) (Ma CB O O) ?_;intro w hF;refine Qa hF (PN (VP 50) _) (Ma VV O O) ?_;intro w hF;refine Ia (w':=w) (v:=.agg #[W b1 1 1,J 3,.bool true,J 3,I [49],aQ,aQ,.bool true,J 3,I [50],aQ,aQ,.bool false,J 0,I [],aQ,aQ]) Ib (Hf hF zeroValue40 qZ O ?_);rintro b2 w hb2 hF -;refine Ob (Yb (Ig dZ qZ O hF.F 0 O O) ?_);refine Qa hF (Lh (v':=.tuple #[I pS,.bool true]) (KE cS (WH b1) _ _ (YO (hF.heap (i:=1) O)) Yq (hG.ext hF.same)) (by rw[YE])) (Ma PW O O) ?_;intro w hF;refine Ba (Aj O) (Ba (L1 O O) (Ba (Xn O O) (Ba (Xf O) (Ba (Kb O) (Ca (Fa ?_))))));refine Be (zs:=.of []) (.free 0 (cQ [1,2,3] (bQ [4,5,6,7,8] .nil))) hF ?_;intro w hF;refine Nf O (Ig dZ qZ O C0 0 O O) (Vd hF (Lh (v':=.agg (VP 57).cells.toArray) (W9 9 Aa Aa _ (hG.ext hF.same)) Ib) O (Ma CB O O) ?_);intro w hF;refine⟨hF,?_⟩;refine Vd hF (PN (VP 57) _) O (Ma VV O O) ?_;intro w hF;refine⟨hF,?_⟩;refine Cd O (CV [] none 0 cS (WH b1) s9 ⟨true,VP 57⟩ (λ_=>True) (λ_=>True) (λ_=>True) _ (Rep.nil_slice 0 Aa none) La Oa (YO (hF.heap (i:=1) O)) Yq s9_rep SI (hG.ext hF.same) (by rw[YE];decide)) (De en_20 O O O O) ?_;rintro _ w ⟨A4,c4,rfl,hRt,hE⟩;rw[QU]at hRt ⊢;have hT:=RX.made (ids:=[b2,b1]) hF.same.size (λx hx=>hF.lt_ids (by simpa using hx)) hRt;have hF:=hF.ext hE;clear hE hRt;refine⟨hF,?_⟩;refine Hb O (Aj O) (Hb O (yxl O O) (Hb O (Nh O O) (Hb O (Cm O) (Hb O (Gb O) (d_nil (Ga (Da (Ba (Qe O) (Yb (Ig dZ qZ O hF.F 0 O O) ?_)))))))))
 refine Ta (find_c tS A4 c4 cS (WH b1) _ (λ_=>True) _ hT.rep P0 Oa (YO (hF.heap (i:=1) O)) Yq (hG.ext hF.same)) (Ua en_24 O O O) ?_;rintro _ w ⟨y,rfl,hRt,hE⟩;rw[I1]at hRt;rw[L7];have hyt:=tv_kt (Ze hRt).2.2.2.2;have hyh:=(Ze hRt).1;clear hRt;obtain⟨yh,yk,yt,yA,yn,yc,yB,ym,ye⟩:=y;obtain⟨-,hyt⟩:=hyt;obtain rfl:yh=true:=hyh;obtain rfl:yt=[57]:=hyt;have hT:=hT.ext hE;have hF:=hF.ext hE;refine Ba (Aj O) (Ba (Ru O O) (Ba (Xn O O) ?_));refine Hf hF tX pZ O ?_;intro b3 w hb3 hF hE;have hT:=hT.alloc hE hb3;refine Ba (Kb O) (Ob (Ba (Qe O) ?_));refine Ta (Lh (v':=.tuple #[I aS,J 0]) (Mu tS A4 c4 _ _ hT.rep N5 (hG.ext hF.same)) (by rw[SM])) (Ma QJ O O) ?_;rintro _ w ⟨rfl,hE⟩;have hF:=hF.ext hE;have hT:=hT.ext hE;refine Ba (Aj O) (Ba (L1 O O) (Ba (Nh O O) (Ba (Xf O) (Ba (Gb O) (Ob (Ba (Pd O) ?_))))));refine Ta (load_c aS small_nb small_al DT EJ VZ (by rw[RT];exact N5) _ (hG.ext hF.same)) (Ma GF O O) ?_;rintro _ w ⟨A10,c10,rfl,hU,hE⟩;rw[XM]at hU ⊢;have hT:=(hT.ext hE).rep.anyS;have hF:=hF.ext hE;refine Ba (Aj O) (Ba (yxl O O) (Ba (Xn O O) (Ba (Cm O) (Ba (Kb O) (Ca (Fa ?_))))));refine Eh (λσ w=>∃(q7:Tv),∃(A7:Option Addr),∃(c7:Nat),∃(bt7:Nat),(Rep (λ_=>True) w (Tf tS) [.slice A4 1 c4])/\(Rep (λ_=>True) w (Tf tS) [.slice A10 1 c10])/\(Rep (λ_=>True) w (Jb zeroT) q7.cells)/\(Rep (λ_=>True) w (.slice ([(0:Int)].map Ai)) [.slice A7 1 c7])/\AllEq σ [(1,V b2),(2,I pS),(3,.bool true),(4,.slice A4 1 c4),(5,J 0),(6,V b3),(7,.bool true),(8,I aS),(9,J 0),(10,.slice A10 1 c10),(11,.bool true),(12,V bt7),(13,.slice A7 1 c7),(14,J 10)]/\FR w0 [] [(bt7,.cells (q7.cells).toArray 36),(b3,.cells #[.bool true,J yk,I [57],.slice yA yn yc,.slice yB ym ye] 38),(b2,.cells #[W b1 1 1,J 3,.bool true,J 3,I [49],aQ,aQ,.bool true,J 3,I [50],aQ,aQ,.bool false,J 0,I [],aQ,aQ] 40),(b1,.cells #[I [97]] 9)] w) ?_ ?_
 ·
  have hF:=hF.drew;have hT:=hT.ext (Same.drew w);have hU:=hU.ext (Same.drew w);have hG0:=hG;have hG:=hG0.ext hF.same;have hb1:=hF.heap (i:=2) rfl;have hp:=@ph7 w0 b1 b2 b3 A4 c4 A10 c10;have hq:=@ph7b w0 b1 b2 b3 A4 c4 A10 c10;refine c_all 15 (Inv:=Px 12 (IG Z1 w.drew (sl7 b1 b2 b3 A4 c4 A10 c10) (11,12) (l7 w0 b1 A4 c4)) (IG (Z2 w0 zeroT) w.drew (sl7 b1 b2 b3 A4 c4 A10 c10) (11,12) (l2 w0 zeroT ([(0:Int)].map Ai) (10) (7,52) 13 (61,62) 14 (13,14)))) Ib Ib ?_ ?_ ?_
  ·exact F_ ⟨O,O,O,O,O,O,O,O,O,O,O,trivial⟩ O
  ·exact (below (below (below (below (below (below (below (below (below (below (below (below (below (below (below RZ
     (.ahead (VU [] hp 0 rfl rfl (λS s w hd hI=>trivial) λs w=>Fb iX sZ vX Oa Oa Ib)))
     (.ahead (Uu hp 1 rfl rfl λS s w hd hI=>⟨_,w,by kernel_rfl,Same.refl _ _,rfl⟩)))
     (.ahead (VU [(54,.agg holeV.toArray)] hp 2 rfl rfl (λS s w hd hI=>⟨hI.dep hd 1 rfl rfl,trivial⟩) λs w=>Fb jX oZ sX Oa Oa Ib)))
     (.ahead (st_map hp 3 rfl rfl λS s w hd hI=>⟨HB hI hd 0 rfl rfl rfl Pr rfl rfl,HB hI hd 2 rfl rfl rfl IF rfl rfl⟩)))
     (.ahead (Uu hp 4 rfl rfl λS s w hd hI=>⟨_,w,Za (l:=(WH b1).cells) dZ qZ ((Wl rfl).trans hI.1.1) rfl ((hF.ext hI.2.1).part 1 0 rfl rfl),Same.refl _ _,rfl⟩)))
     (.ahead (VU [(57,.agg (WH b1).cells.toArray)] hp 5 rfl rfl (λS s w hd hI=>⟨hI.dep hd 4 rfl rfl,trivial⟩) λs w=>Fb mX qZ zeroValue40 Oa Oa Ib)))
     (.ahead (st_se hp 6 3 5 rfl rfl rfl rfl rfl rfl rfl rfl (λS s w hd hI=>rfl) (λx bc w hs hx hb=>HR x hx (Vq hb1 hs) hb (hG.ext hs)) (λb w h=>Mb h))))
     (.ahead (g_cp hp 7 6 rfl rfl rfl rfl rfl)))
     (.ahead (st_x0 hp 8 7 rfl rfl rfl rfl rfl)))
     (.both (SO hp 9 7 rfl rfl rfl rfl rfl) (SO hq 1 0 rfl rfl rfl rfl rfl) rfl))
     (.both (IP hp 10 7 rfl rfl rfl rfl rfl) (IP hq 2 0 rfl rfl rfl rfl rfl) rfl))
     (.ahead (g_al hp rfl sX rfl)))
     (st_st 7 8 9 10 rfl rfl rfl rfl rfl rfl rfl))
     (.behind (g_as hq 3 1 rfl rfl rfl rfl rfl)))
     (.behind (g_as hq 4 2 rfl rfl rfl rfl rfl)))
  intro s w' hJ;obtain⟨h1,h2,h3,h4⟩:=LQ hJ;obtain⟨bt,eb,⟨q,hq,hV⟩,hb⟩:=h4 rfl;obtain⟨A,c,e5,hC⟩:=h3 3 _ rfl rfl;have e6:=h3 4 _ rfl rfl;exact Qb ⟨q,A,c,bt,(hT.ext h2),(hU.ext h2),hV.rep.anyS,hC.rep.anyS,⟨h1.1,h1.2.1,h1.2.2.1,h1.2.2.2.1,h1.2.2.2.2.1,h1.2.2.2.2.2.1,h1.2.2.2.2.2.2.1,h1.2.2.2.2.2.2.2.1,h1.2.2.2.2.2.2.2.2.1,h1.2.2.2.2.2.2.2.2.2.1,h1.2.2.2.2.2.2.2.2.2.2.1,eb,e5,e6,trivial⟩,hF.cons_ext h2 hq hb⟩
 rintro σ w ⟨q7,A7,c7,bt7,hT,hU,hV7,hC7,hs,hF⟩;refine Eg.slots hs ?_;clear hs;intro σ;refine Ga (Fa ?_);refine Eh (λσ w=>∃(q8:Tv),∃(bt8:Nat),(Rep (λ_=>True) w (Tf tS) [.slice A4 1 c4])/\(Rep (λ_=>True) w (Tf tS) [.slice A10 1 c10])/\(Rep (λ_=>True) w (Jb zeroT) q7.cells)/\(Rep (λ_=>True) w (.slice ([(0:Int)].map Ai)) [.slice A7 1 c7])/\(Rep (λ_=>True) w (Jb JB) q8.cells)/\AllEq σ [(2,I pS),(3,.bool true),(4,.slice A4 1 c4),(5,J 0),(6,V b3),(7,.bool true),(8,I aS),(9,J 0),(10,.slice A10 1 c10),(11,.bool true),(12,V bt7),(13,.slice A7 1 c7),(14,J 10),(15,V bt8),(17,J 0)]/\FR w0 [] [(bt8,.cells (q8.cells).toArray 36),(bt7,.cells (q7.cells).toArray 36),(b3,.cells #[.bool true,J yk,I [57],.slice yA yn yc,.slice yB ym ye] 38),(b2,.cells #[W b1 1 1,J 3,.bool true,J 3,I [49],aQ,aQ,.bool true,J 3,I [50],aQ,aQ,.bool false,J 0,I [],aQ,aQ] 40),(b1,.cells #[I [97]] 9)] w) ?_ ?_
 ·
  have hF:=hF.drew;have hT:=hT.ext (Same.drew w);have hU:=hU.ext (Same.drew w);have hV7:=hV7.ext (Same.drew w);have hC7:=hC7.ext (Same.drew w);have hG0:=hG;have hG:=hG0.ext hF.same;have hb1:=hF.heap (i:=3) rfl;have hp:=@ph8 w0 b1 b2 b3 A4 c4 A10 c10 bt7 A7 c7;have hq:=@ph8b w0 b1 b2 b3 A4 c4 A10 c10 bt7 A7 c7;refine c_all 16 (Inv:=Px 13 (IG Z1 w.drew (sl8 b1 b2 b3 A4 c4 A10 c10 bt7 A7 c7) (12,15) (l8 w0 b1 A4 c4)) (IG (Z2 w0 JB) w.drew (sl8 b1 b2 b3 A4 c4 A10 c10 bt7 A7 c7) (12,15) (l2 w0 JB [] (0) (8,63) 14 (73,74) 15 (16,17)))) Ib Ib ?_ ?_ ?_
  ·exact F_ ⟨O,O,O,O,O,O,O,O,O,O,O,O,O,O,trivial⟩ O
  ·exact (below (below (below (below (below (below (below (below (below (below (below (below (below (below (below (below RZ
     (.ahead (VU [] hp 0 rfl rfl (λS s w hd hI=>trivial) λs w=>Fb iX sZ vX Oa Oa Ib)))
     (.ahead (Uu hp 1 rfl rfl λS s w hd hI=>⟨_,w,by kernel_rfl,Same.refl _ _,rfl⟩)))
     (.ahead (VU [(65,.agg holeV.toArray)] hp 2 rfl rfl (λS s w hd hI=>⟨hI.dep hd 1 rfl rfl,trivial⟩) λs w=>Fb jX oZ sX Oa Oa Ib)))
     (.ahead (st_map hp 3 rfl rfl λS s w hd hI=>⟨HB hI hd 0 rfl rfl rfl Pr rfl rfl,HB hI hd 2 rfl rfl rfl IF rfl rfl⟩)))
     (.ahead (Uu hp 4 rfl rfl λS s w hd hI=>⟨_,w,Za (l:=(WH b1).cells) dZ qZ ((Wl rfl).trans hI.1.1) rfl ((hF.ext hI.2.1).part 2 0 rfl rfl),Same.refl _ _,rfl⟩)))
     (.ahead (VU [(68,.agg (WH b1).cells.toArray)] hp 5 rfl rfl (λS s w hd hI=>⟨hI.dep hd 4 rfl rfl,trivial⟩) λs w=>Fb mX qZ zeroValue40 Oa Oa Ib)))
     (.ahead (g_mv hp 6 rfl rfl 3 rfl rfl)))
     (.ahead (st_se hp 7 3 5 rfl rfl rfl rfl rfl rfl rfl rfl (λS s w hd hI=>(Wl rfl).trans (hI.dep hd 6 rfl rfl)) (λx bc w hs hx hb=>XT x A4 c4 hx (Vq hb1 hs) hb (hT.ext hs) (hG.ext hs)) (λb w h=>Mb h))))
     (.ahead (g_cp hp 8 7 rfl rfl rfl rfl rfl)))
     (.ahead (st_x0 hp 9 8 rfl rfl rfl rfl rfl)))
     (.both (SO hp 10 8 rfl rfl rfl rfl rfl) (SO hq 1 0 rfl rfl rfl rfl rfl) rfl))
     (.both (IP hp 11 8 rfl rfl rfl rfl rfl) (IP hq 2 0 rfl rfl rfl rfl rfl) rfl))
     (.ahead (g_al hp rfl sX rfl)))
     (st_st 8 9 10 11 rfl rfl rfl rfl rfl rfl rfl))
     (.behind (g_as hq 3 1 rfl rfl rfl rfl rfl)))
     (.behind (g_as hq 4 2 rfl rfl rfl rfl rfl)))
  intro s w' hJ;obtain⟨h1,h2,h3,h4⟩:=LQ hJ;obtain⟨bt,eb,⟨q,hq,hV⟩,hb⟩:=h4 rfl;obtain⟨A,c,e5,hC⟩:=h3 3 _ rfl rfl;have e6:=h3 4 _ rfl rfl;exact Qb ⟨q,bt,(hT.ext h2),(hU.ext h2),(hV7.ext h2),(hC7.ext h2),hV.rep.anyS,⟨h1.2.1,h1.2.2.1,h1.2.2.2.1,h1.2.2.2.2.1,h1.2.2.2.2.2.1,h1.2.2.2.2.2.2.1,h1.2.2.2.2.2.2.2.1,h1.2.2.2.2.2.2.2.2.1,h1.2.2.2.2.2.2.2.2.2.1,h1.2.2.2.2.2.2.2.2.2.2.1,h1.2.2.2.2.2.2.2.2.2.2.2.1,h1.2.2.2.2.2.2.2.2.2.2.2.2.1,h1.2.2.2.2.2.2.2.2.2.2.2.2.2.1,eb,e6,trivial⟩,hF.cons_ext h2 hq hb⟩
 rintro σ w ⟨q8,bt8,hT,hU,hV7,hC7,hV8,hs,hF⟩;refine Eg.slots hs ?_;clear hs;intro σ;refine Ga (Fa ?_);refine Dd (.of []) (bQ [0,1,2,3,4,5,6,7,8,9,10,11,12,13,14,15,16,17,18,19,20,21,22,23,24,25,26,27,28,29,30,31,32,33,34,35] (.act 36 (bQ [37,38,39,40,41,42,43,44] (.act 45 (.act 46 (bQ [47,48,49,50,51,52,53,54,55,56,57] (.alt 58 (cQ [59,60,61,62] (.free 63 (.free 64 .nil))) (.act 59 (.alt 58 (cQ [60,61,62] (.free 63 (.free 64 .nil))) (cQ [60,58,61,62] (.free 63 (.free 64 .nil)))))))))))) hF ?_;intro w hF hE;have hT:=hT.ext hE;have hU:=hU.ext hE;have hV7:=hV7.ext hE;have hC7:=hC7.ext hE;have hV8:=hV8.ext hE;refine⟨λwq=>FR w0 [] _ wq,hF,?_⟩;refine Hb O (Sc O) (Hb O (Sc O) (Hb O (Pd O) (Ab O (v:=.bool true) (λw hC=>Me (Ms O O) (O)) (Hb O (Fc O O) (Hb O (Sc O) (Hb O (Cb O) (Ab O (v:=.bool true) (λw hC=>Me (Sj O O) (O)) (Hb O (Fc O O) (Hb O (Sc O) (Hb O (Sc O) (Hb O (Fc O O) (Hb O (Sc O) (Hb O (Rb Sk O) ?_)))))))))))));refine Nf O (OE cZ O C0 2 O O) (Hb O (Fc O O) (Hb O (Sc O) (Hb O (Rb Ih O) (Hb O (Rb Bf O) (Nf O (Tn fZ O C0 2 O O) (Ab O (v:=.bool true) (λw hC=>Me (Ms O O) (O)) (Hb O (Fc O O) (Hb O (Sc O) (Hb O (Cb O) (Ab O (v:=.bool true) (λw hC=>Me (Sj O O) (O)) (Hb O (Fc O O) (Hb O (Sc O) (Hb O (Pd O) ?_)))))))))))));refine Ab O (v:=.bool true) (λw hC=>Me (Ms O O) (O)) (Hb O (Fc O O) (Hb O (Sc O) (Hb O (Sc O) (Hb O (Fc O O) (Hb O (Sc O) (Hb O (Qe O) (Hb O (Qe O) ?_)))))));refine Cd O (HZ tS A4 A10 c4 c10 _ _ _ hT hU) (Ua en_12 O O O) ?_;rintro _ w ⟨rfl,hE⟩;have hF:=hF.ext hE;have hT:=hT.ext hE;have hU:=hU.ext hE;have hV7:=hV7.ext hE;have hC7:=hC7.ext hE;have hV8:=hV8.ext hE;refine⟨hF,?_⟩;refine Hb O (Fc O O) (Hb O (Sc O) (Hb O (Rb Ve O) (Nf O (Pi xQ O C0 1 O O) (Ab O (v:=.bool true) (λw hC=>Me (Sj O O) ((tv_kt hV7).1)) (Hb O (Fc O O) (Hb O (Sc O) (Hb O (Qe O) ?_)))))))
 refine Of 1 O hF (Fb (cs:=#[J 0]) lX sizeOf3 rX Oa Oa Ib) ?_;intro b4 w hb4 hF hE;have hT:=hT.ext hE;have hU:=hU.ext hE;have hV7:=hV7.ext hE;have hC7:=hC7.ext hE;have hV8:=hV8.ext hE;refine⟨hF.drop 1,?_⟩;refine Cd O (Lh (v':=.bool true) (ints_c _ _ _ [0] [0] _ _ _ _ hC7 (hF.rowS (S:=λ_=>True) 0 O (n:=1) AW O Aa)) (congrArg Value.bool (decide_eq_true O))) (Ua en_33 O O O) ?_;rintro _ w ⟨rfl,hE⟩;have hF:=hF.ext hE;have hT:=hT.ext hE;have hU:=hU.ext hE;have hV7:=hV7.ext hE;have hC7:=hC7.ext hE;have hV8:=hV8.ext hE;refine⟨hF.drop 1,?_⟩;refine Hb O (Fc O O) (Hb O (Sc O) (Hb O (Cb O) (Ab O (v:=.bool true) (λw hC=>Me (Sj O O) (O)) (Hb O (Fc O O) (Hb O (Sc O) (Hb O (Cb O) (Ab O (v:=.bool true) (λw hC=>Me (Sj O O) (O)) (Hb O (Fc O O) (Hb O (Sc O) (Nf O (Ig aZ oZ O C0 0 O O) ?_))))))))));refine By ?_ ?_
 ·
  refine Of 1 O hF (Fb (cs:=#[I [97]]) iX sZ vX Oa Oa Ib) ?_;intro b5 w hb5 hF hE;have hT:=hT.ext hE;have hU:=hU.ext hE;have hV7:=hV7.ext hE;have hC7:=hC7.ext hE;have hV8:=hV8.ext hE;refine⟨hF.drop 2,?_⟩;refine Cd O (Lh (v':=.agg (VP 57).cells.toArray) (W9 9 Aa Aa _ (hG.ext hF.same)) Ib) (Ma CB O O) ?_;rintro _ w ⟨rfl,hE⟩;have hF:=hF.ext hE;have hT:=hT.ext hE;have hU:=hU.ext hE;have hV7:=hV7.ext hE;have hC7:=hC7.ext hE;have hV8:=hV8.ext hE;refine⟨hF.drop 2,?_⟩;refine Of 1 O hF (Fb (cs:=#[J 3,I [57],aQ,aQ]) jX oZ sX Oa Oa Ib) ?_;intro b6 w hb6 hF hE;have hT:=hT.ext hE;have hU:=hU.ext hE;have hV7:=hV7.ext hE;have hC7:=hC7.ext hE;have hV8:=hV8.ext hE;refine⟨hF.drop 3,?_⟩;refine Cd O (RQ (some ⟨b5,0,none⟩) 1 1 (some ⟨b6,0,none⟩) 1 1 _) (Ua NQ O O O) ?_;rintro _ w ⟨rfl,hE⟩;have hF:=hF.ext hE;have hT:=hT.ext hE;have hU:=hU.ext hE;have hV7:=hV7.ext hE;have hC7:=hC7.ext hE;have hV8:=hV8.ext hE;refine⟨hF.drop 3,?_⟩;refine Cd O (Lh (v':=.bool true) (V3 JB JB _ _ _ _ _ hV8 (show Rep (λ_=>True) _ (Jb JB) [J 6,I [],W b5 1 1,W b6 1 1] from Rep.tree_mk ⟨by decide,by decide⟩ La (hF.rowS (S:=λ_=>True) 1 O (n:=1) Pr O Aa).anyS (hF.rowS (S:=λ_=>True) 0 O (n:=1) S4 O Aa).anyS)) (congrArg Value.bool (Lj _))) (Ua HJ O O O) ?_;rintro _ w ⟨rfl,hE⟩;have hF:=hF.ext hE;have hT:=hT.ext hE;have hU:=hU.ext hE;have hV7:=hV7.ext hE;have hC7:=hC7.ext hE;have hV8:=hV8.ext hE;refine⟨hF.drop 3,?_⟩;refine Hb O (Fc O O) (Hb O (Kb O) (d_nil (Ga ?_)));refine Lc (v:=.bool true) O O ?_;exact⟨O,hF.same⟩
 refine Cd O (Lh (v':=.agg (VP 57).cells.toArray) (W9 9 Aa Aa _ (hG.ext hF.same)) Ib) (Ma CB O O) ?_;rintro _ w ⟨rfl,hE⟩;have hF:=hF.ext hE;have hT:=hT.ext hE;have hU:=hU.ext hE;have hV7:=hV7.ext hE;have hC7:=hC7.ext hE;have hV8:=hV8.ext hE;refine⟨hF.drop 1,?_⟩;refine By ?_ ?_
 ·
  refine Of 1 O hF (Fb (cs:=#[I [97]]) iX sZ vX Oa Oa Ib) ?_;intro b7 w hb7 hF hE;have hT:=hT.ext hE;have hU:=hU.ext hE;have hV7:=hV7.ext hE;have hC7:=hC7.ext hE;have hV8:=hV8.ext hE;refine⟨hF.drop 2,?_⟩;refine Of 1 O hF (Fb (cs:=#[J 3,I [57],aQ,aQ]) jX oZ sX Oa Oa Ib) ?_;intro b8 w hb8 hF hE;have hT:=hT.ext hE;have hU:=hU.ext hE;have hV7:=hV7.ext hE;have hC7:=hC7.ext hE;have hV8:=hV8.ext hE;refine⟨hF.drop 3,?_⟩;refine Cd O (RQ (some ⟨b7,0,none⟩) 1 1 (some ⟨b8,0,none⟩) 1 1 _) (Ua NQ O O O) ?_;rintro _ w ⟨rfl,hE⟩;have hF:=hF.ext hE;have hT:=hT.ext hE;have hU:=hU.ext hE;have hV7:=hV7.ext hE;have hC7:=hC7.ext hE;have hV8:=hV8.ext hE;refine⟨hF.drop 3,?_⟩;refine Cd O (Lh (v':=.bool true) (V3 JB JB _ _ _ _ _ hV8 (show Rep (λ_=>True) _ (Jb JB) [J 6,I [],W b7 1 1,W b8 1 1] from Rep.tree_mk ⟨by decide,by decide⟩ La (hF.rowS (S:=λ_=>True) 1 O (n:=1) Pr O Aa).anyS (hF.rowS (S:=λ_=>True) 0 O (n:=1) S4 O Aa).anyS)) (congrArg Value.bool (Lj _))) (Ua HJ O O O) ?_;rintro _ w ⟨rfl,hE⟩;have hF:=hF.ext hE;have hT:=hT.ext hE;have hU:=hU.ext hE;have hV7:=hV7.ext hE;have hC7:=hC7.ext hE;have hV8:=hV8.ext hE;refine⟨hF.drop 3,?_⟩;refine Hb O (Fc O O) (Hb O (Kb O) (d_nil (Ga ?_)));refine Lc (v:=.bool true) O O ?_;exact⟨O,hF.same⟩
 refine Of 1 O hF (Fb (cs:=#[J 3,I [57],aQ,aQ]) jX oZ sX Oa Oa Ib) ?_;intro b9 w hb9 hF hE;have hT:=hT.ext hE;have hU:=hU.ext hE;have hV7:=hV7.ext hE;have hC7:=hC7.ext hE;have hV8:=hV8.ext hE;refine⟨hF.drop 2,?_⟩;refine Of 1 O hF (Fb (cs:=#[I [97]]) iX sZ vX Oa Oa Ib) ?_;intro b10 w hb10 hF hE;have hT:=hT.ext hE;have hU:=hU.ext hE;have hV7:=hV7.ext hE;have hC7:=hC7.ext hE;have hV8:=hV8.ext hE;refine⟨hF.drop 3,?_⟩;refine Cd O (RQ (some ⟨b10,0,none⟩) 1 1 (some ⟨b9,0,none⟩) 1 1 _) (Ua NQ O O O) ?_;rintro _ w ⟨rfl,hE⟩;have hF:=hF.ext hE;have hT:=hT.ext hE;have hU:=hU.ext hE;have hV7:=hV7.ext hE;have hC7:=hC7.ext hE;have hV8:=hV8.ext hE;refine⟨hF.drop 3,?_⟩;refine Cd O (Lh (v':=.bool true) (V3 JB JB _ _ _ _ _ hV8 (show Rep (λ_=>True) _ (Jb JB) [J 6,I [],W b10 1 1,W b9 1 1] from Rep.tree_mk ⟨by decide,by decide⟩ La (hF.rowS (S:=λ_=>True) 0 O (n:=1) Pr O Aa).anyS (hF.rowS (S:=λ_=>True) 1 O (n:=1) S4 O Aa).anyS)) (congrArg Value.bool (Lj _))) (Ua HJ O O O) ?_;rintro _ w ⟨rfl,hE⟩;have hF:=hF.ext hE;have hT:=hT.ext hE;have hU:=hU.ext hE;have hV7:=hV7.ext hE;have hC7:=hC7.ext hE;have hV8:=hV8.ext hE;refine⟨hF.drop 3,?_⟩;refine Hb O (Fc O O) (Hb O (Kb O) (d_nil (Ga ?_)));refine Lc (v:=.bool true) O O ?_;exact⟨O,hF.same⟩
end Go.Scarf
