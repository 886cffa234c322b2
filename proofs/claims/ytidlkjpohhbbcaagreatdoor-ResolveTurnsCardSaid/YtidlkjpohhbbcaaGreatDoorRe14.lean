/- A part of the proof. -/
import Derived.Test.YtidlkjpohhbbcaaGreatDoorRe12
set_option linter.all false
set_option maxHeartbeats 8000000
set_option maxRecDepth 10000
namespace Go.Scarf
open Go.RowKit Go.Proofs Go.Proofs.Tryz
abbrev GS(i:UInt8):Tv:=⟨3,[i],none,0,0,none,0,0⟩
abbrev TH(b:Nat):Cv:=⟨some ⟨b,0,none⟩,1,1,3,⟨true,GS 49⟩,⟨true,GS 50⟩,⟨false,C4⟩⟩
abbrev holeV:List Value:=[J 7,I [48],aQ,aQ]
theorem JF(i:UInt8){S:Nat->Prop}{w:World}:Rep S w (Ob (nuS i)) (GS i).cells:=Rep.tree_mk ⟨by decide,by decide⟩ Oa (Rep.nil_slice 0 Aa none) (Rep.nil_slice 0 Aa none)
theorem s9_rep{S:Nat->Prop}{w:World}:Rep S w (Le s9) (Sv.cells ⟨true,GS 57⟩):=Xx (s:=s9) (JF 57)
theorem Ks{w:World}:RepL (λ_=>True) w ([([97]:Str)].map Vl) [I [97]]:=RepL.cons_mk (c1:=[I [97]]) (c2:=[]) (Rep.lit_mk (v:=I [97]) (show ([97]:Str).length<=9223372036854775807 by decide)) RepL.nil_mk
theorem WG{w:World}:RepL (λ_=>True) w (Fe [SK 0]) holeV:=by
  have e:SK 0=.node 7 [48] [] []:=by kernel_rfl
  rw[e];exact RepL.cons_mk (c1:=holeV) (c2:=[]) (Rep.tree_mk ⟨by decide,by decide⟩ Oa (Rep.nil_slice 0 Aa none) (Rep.nil_slice 0 Aa none)) RepL.nil_mk
theorem D8{w:World}:RepL (λ_=>True) w (Fe [nuS 57]) (GS 57).cells:=RepL.cons_mk (c2:=[]) (JF 57) RepL.nil_mk
theorem GU{w:World}{b:Nat}{T:TypeId}(h:w.heap[b]? = some (.cells #[I [97]] T)):CvOf (λ_=>True) w cS (TH b) :=
  ⟨rfl,rfl,UE (n:=1) (l:=[I [97]]) h Ks rfl Aa,Xx (s:=⟨true,nuS 49⟩) (JF 49),Xx (s:=⟨true,nuS 50⟩) (JF 50),Ml⟩
theorem CvOf.rep{S:Nat->Prop}{w:World}{c:Cf}{q:Cv}(h:CvOf S w c q)(hk:-1000<=c.cls/\c.cls<=1000):Rep S w (HA c) q.cells:=by
  obtain⟨A,n,c',k,x,y,z⟩:=q;obtain⟨h1,h2,h3,h4,h5,h6⟩:=h;obtain rfl:=h2;unfold HA;refine Rep.agg_mk (RepL.cons_mk (c1:=[.slice A n c']) h3 (RepL.cons_mk (c1:=[J c.cls]) (Rep.lit_mk (okI (z:=c.cls) Aa Aa)) (RepL.cons_mk h4 (RepL.cons_mk h5 (RepL.cons_mk (c2:=[]) h6 RepL.nil_mk)))))
theorem HT{w:World}{b bc T:Nat}(h:w.heap[b]? = some (.cells #[I [97]] T))(hc:w.heap[bc]? = some (.cells (TH b).cells.toArray 40)):Rep (λ_=>True) w (.slice ([cS].map HA)) [W bc 1 1] :=
  UE (n:=1) hc (RepL.cons_mk (c2:=[]) ((GU h).rep Ua) RepL.nil_mk) rfl Aa
def SetQ(w0:World)(t:Tree)(ds:List D)(e:Int)(v:Value)(w':World):Prop:=∃(q:Tv)(A:Option Addr)(c:Nat),v=.tuple #[.agg q.cells.toArray,.slice A ds.length c,J e]/\Rep (Btw w0 w') w' (Ob t) q.cells/\Rep (Btw w0 w') w' (.slice ds) [.slice A ds.length c]/\Same [] w0 w'
theorem WX{w0:World}{b bc T:Nat}(x:Tv)(hx:Rep (λ_=>True) w0 (Ob hmT) x.cells)(h:w0.heap[b]? = some (.cells #[I [97]] T))(hc:w0.heap[bc]? = some (.cells (TH b).cells.toArray 40))(hG:Gl w0) :
    Calls prog 31 #[.agg x.cells.toArray,W bc 1 1,aQ,J 1] w0 (Yc λv w'=>SetQ w0 zeroT ([(0:Int)].map Gj) 10 v w') :=
  (CJ hmT x cS _ 1 [] none 0 (λ_=>True) (λ_=>True) (λ_=>True) w0 hx (HT h hc) (Rep.nil_slice 0 Aa none) Oa Ua Ls Z3 (by rw[show Bl (Ch [] cS).1=noS from by kernel_rfl];exact XV) HB S0.1 S0.2 CD RK hG).mono λe w'' ⟨v,he,hv⟩=>⟨v,he,by
    rcases hv with ⟨-,A,c,rfl,hr,hs⟩|⟨hf,-⟩
    ·exact⟨C4,A,c,O,An _ _,hr,hs⟩
    rw[AH]at hf;cases hf⟩
theorem TX{w0:World}{b bc T:Nat}(x:Tv)(A:Option Addr)(c:Nat)(hx:Rep (λ_=>True) w0 (Ob hmT) x.cells)(h:w0.heap[b]? = some (.cells #[I [97]] T))(hc:w0.heap[bc]? = some (.cells (TH b).cells.toArray 40))(hT:Rep (λ_=>True) w0 (Xd tS) [.slice A 1 c])(hG:Gl w0) :
    Calls prog 31 #[.agg x.cells.toArray,W bc 1 1,.slice A 1 c,J 1] w0 (Yc λv w'=>SetQ w0 MD [] 0 v w') :=
  (CJ hmT x cS _ 1 tS A c (λ_=>True) (λ_=>True) (λ_=>True) w0 hx (HT h hc) hT P3 Ua Ls Z3 (by rw[F2];exact LY) HB S0.1 S0.2 CH RK hG).mono λe w'' ⟨v,he,hv⟩=>⟨v,he,by
    rcases hv with ⟨hf,-⟩|⟨-,q,rfl,hr,hs⟩
    ·rw[I7]at hf;cases hf
    rw[F2]at hr ⊢;rw[show B3 cS.cls s9=B3 3 s9 from rfl,LX]at hr ⊢;exact⟨q,none,0,O,hr,Rep.nil_slice 0 Aa none,hs⟩⟩
def idA:Option Value->List Nat
  | some (.pointer (some a))=>[a.block]
  | _=>[]
def LH(t:Tree):Option Value->Value->World->Prop:=λ_ u w=>∃x:Tv,u=.agg x.cells.toArray/\Rep (λ_=>True) w (Ob t) x.cells
def BU(u0:World)(t:Tree)(ds:List D)(e:Int):Option Value->Value->World->Prop:=λa u w=>∃(q:Tv)(A:Option Addr)(c:Nat),u=.tuple #[.agg q.cells.toArray,.slice A ds.length c,J e]/\RX (wE u0) (idA a) w [Ob t] q.cells/\RX (wE u0) (idA a) w [.slice ds] [.slice A ds.length c]
def mvF(u0:World)(t:Tree):Option Value->Value->World->Prop:=λa u w=>∃q:Tv,u=.agg q.cells.toArray/\RX (wE u0) (idA a) w [Ob t] q.cells
def slF(u0:World)(ds:List D):Option Value->Value->World->Prop:=λa u w=>∃(A:Option Addr)(c:Nat),u=.slice A ds.length c/\RX (wE u0) (idA a) w [.slice ds] [.slice A ds.length c]
def isSl(ds:List D)(u:Value)(w:World):Prop:=∃A m c,u=.slice A m c/\Rep (λ_=>True) w (.slice ds) [.slice A m c]
abbrev pV(b:Nat):Value:=V b
section
variable {u0:World}{t:Tree}{ds:List D}{e:Int}
theorem ET:∀a u w w',Same [] w w'->LH t a u w->LH t a u w':=λ_ _ _ _ hs ⟨x,e,h⟩=>⟨x,e,h.ext hs⟩
theorem OU:∀u w w',Same [] w w'->LH t none u w->LH t (some (pV w.heap.size)) u w':=λ_ _ _ hs ⟨x,e,h⟩=>⟨x,e,h.ext hs⟩
theorem RD:∀a u w w',Same [] w w'->BU u0 t ds e a u w->BU u0 t ds e a u w':=λ_ _ _ _ hs ⟨q,A,c,e,h,h'⟩=>⟨q,A,c,e,h.ext hs,h'.ext hs⟩
theorem EG:∀u w w',Same [] w w'->BU u0 t ds e none u w->BU u0 t ds e (some (pV w.heap.size)) u w':=λ_ _ _ hs ⟨q,A,c,e,h,h'⟩=>⟨q,A,c,e,h.alloc hs rfl,h'.alloc hs rfl⟩
theorem mvF_st:∀a u w w',Same [] w w'->mvF u0 t a u w->mvF u0 t a u w':=λ_ _ _ _ hs ⟨q,e,h⟩=>⟨q,e,h.ext hs⟩
theorem mvF_sn:∀u w w',Same [] w w'->mvF u0 t none u w->mvF u0 t (some (pV w.heap.size)) u w':=λ_ _ _ hs ⟨q,e,h⟩=>⟨q,e,h.alloc hs rfl⟩
theorem C2:∀a u w w',Same [] w w'->slF u0 ds a u w->slF u0 ds a u w':=λ_ _ _ _ hs ⟨A,c,e,h⟩=>⟨A,c,e,h.ext hs⟩
theorem V2:∀u w w',Same [] w w'->slF u0 ds none u w->slF u0 ds (some (pV w.heap.size)) u w':=λ_ _ _ hs ⟨A,c,e,h⟩=>⟨A,c,e,h.alloc hs rfl⟩
end
section
variable {n:Nat}{ops:List Oper}{Z:Nat->World->Prop}{w00 u0:World}{sl:List (Nat × Value)}{H:Nat × Nat}{l:List Fact}{i d:Nat}{ty:Nat}{pos:String}{aft:Array Edge}{g:Option (Nat × Bool)}{ats:Array TypeId}{S:Nat->Bool}{s:Nat->Value}{w:World}{t:Tree}{ds:List D}{e:Int}
theorem AE{k' d':Nat}{N:Nat}{T:TypeId}{lv:List Value}(hI:IG Z w00 sl H l S s w)(hd:∀d∈Yh ops i,S d=true)(k:Nat)(hk:l[k]? = some (k',d',N3 N (.cells lv.toArray T)))(hm:(Yh ops i).contains k'=true)(hn:Nat.blt d' n=true)(hr:RepL (λ_=>True) w ds lv)(hN:ds.length=N)(hb:decide (N<=9)=true):isSl ds (ev n s (.tmp d')) w:=by
  rw[Ln hn];obtain⟨b,e,hb'⟩:=hI.dep hd k hk hm;exact⟨_,_,_,e,UE hb' hr hN (by have:=of_decide_eq_true hb;omega)⟩
theorem st_map{ks:List Str}{xs:List Tree}{x y:Operand}(hp:Ph Z sl H l)(k:Nat)(hk:l[k]? = some (i,d,LH (.node 6 [] ks xs)))(hi:ops[i]? = some ⟨some d,.call ⟨.value (.func 32),#[x,y],ats⟩,ty,pos,aft,g⟩)
    (h:∀S s w,(∀d∈Yh ops i,S d=true)->IG Z w00 sl H l S s w->isSl (ks.map Vl) (ev n s x) w/\isSl (Fe xs) (ev n s y) w) (hw:∀s,Hb ops n s ⟨some d,.call ⟨.value (.func 32),#[x,y],ats⟩,ty,pos,aft,g⟩=true:=by exact λ_=>rfl):StepA prog n ops (IG Z w00 sl H l) i :=
  ZY hp k hk hi (λS s w hd hI=>by
    obtain⟨⟨A,m,c,e1,h1⟩,B,m',c',e2,h2⟩:=h S s w hd hI;refine⟨32,_,_,_,HU A m c B m' c' w,Xa LU O e1 e2,?_⟩;rintro v w'' ⟨rfl,hs⟩;exact⟨hs,⟨6,[],A,m,c,B,m',c'⟩,O,Rep.tree_mk ⟨by decide,by decide⟩ Oa (h1.ext hs) (h2.ext hs)⟩) hw
theorem st_se{zop:Operand}{zv:Value}{b1 x y ix iy:Nat}(hp:Ph Z sl H l)(k kx ky:Nat)(hk:l[k]? = some (i,d,BU u0 t ds e))(hx:l[kx]? = some (ix,x,LH hmT))(hy:l[ky]? = some (iy,y,N3 1 (.cells (TH b1).cells.toArray 40)))
    (hi:ops[i]? = some ⟨some d,.call ⟨.value (.func 31),#[.tmp x,.tmp y,zop,.const (J 1)],ats⟩,ty,pos,aft,g⟩) (mx:(Yh ops i).contains ix=true) (my:(Yh ops i).contains iy=true) (nx:Nat.blt x n=true) (ny:Nat.blt y n=true)
    (hz:∀S s w,(∀d∈Yh ops i,S d=true)->IG Z w00 sl H l S s w->ev n s zop=zv)
    (hc:∀(x:Tv)(bc:Nat)(w:World),Same [] w00 w->Rep (λ_=>True) w (Ob hmT) x.cells->w.heap[bc]? = some (.cells (TH b1).cells.toArray 40)->Calls prog 31 #[.agg x.cells.toArray,W bc 1 1,zv,J 1] w (Yc λv w'=>SetQ w t ds e v w'))
    (hZ:∀b w,Z b w->b<w.heap.size) (hw:∀s,Hb ops n s ⟨some d,.call ⟨.value (.func 31),#[.tmp x,.tmp y,zop,.const (J 1)],ats⟩,ty,pos,aft,g⟩=true:=by exact λ_=>rfl):StepA prog n ops (IG Z w00 sl H l) i :=
  ZY hp k hk hi (λS s w hd hI=>by
    obtain⟨q1,e1,h1⟩:=hI.dep hd kx hx mx;obtain⟨bc,e2,h2⟩:=hI.dep hd ky hy my;refine⟨31,_,_,_,hc q1 bc w hI.2.1 h1 h2,MR en_31 O ((Ln nx).trans e1) ((Ln ny).trans e2) (hz S s w hd hI) O,?_⟩;rintro v w' ⟨q,A',c,rfl,r1,r2,hs⟩;have hid:∀b∈idA (Nr H S s),b<w.heap.size:=λb hb=>by
      unfold Nr at hb;by_cases hA:S H.1=true
      ·rw[if_pos hA]at hb
       obtain⟨b',e,hz,hge⟩:=hI.2.2.2 hA;rw[e]at hb;obtain rfl:b=b':=by simpa[idA]using hb
       exact hZ _ _ hz
      rw[if_neg hA]at hb;cases hb
    exact⟨hs,q,A',c,O,RX.made (Nat.zero_le _) hid r1,RX.made (Nat.zero_le _) hid r2⟩) hw
theorem st_x0{i' d':Nat}(hp:Ph Z sl H l)(k k':Nat)(hk:l[k]? = some (i,d,mvF u0 t))(hk':l[k']? = some (i',d',BU u0 t ds e))(hi:ops[i]? = some ⟨some d,.extract (.tmp d') 0,ty,pos,aft,g⟩)(hm:(Yh ops i).contains i'=true)(hn:Nat.blt d' n=true)
    (hw:∀s,Hb ops n s ⟨some d,.extract (.tmp d') 0,ty,pos,aft,g⟩=true:=by exact λ_=>rfl):StepA prog n ops (IG Z w00 sl H l) i :=
  Bw hp k hk hi (λS s w hd hI=>by
    obtain⟨q,A,c,e,h1,h2⟩:=hI.dep hd k' hk' hm;exact⟨_,w,Ll ((Ln hn).trans e) O,Same.refl _ _,q,O,h1⟩) hw
theorem GR{i' d':Nat}(hp:Ph Z sl H l)(k k':Nat)(hk:l[k]? = some (i,d,slF u0 ds))(hk':l[k']? = some (i',d',BU u0 t ds e))(hi:ops[i]? = some ⟨some d,.extract (.tmp d') 1,ty,pos,aft,g⟩)(hm:(Yh ops i).contains i'=true)(hn:Nat.blt d' n=true)
    (hw:∀s,Hb ops n s ⟨some d,.extract (.tmp d') 1,ty,pos,aft,g⟩=true:=by exact λ_=>rfl):StepA prog n ops (IG Z w00 sl H l) i :=
  Bw hp k hk hi (λS s w hd hI=>by
    obtain⟨q,A,c,e,h1,h2⟩:=hI.dep hd k' hk' hm;exact⟨_,w,Ll ((Ln hn).trans e) O,Same.refl _ _,A,c,O,h2⟩) hw
theorem YR{i' d':Nat}(hp:Ph Z sl H l)(k k':Nat)(hk:l[k]? = some (i,d,JM (J e)))(hk':l[k']? = some (i',d',BU u0 t ds e))(hi:ops[i]? = some ⟨some d,.extract (.tmp d') 2,ty,pos,aft,g⟩)(hm:(Yh ops i).contains i'=true)(hn:Nat.blt d' n=true)
    (hw:∀s,Hb ops n s ⟨some d,.extract (.tmp d') 2,ty,pos,aft,g⟩=true:=by exact λ_=>rfl):StepA prog n ops (IG Z w00 sl H l) i :=
  Bw hp k hk hi (λS s w hd hI=>by
    obtain⟨q,A,c,e,h1,h2⟩:=hI.dep hd k' hk' hm;exact⟨_,w,Ll ((Ln hn).trans e) O,Same.refl _ _,O⟩) hw
def Z1(b:Nat)(w:World):Prop:=w.heap[b]? = some (.cells #[J 0,I [],aQ,aQ] 36)
def Z2(u0:World)(t:Tree)(b:Nat)(w:World):Prop:=∃q:Tv,w.heap[b]? = some (.cells q.cells.toArray 36)/\RX (wE u0) [b] w [Ob t] q.cells
theorem Z1_st:∀b w w',Same [] w w'->Z1 b w->Z1 b w':=λ_ _ _ hs h=>Yr h hs
theorem Z2_st:∀b w w',Same [] w w'->Z2 u0 t b w->Z2 u0 t b w':=λ_ _ _ hs ⟨q,h,h'⟩=>⟨q,Yr h hs,h'.ext hs⟩
def l2(u0:World)(t:Tree)(ds:List D)(er:Int)(p:Nat × Nat)(e:Nat)(q:Nat × Nat)(e':Nat)(r:Nat × Nat):List Fact :=
  [(p.1,p.2,BU u0 t ds er),(p.1+2,q.1,slF u0 ds),(p.1+3,q.2,JM (J er)),(e,r.1,slF u0 ds),(e',r.2,JM (J er))]
theorem AllG.nil{S:Nat->Bool}{s:Nat->Value}{w:World}:AllG H S s w []:=λk f h=>by simp at h
theorem AllG.cons{S:Nat->Bool}{s:Nat->Value}{w:World}{f:Fact}(h:S f.1=true->f.2.2 (Nr H S s) (s f.2.1) w)(hl:AllG H S s w l):AllG H S s w (f::l):=λk g hg=>by
  cases k with
  | zero => obtain rfl : f = g := by simpa using hg
            exact h
  | succ k=>exact hl k g (by simpa using hg)
theorem st_st{er:Int}{p q r:Nat × Nat}{st dv:Nat}(k31 k32 k33 k34:Nat)(h31:l[k31]? = some (p.1,p.2,BU u0 t ds er))(h32:l[k32]? = some (p.1+1,dv,mvF u0 t))(h33:l[k33]? = some (p.1+2,q.1,slF u0 ds))(h34:l[k34]? = some (p.1+3,q.2,JM (J er)))
    (hi:ops[st]? = some ⟨none,.store 36 (.tmp H.2) (.tmp dv),ty,pos,aft,g⟩) (hA:Nat.blt H.2 n=true) (hv:Nat.blt dv n=true) (mA:(Yh ops st).contains H.1=true:=by kernel_rfl) (mv:(Yh ops st).contains (p.1+1)=true:=by kernel_rfl)
    (m37:(Yh ops (st+1)).contains st=true:=by kernel_rfl) (m38:(Yh ops (st+2)).contains (st+1)=true:=by kernel_rfl) (hsz:decide (st+2<ops.length/\p.1+3<st/\H.1<st)=true:=by kernel_rfl)
    (hw:∀s,Hb ops n s ⟨none,.store 36 (.tmp H.2) (.tmp dv),ty,pos,aft,g⟩=true:=by exact λ_=>rfl) :
    StepA prog n ops (Fz st (IG Z1 w00 sl H l) (IG (Z2 u0 t) w00 sl H (l2 u0 t ds er p (st+1) q (st+2) r))) st:=.at λS s w hS hd hc hI=>by
  have hsz:=of_decide_eq_true hsz;obtain⟨h1,h2,h3,h4⟩:=id hI;have sA:S H.1=true:=hd _ (List.contains_iff_mem.1 mA);obtain⟨b,eb,hz,hb⟩:=h4 sA;obtain⟨x,ex,hx⟩:=hI.dep hd k32 h32 mv;have ea:Nr H S s=some (pV b):=by unfold Nr;rw[sA,if_pos rfl,eb]
  rw[ea]at hx;have hF:FR w00 [] [(b,.cells (List.toArray [J 0,I [],aQ,aQ]) 36)] w:=⟨h2,λq hq=>by rw[pQ.1 hq];exact⟨hz,.inl hb⟩,by simp⟩;have s37:S (st+1)=false:=by
    cases e:S (st+1)with
    | false=>rfl
    | true=>rw[hc _ Aa e st (List.contains_iff_mem.1 m37)]at hS;cases hS
  have s38:S (st+2)=false:=by
    cases e:S (st+2)with
    | false=>rfl
    | true=>rw[hc _ Aa e (st+1) (List.contains_iff_mem.1 m38)]at s37;cases s37
  refine does_dg (λ_ _ _=>True) .done (Gx hi hF nZ ((Ln hA).trans eb) ((Ln hv).trans ex) Pi (λw' hF' hs=>⟨trivial,Ic (Ta ?_)⟩) O O O (hw s));have eI:Nr H (IM st S) s=some (pV b):=by rw[<-ea];unfold Nr;rw[Sn Aa]
  refine⟨h1,hF'.same,?_,λ_=>⟨b,eb,⟨x,hF'.heap (i:=0) O,hx.store hs (by simp[idA])⟩,hb⟩⟩;refine .cons (λh=>?_) (.cons (λh=>?_) (.cons (λh=>?_) (.cons (λh=>?_) (.cons (λh=>?_) .nil))))
  ·rw[Sn (by show p.1 ≠ st;omega)]at h
   have:=h3 k31 _ h31 h;rw[ea]at this;obtain⟨q,A,c,e,g1,g2⟩:=this;rw[eI];exact⟨q,A,c,e,g1.store hs (by simp[idA]),g2.store hs (by simp[idA])⟩
  ·rw[Sn (by show p.1 + 2 ≠ st;omega)]at h
   have:=h3 k33 _ h33 h;rw[ea]at this;obtain⟨A,c,e,g1⟩:=this;rw[eI];exact⟨A,c,e,g1.store hs (by simp[idA])⟩
  ·rw[Sn (by show p.1 + 3 ≠ st;omega)]at h
   exact h3 k34 _ h34 h
  ·rw[Sn (by show st + 1 ≠ st;omega)]at h
   rw[s37]at h;cases h
  rw[Sn (by show st + 2 ≠ st;omega)]at h;rw[s38]at h;cases h
theorem NA{Z1 Z2:Nat->World->Prop}{l1 l2:List Fact}{st N:Nat}(hs:AllEq s sl)(h:(decide (st<N)&&decide (H.1<N)&&l1.all λf=>decide (f.1<N))=true):Fz st (IG Z1 w sl H l1) (IG Z2 w sl H l2) (λi=>!decide (i<N)) s w:=by
  rw[Bool.and_eq_true,Bool.and_eq_true,decide_eq_true_eq,decide_eq_true_eq]at h;unfold Fz;rw[if_neg (by simp[h.1.1])];refine⟨hs,Same.refl _ _,λk f hf hS=>?_,λhA=>?_⟩
  ·have := of_decide_eq_true (List.all_eq_true.1 h.2 f (List.mem_of_getElem? hf))
   simp[this]at hS
  simp[h.1.2]at hA
theorem ER{J1 J2:(Nat->Bool)->(Nat->Value)->World->Prop}{st:Nat}(h:Fz st J1 J2 (λ_=>true) s w):J2 (λ_=>true) s w:=by
  unfold Fz at h
  rwa [if_pos rfl]at h
end
theorem tv_cells{x y:Tv}(h:x.cells=y.cells):y=x:=by
  obtain⟨k,t,A,n,c,B,m,e⟩:=x;obtain⟨k',t',A',n',c',B',m',e'⟩:=y;simp only[Tv.cells,List.cons.injEq,Value.int.injEq,Value.string.injEq,Value.slice.injEq,true_and,and_true]at h;obtain⟨rfl,h2,⟨rfl,rfl,rfl⟩,rfl,rfl,rfl⟩:=h;have:t=t':=by
    have:=congrArg (λb:ByteArray=>b.data.toList) h2;simpa using this
  rw[this]
theorem tv_kt{S:Nat->Prop}{w:World}{t:Tree}{x:Tv}(h:Rep S w (Ob t) x.cells):x.k=t.kind/\x.t=t.text:=by
  obtain⟨y,hy,h1,h2,-⟩:=Vg h;obtain rfl:=tv_cells hy;exact⟨h1,h2⟩
theorem one0_rep{S:Nat->Prop}{w:World}:RepL S w ([(0:Int)].map Gj) [J 0]:=RepL.cons_mk (c1:=[J 0]) (c2:=[]) (Xn Ua Ua) RepL.nil_mk
def sl7(b1:Nat)(b2:Nat)(b6:Nat)(A4:Option Addr)(c4:Nat)(A10:Option Addr)(c10:Nat):List (Nat × Value):=[(1,pV b2),(2,I pS),(3,.bool true),(4,.slice A4 1 c4),(5,J 0),(6,pV b6),(7,.bool true),(8,I aS),(9,J 0),(10,.slice A10 1 c10),(11,.bool true)]
def l7(u0:World)(b1:Nat)(A4:Option Addr)(c4:Nat):List Fact:=[(0,53,N3 1 (.cells ([I [97]]:List Value).toArray 9)),(1,54,JM (.agg holeV.toArray)),(2,55,N3 1 (.cells holeV.toArray 36)),(3,56,LH hmT),(4,57,JM (.agg (TH b1).cells.toArray)),(5,58,N3 1 (.cells (TH b1).cells.toArray 40)),(6,59,BU u0 zeroT ([(0:Int)].map Gj) (10)),(7,52,BU u0 zeroT ([(0:Int)].map Gj) (10)),(8,60,mvF u0 zeroT),(9,61,slF u0 ([(0:Int)].map Gj)),(10,62,JM (J 10))]
theorem ph7{u0:World}{b1:Nat}{b2:Nat}{b6:Nat}{A4:Option Addr}{c4:Nat}{A10:Option Addr}{c10:Nat}:Ph Z1 (sl7 b1 b2 b6 A4 c4 A10 c10) (11,12) (l7 u0 b1 A4 c4):=⟨by unfold l7;repeat (first|exact StabG.nil|refine StabG.cons ?_ ?_|exact M3|exact JT|exact ET|exact RD|exact mvF_st|exact C2),by unfold l7;repeat (first|exact StabN.nil|refine StabN.cons ?_ ?_|exact E3|exact QT|exact OU|exact EG|exact mvF_sn|exact V2),by kernel_rfl,by kernel_rfl,Z1_st⟩
theorem ph7b{u0:World}{b1:Nat}{b2:Nat}{b6:Nat}{A4:Option Addr}{c4:Nat}{A10:Option Addr}{c10:Nat}:Ph (Z2 u0 zeroT) (sl7 b1 b2 b6 A4 c4 A10 c10) (11,12) (l2 u0 zeroT ([(0:Int)].map Gj) (10) (7,52) 13 (61,62) 14 (13,14)):=⟨.cons RD (.cons C2 (.cons M3 (.cons C2 (.cons M3 .nil)))),.cons EG (.cons V2 (.cons E3 (.cons V2 (.cons E3 .nil)))),by kernel_rfl,by kernel_rfl,Z2_st⟩
def sl8(b1:Nat)(b2:Nat)(b6:Nat)(A4:Option Addr)(c4:Nat)(A10:Option Addr)(c10:Nat)(bt7:Nat)(A7:Option Addr)(c7:Nat):List (Nat × Value):=[(1,pV b2),(2,I pS),(3,.bool true),(4,.slice A4 1 c4),(5,J 0),(6,pV b6),(7,.bool true),(8,I aS),(9,J 0),(10,.slice A10 1 c10),(11,.bool true),(12,pV bt7),(13,.slice A7 1 c7),(14,J 10)]
def l8(u0:World)(b1:Nat)(A4:Option Addr)(c4:Nat):List Fact:=[(0,64,N3 1 (.cells ([I [97]]:List Value).toArray 9)),(1,65,JM (.agg holeV.toArray)),(2,66,N3 1 (.cells holeV.toArray 36)),(3,67,LH hmT),(4,68,JM (.agg (TH b1).cells.toArray)),(5,69,N3 1 (.cells (TH b1).cells.toArray 40)),(6,70,JM (.slice A4 1 c4)),(7,71,BU u0 MD [] (0)),(8,63,BU u0 MD [] (0)),(9,72,mvF u0 MD),(10,73,slF u0 []),(11,74,JM (J 0))]
theorem ph8{u0:World}{b1:Nat}{b2:Nat}{b6:Nat}{A4:Option Addr}{c4:Nat}{A10:Option Addr}{c10:Nat}{bt7:Nat}{A7:Option Addr}{c7:Nat}:Ph Z1 (sl8 b1 b2 b6 A4 c4 A10 c10 bt7 A7 c7) (12,15) (l8 u0 b1 A4 c4):=⟨by unfold l8;repeat (first|exact StabG.nil|refine StabG.cons ?_ ?_|exact M3|exact JT|exact ET|exact RD|exact mvF_st|exact C2),by unfold l8;repeat (first|exact StabN.nil|refine StabN.cons ?_ ?_|exact E3|exact QT|exact OU|exact EG|exact mvF_sn|exact V2),by kernel_rfl,by kernel_rfl,Z1_st⟩
theorem ph8b{u0:World}{b1:Nat}{b2:Nat}{b6:Nat}{A4:Option Addr}{c4:Nat}{A10:Option Addr}{c10:Nat}{bt7:Nat}{A7:Option Addr}{c7:Nat}:Ph (Z2 u0 MD) (sl8 b1 b2 b6 A4 c4 A10 c10 bt7 A7 c7) (12,15) (l2 u0 MD [] (0) (8,63) 14 (73,74) 15 (16,17)):=⟨.cons RD (.cons C2 (.cons M3 (.cons C2 (.cons M3 .nil)))),.cons EG (.cons V2 (.cons E3 (.cons V2 (.cons E3 .nil)))),by kernel_rfl,by kernel_rfl,Z2_st⟩
theorem VV(w0:World)(hG:Gl w0):Calls prog 6 #[] w0 (Yc λv w'=>v=.bool true/\Same [] w0 w'):=by
 refine Fa func6 O ntmps6 Ab (args_0) ?_;have hF:=FR.start w0 [];refine Ea (Ba (Kb O) (Lb ?_));refine Mh 1 hF (Gb (cs:=#[I [97]]) cX sZ sX Ua Ua Qb) ?_;rintro b1 w hb1 hF -;refine Pa hF (In (v':=.agg (GS 49).cells.toArray) (GC 1 Aa Aa _ (hG.ext hF.same)) Qb) (Ma AB O O) ?_;intro w hF;refine Pa hF (WM (GS 49) _) (Ma en_29 O O) ?_;intro w hF;refine Pa hF (In (v':=.agg (GS 50).cells.toArray) (GC 2 Aa Aa _ (hG.ext hF.same)) Qb) (Ma AB O O) ?_;intro w hF;refine Pa hF (WM (GS 50) _) (Ma en_29 O O) ?_;intro w hF;refine Ia (w':=w) (v:=.agg #[W b1 1 1,J 3,.bool true,J 3,I [49],aQ,aQ,.bool true,J 3,I [50],aQ,aQ,.bool false,J 0,I [],aQ,aQ]) Qb (If hF zeroValue40 pZ O ?_);rintro b2 w hb2 hF -;refine Lb (Xb (Bf fZ pZ O hF.F 0 O O) ?_);refine Pa hF (In (v':=.tuple #[I pS,.bool true]) (D6 cS (TH b1) _ _ (GU (hF.heap (i:=1) O)) Ls (hG.ext hF.same)) (by rw[GM])) (Ma ES O O) ?_;intro w hF;refine Ba (Mj O) (Ba (Ly O O) (Ba (Ym O O) (Ba (He O) (Ba (Kb O) (Da (Ga ?_))))));refine De (zs:=.of []) (.free 0 (cQ [1,2,3] (bQ [4,5,6,7,8] .nil))) hF ?_;intro w hF;refine Ng O (Bf fZ pZ O C0 0 O O) (Vd hF (In (v':=.agg (GS 57).cells.toArray) (GC 9 Aa Aa _ (hG.ext hF.same)) Qb) O (Ma AB O O) ?_);intro w hF;refine⟨hF,?_⟩;refine Vd hF (WM (GS 57) _) O (Ma en_29 O O) ?_;intro w hF;refine⟨hF,?_⟩;refine Dd O (KG [] none 0 cS (TH b1) s9 ⟨true,GS 57⟩ (λ_=>True) (λ_=>True) (λ_=>True) _ (Rep.nil_slice 0 Aa none) Oa Ua (GU (hF.heap (i:=1) O)) Ls s9_rep BI (hG.ext hF.same) (by rw[GM];decide)) (Af en_20 O O O O) ?_;rintro _ w ⟨A4,c4,rfl,hRt,hE⟩;rw[FV]at hRt ⊢;have hT:=RX.made (ids:=[b2,b1]) hF.same.size (λx hx=>hF.lt_ids (by simpa using hx)) hRt;have hF:=hF.ext hE;clear hE hRt;refine⟨hF,?_⟩;refine Ib O (Mj O) (Ib O (yxl O O) (Ib O (Rj O O) (Ib O (Yi O) (Ib O (Fb O) (Ic (Ha (Ea (Ba (Hd O) (Xb (Bf fZ pZ O hF.F 0 O O) ?_)))))))))
 refine Eb (LP tS A4 c4 cS (TH b1) _ (λ_=>True) _ hT.rep P3 Ua (GU (hF.heap (i:=1) O)) Ls (hG.ext hF.same)) (Xa en_24 O O O) ?_;rintro _ w ⟨y,rfl,hRt,hE⟩;rw[F2]at hRt;rw[I7];have hyt:=tv_kt (Cd hRt).2.2.2.2;have hyh:=(Cd hRt).1;clear hRt;obtain⟨yh,yk,yt,yA,yn,yc,yB,ym,ye⟩:=y;obtain⟨-,hyt⟩:=hyt;obtain rfl:yh=true:=hyh;obtain rfl:yt=[57]:=hyt;have hT:=hT.ext hE;have hF:=hF.ext hE;refine Ba (Mj O) (Ba (Gt O O) (Ba (Ym O O) ?_));refine If hF pX oZ O ?_;intro b3 w hb3 hF hE;have hT:=hT.alloc hE hb3;refine Ba (Kb O) (Lb (Ba (Hd O) ?_));refine Eb (In (v':=.tuple #[I aS,J 0]) (save_c tS A4 c4 _ _ hT.rep Z6 (hG.ext hF.same)) (by rw[CO])) (Ma en_8 O O) ?_;rintro _ w ⟨rfl,hE⟩;have hF:=hF.ext hE;have hT:=hT.ext hE;refine Ba (Mj O) (Ba (Ly O O) (Ba (Rj O O) (Ba (He O) (Ba (Fb O) (Lb (Ba (Ad O) ?_))))));refine Eb (load_c aS small_nb small_al MW HJ small_ne (by rw[RY];exact Z6) _ (hG.ext hF.same)) (Ma en_10 O O) ?_;rintro _ w ⟨A10,c10,rfl,hU,hE⟩;rw[PM]at hU ⊢;have hT:=(hT.ext hE).rep.anyS;have hF:=hF.ext hE;refine Ba (Mj O) (Ba (yxl O O) (Ba (Ym O O) (Ba (Yi O) (Ba (Kb O) (Da (Ga ?_))))));refine Fd (λσ w=>∃(q7:Tv),∃(A7:Option Addr),∃(c7:Nat),∃(bt7:Nat),(Rep (λ_=>True) w (Xd tS) [.slice A4 1 c4])/\(Rep (λ_=>True) w (Xd tS) [.slice A10 1 c10])/\(Rep (λ_=>True) w (Ob zeroT) q7.cells)/\(Rep (λ_=>True) w (.slice ([(0:Int)].map Gj)) [.slice A7 1 c7])/\AllEq σ [(1,V b2),(2,I pS),(3,.bool true),(4,.slice A4 1 c4),(5,J 0),(6,V b3),(7,.bool true),(8,I aS),(9,J 0),(10,.slice A10 1 c10),(11,.bool true),(12,V bt7),(13,.slice A7 1 c7),(14,J 10)]/\FR w0 [] [(bt7,.cells (q7.cells).toArray 36),(b3,.cells #[.bool true,J yk,I [57],.slice yA yn yc,.slice yB ym ye] 38),(b2,.cells #[W b1 1 1,J 3,.bool true,J 3,I [49],aQ,aQ,.bool true,J 3,I [50],aQ,aQ,.bool false,J 0,I [],aQ,aQ] 40),(b1,.cells #[I [97]] 9)] w) ?_ ?_
 ·
  have hF:=hF.drew;have hT:=hT.ext (Same.drew w);have hU:=hU.ext (Same.drew w);have hG0:=hG;have hG:=hG0.ext hF.same;have hb1:=hF.heap (i:=2) rfl;have hp:=@ph7 w0 b1 b2 b3 A4 c4 A10 c10;have hq:=@ph7b w0 b1 b2 b3 A4 c4 A10 c10;refine c_all 15 (Inv:=Fz 12 (IG Z1 w.drew (sl7 b1 b2 b3 A4 c4 A10 c10) (11,12) (l7 w0 b1 A4 c4)) (IG (Z2 w0 zeroT) w.drew (sl7 b1 b2 b3 A4 c4 A10 c10) (11,12) (l2 w0 zeroT ([(0:Int)].map Gj) (10) (7,52) 13 (61,62) 14 (13,14)))) Qb Qb ?_ ?_ ?_
  ·exact NA ⟨O,O,O,O,O,O,O,O,O,O,O,trivial⟩ O
  ·exact (below (below (below (below (below (below (below (below (below (below (below (below (below (below (below XY
     (.ahead (VX [] hp 0 rfl rfl (λS s w hd hI=>trivial) λs w=>Gb cX sZ sX Ua Ua Qb)))
     (.ahead (Bw hp 1 rfl rfl λS s w hd hI=>⟨_,w,by kernel_rfl,Same.refl _ _,rfl⟩)))
     (.ahead (VX [(54,.agg holeV.toArray)] hp 2 rfl rfl (λS s w hd hI=>⟨hI.dep hd 1 rfl rfl,trivial⟩) λs w=>Gb dX nZ oX Ua Ua Qb)))
     (.ahead (st_map hp 3 rfl rfl λS s w hd hI=>⟨AE hI hd 0 rfl rfl rfl Ks rfl rfl,AE hI hd 2 rfl rfl rfl WG rfl rfl⟩)))
     (.ahead (Bw hp 4 rfl rfl λS s w hd hI=>⟨_,w,Wa (l:=(TH b1).cells) fZ pZ ((Ln rfl).trans hI.1.1) rfl ((hF.ext hI.2.1).part 1 0 rfl rfl),Same.refl _ _,rfl⟩)))
     (.ahead (VX [(57,.agg (TH b1).cells.toArray)] hp 5 rfl rfl (λS s w hd hI=>⟨hI.dep hd 4 rfl rfl,trivial⟩) λs w=>Gb jX pZ zeroValue40 Ua Ua Qb)))
     (.ahead (st_se hp 6 3 5 rfl rfl rfl rfl rfl rfl rfl rfl (λS s w hd hI=>rfl) (λx bc w hs hx hb=>WX x hx (Yr hb1 hs) hb (hG.ext hs)) (λb w h=>Ac h))))
     (.ahead (g_cp hp 7 6 rfl rfl rfl rfl rfl)))
     (.ahead (st_x0 hp 8 7 rfl rfl rfl rfl rfl)))
     (.both (GR hp 9 7 rfl rfl rfl rfl rfl) (GR hq 1 0 rfl rfl rfl rfl rfl) rfl))
     (.both (YR hp 10 7 rfl rfl rfl rfl rfl) (YR hq 2 0 rfl rfl rfl rfl rfl) rfl))
     (.ahead (g_al hp rfl oX rfl)))
     (st_st 7 8 9 10 rfl rfl rfl rfl rfl rfl rfl))
     (.behind (g_as hq 3 1 rfl rfl rfl rfl rfl)))
     (.behind (g_as hq 4 2 rfl rfl rfl rfl rfl)))
  intro s w' hJ;obtain⟨h1,h2,h3,h4⟩:=ER hJ;obtain⟨bt,eb,⟨q,hq,hV⟩,hb⟩:=h4 rfl;obtain⟨A,c,e5,hC⟩:=h3 3 _ rfl rfl;have e6:=h3 4 _ rfl rfl;exact Ta ⟨q,A,c,bt,(hT.ext h2),(hU.ext h2),hV.rep.anyS,hC.rep.anyS,⟨h1.1,h1.2.1,h1.2.2.1,h1.2.2.2.1,h1.2.2.2.2.1,h1.2.2.2.2.2.1,h1.2.2.2.2.2.2.1,h1.2.2.2.2.2.2.2.1,h1.2.2.2.2.2.2.2.2.1,h1.2.2.2.2.2.2.2.2.2.1,h1.2.2.2.2.2.2.2.2.2.2.1,eb,e5,e6,trivial⟩,hF.cons_ext h2 hq hb⟩
 rintro σ w ⟨q7,A7,c7,bt7,hT,hU,hV7,hC7,hs,hF⟩;refine Eg.slots hs ?_;clear hs;intro σ;refine Ha (Ga ?_);refine Fd (λσ w=>∃(q8:Tv),∃(bt8:Nat),(Rep (λ_=>True) w (Xd tS) [.slice A4 1 c4])/\(Rep (λ_=>True) w (Xd tS) [.slice A10 1 c10])/\(Rep (λ_=>True) w (Ob zeroT) q7.cells)/\(Rep (λ_=>True) w (.slice ([(0:Int)].map Gj)) [.slice A7 1 c7])/\(Rep (λ_=>True) w (Ob MD) q8.cells)/\AllEq σ [(2,I pS),(3,.bool true),(4,.slice A4 1 c4),(5,J 0),(6,V b3),(7,.bool true),(8,I aS),(9,J 0),(10,.slice A10 1 c10),(11,.bool true),(12,V bt7),(13,.slice A7 1 c7),(14,J 10),(15,V bt8),(17,J 0)]/\FR w0 [] [(bt8,.cells (q8.cells).toArray 36),(bt7,.cells (q7.cells).toArray 36),(b3,.cells #[.bool true,J yk,I [57],.slice yA yn yc,.slice yB ym ye] 38),(b2,.cells #[W b1 1 1,J 3,.bool true,J 3,I [49],aQ,aQ,.bool true,J 3,I [50],aQ,aQ,.bool false,J 0,I [],aQ,aQ] 40),(b1,.cells #[I [97]] 9)] w) ?_ ?_
 ·
  have hF:=hF.drew;have hT:=hT.ext (Same.drew w);have hU:=hU.ext (Same.drew w);have hV7:=hV7.ext (Same.drew w);have hC7:=hC7.ext (Same.drew w);have hG0:=hG;have hG:=hG0.ext hF.same;have hb1:=hF.heap (i:=3) rfl;have hp:=@ph8 w0 b1 b2 b3 A4 c4 A10 c10 bt7 A7 c7;have hq:=@ph8b w0 b1 b2 b3 A4 c4 A10 c10 bt7 A7 c7;refine c_all 16 (Inv:=Fz 13 (IG Z1 w.drew (sl8 b1 b2 b3 A4 c4 A10 c10 bt7 A7 c7) (12,15) (l8 w0 b1 A4 c4)) (IG (Z2 w0 MD) w.drew (sl8 b1 b2 b3 A4 c4 A10 c10 bt7 A7 c7) (12,15) (l2 w0 MD [] (0) (8,63) 14 (73,74) 15 (16,17)))) Qb Qb ?_ ?_ ?_
  ·exact NA ⟨O,O,O,O,O,O,O,O,O,O,O,O,O,O,trivial⟩ O
  ·exact (below (below (below (below (below (below (below (below (below (below (below (below (below (below (below (below XY
     (.ahead (VX [] hp 0 rfl rfl (λS s w hd hI=>trivial) λs w=>Gb cX sZ sX Ua Ua Qb)))
     (.ahead (Bw hp 1 rfl rfl λS s w hd hI=>⟨_,w,by kernel_rfl,Same.refl _ _,rfl⟩)))
     (.ahead (VX [(65,.agg holeV.toArray)] hp 2 rfl rfl (λS s w hd hI=>⟨hI.dep hd 1 rfl rfl,trivial⟩) λs w=>Gb dX nZ oX Ua Ua Qb)))
     (.ahead (st_map hp 3 rfl rfl λS s w hd hI=>⟨AE hI hd 0 rfl rfl rfl Ks rfl rfl,AE hI hd 2 rfl rfl rfl WG rfl rfl⟩)))
     (.ahead (Bw hp 4 rfl rfl λS s w hd hI=>⟨_,w,Wa (l:=(TH b1).cells) fZ pZ ((Ln rfl).trans hI.1.1) rfl ((hF.ext hI.2.1).part 2 0 rfl rfl),Same.refl _ _,rfl⟩)))
     (.ahead (VX [(68,.agg (TH b1).cells.toArray)] hp 5 rfl rfl (λS s w hd hI=>⟨hI.dep hd 4 rfl rfl,trivial⟩) λs w=>Gb jX pZ zeroValue40 Ua Ua Qb)))
     (.ahead (g_mv hp 6 rfl rfl 3 rfl rfl)))
     (.ahead (st_se hp 7 3 5 rfl rfl rfl rfl rfl rfl rfl rfl (λS s w hd hI=>(Ln rfl).trans (hI.dep hd 6 rfl rfl)) (λx bc w hs hx hb=>TX x A4 c4 hx (Yr hb1 hs) hb (hT.ext hs) (hG.ext hs)) (λb w h=>Ac h))))
     (.ahead (g_cp hp 8 7 rfl rfl rfl rfl rfl)))
     (.ahead (st_x0 hp 9 8 rfl rfl rfl rfl rfl)))
     (.both (GR hp 10 8 rfl rfl rfl rfl rfl) (GR hq 1 0 rfl rfl rfl rfl rfl) rfl))
     (.both (YR hp 11 8 rfl rfl rfl rfl rfl) (YR hq 2 0 rfl rfl rfl rfl rfl) rfl))
     (.ahead (g_al hp rfl oX rfl)))
     (st_st 8 9 10 11 rfl rfl rfl rfl rfl rfl rfl))
     (.behind (g_as hq 3 1 rfl rfl rfl rfl rfl)))
     (.behind (g_as hq 4 2 rfl rfl rfl rfl rfl)))
  intro s w' hJ;obtain⟨h1,h2,h3,h4⟩:=ER hJ;obtain⟨bt,eb,⟨q,hq,hV⟩,hb⟩:=h4 rfl;obtain⟨A,c,e5,hC⟩:=h3 3 _ rfl rfl;have e6:=h3 4 _ rfl rfl;exact Ta ⟨q,bt,(hT.ext h2),(hU.ext h2),(hV7.ext h2),(hC7.ext h2),hV.rep.anyS,⟨h1.2.1,h1.2.2.1,h1.2.2.2.1,h1.2.2.2.2.1,h1.2.2.2.2.2.1,h1.2.2.2.2.2.2.1,h1.2.2.2.2.2.2.2.1,h1.2.2.2.2.2.2.2.2.1,h1.2.2.2.2.2.2.2.2.2.1,h1.2.2.2.2.2.2.2.2.2.2.1,h1.2.2.2.2.2.2.2.2.2.2.2.1,h1.2.2.2.2.2.2.2.2.2.2.2.2.1,h1.2.2.2.2.2.2.2.2.2.2.2.2.2.1,eb,e6,trivial⟩,hF.cons_ext h2 hq hb⟩
 rintro σ w ⟨q8,bt8,hT,hU,hV7,hC7,hV8,hs,hF⟩;refine Eg.slots hs ?_;clear hs;intro σ;refine Ha (Ga ?_);refine Md (.of []) (bQ [0,1,2,3,4,5,6,7,8,9,10,11,12,13,14,15,16,17,18,19,20,21,22,23,24,25,26,27,28,29,30,31,32,33,34,35] (.act 36 (bQ [37,38,39,40,41,42,43,44] (.act 45 (.act 46 (bQ [47,48,49,50,51,52,53,54,55,56,57] (.alt 58 (cQ [59,60,61,62] (.free 63 (.free 64 .nil))) (.act 59 (.alt 58 (cQ [60,61,62] (.free 63 (.free 64 .nil))) (cQ [60,58,61,62] (.free 63 (.free 64 .nil)))))))))))) hF ?_;intro w hF hE;have hT:=hT.ext hE;have hU:=hU.ext hE;have hV7:=hV7.ext hE;have hC7:=hC7.ext hE;have hV8:=hV8.ext hE;refine⟨λwq=>FR w0 [] _ wq,hF,?_⟩;refine Ib O (Dc O) (Ib O (Dc O) (Ib O (Ad O) (Sa O (v:=.bool true) (λw hC=>Ei (P7 O O) (O)) (Ib O (Rb O O) (Ib O (Dc O) (Ib O (Za O) (Sa O (v:=.bool true) (λw hC=>Ei (Er O O) (O)) (Ib O (Rb O O) (Ib O (Dc O) (Ib O (Dc O) (Ib O (Rb O O) (Ib O (Dc O) (Ib O (Mb Ni O) ?_)))))))))))));refine Ng O (X3 dZ O C0 2 O O) (Ib O (Rb O O) (Ib O (Dc O) (Ib O (Mb We O) (Ib O (Mb Id O) (Ng O (Ej iZ O C0 2 O O) (Sa O (v:=.bool true) (λw hC=>Ei (P7 O O) (O)) (Ib O (Rb O O) (Ib O (Dc O) (Ib O (Za O) (Sa O (v:=.bool true) (λw hC=>Ei (Er O O) (O)) (Ib O (Rb O O) (Ib O (Dc O) (Ib O (Ad O) ?_)))))))))))));refine Sa O (v:=.bool true) (λw hC=>Ei (P7 O O) (O)) (Ib O (Rb O O) (Ib O (Dc O) (Ib O (Dc O) (Ib O (Rb O O) (Ib O (Dc O) (Ib O (Hd O) (Ib O (Hd O) ?_)))))));refine Dd O (Mv tS A4 A10 c4 c10 _ _ _ hT hU) (Xa OI O O O) ?_;rintro _ w ⟨rfl,hE⟩;have hF:=hF.ext hE;have hT:=hT.ext hE;have hU:=hU.ext hE;have hV7:=hV7.ext hE;have hC7:=hC7.ext hE;have hV8:=hV8.ext hE;refine⟨hF,?_⟩;refine Ib O (Rb O O) (Ib O (Dc O) (Ib O (Mb Xc O) (Ng O (Zg xQ O C0 1 O O) (Sa O (v:=.bool true) (λw hC=>Ei (Er O O) ((tv_kt hV7).1)) (Ib O (Rb O O) (Ib O (Dc O) (Ib O (Hd O) ?_)))))))
 refine Jf 1 O hF (Gb (cs:=#[J 0]) iX sizeOf3 mX Ua Ua Qb) ?_;intro b4 w hb4 hF hE;have hT:=hT.ext hE;have hU:=hU.ext hE;have hV7:=hV7.ext hE;have hC7:=hC7.ext hE;have hV8:=hV8.ext hE;refine⟨hF.drop 1,?_⟩;refine Dd O (In (v':=.bool true) (ints_c _ _ _ [0] [0] _ _ _ _ hC7 (hF.rowS (S:=λ_=>True) 0 O (n:=1) one0_rep O Aa)) (congrArg Value.bool (decide_eq_true O))) (Xa en_33 O O O) ?_;rintro _ w ⟨rfl,hE⟩;have hF:=hF.ext hE;have hT:=hT.ext hE;have hU:=hU.ext hE;have hV7:=hV7.ext hE;have hC7:=hC7.ext hE;have hV8:=hV8.ext hE;refine⟨hF.drop 1,?_⟩;refine Ib O (Rb O O) (Ib O (Dc O) (Ib O (Za O) (Sa O (v:=.bool true) (λw hC=>Ei (Er O O) (O)) (Ib O (Rb O O) (Ib O (Dc O) (Ib O (Za O) (Sa O (v:=.bool true) (λw hC=>Ei (Er O O) (O)) (Ib O (Rb O O) (Ib O (Dc O) (Ng O (Bf aZ nZ O C0 0 O O) ?_))))))))));refine Iv ?_ ?_
 ·
  refine Jf 1 O hF (Gb (cs:=#[I [97]]) cX sZ sX Ua Ua Qb) ?_;intro b5 w hb5 hF hE;have hT:=hT.ext hE;have hU:=hU.ext hE;have hV7:=hV7.ext hE;have hC7:=hC7.ext hE;have hV8:=hV8.ext hE;refine⟨hF.drop 2,?_⟩;refine Dd O (In (v':=.agg (GS 57).cells.toArray) (GC 9 Aa Aa _ (hG.ext hF.same)) Qb) (Ma AB O O) ?_;rintro _ w ⟨rfl,hE⟩;have hF:=hF.ext hE;have hT:=hT.ext hE;have hU:=hU.ext hE;have hV7:=hV7.ext hE;have hC7:=hC7.ext hE;have hV8:=hV8.ext hE;refine⟨hF.drop 2,?_⟩;refine Jf 1 O hF (Gb (cs:=#[J 3,I [57],aQ,aQ]) dX nZ oX Ua Ua Qb) ?_;intro b6 w hb6 hF hE;have hT:=hT.ext hE;have hU:=hU.ext hE;have hV7:=hV7.ext hE;have hC7:=hC7.ext hE;have hV8:=hV8.ext hE;refine⟨hF.drop 3,?_⟩;refine Dd O (HU (some ⟨b5,0,none⟩) 1 1 (some ⟨b6,0,none⟩) 1 1 _) (Xa LU O O O) ?_;rintro _ w ⟨rfl,hE⟩;have hF:=hF.ext hE;have hT:=hT.ext hE;have hU:=hU.ext hE;have hV7:=hV7.ext hE;have hC7:=hC7.ext hE;have hV8:=hV8.ext hE;refine⟨hF.drop 3,?_⟩;refine Dd O (In (v':=.bool true) (M6 MD MD _ _ _ _ _ hV8 (show Rep (λ_=>True) _ (Ob MD) [J 6,I [],W b5 1 1,W b6 1 1] from Rep.tree_mk ⟨by decide,by decide⟩ Oa (hF.rowS (S:=λ_=>True) 1 O (n:=1) Ks O Aa).anyS (hF.rowS (S:=λ_=>True) 0 O (n:=1) D8 O Aa).anyS)) (congrArg Value.bool (Al _))) (Xa XG O O O) ?_;rintro _ w ⟨rfl,hE⟩;have hF:=hF.ext hE;have hT:=hT.ext hE;have hU:=hU.ext hE;have hV7:=hV7.ext hE;have hC7:=hC7.ext hE;have hV8:=hV8.ext hE;refine⟨hF.drop 3,?_⟩;refine Ib O (Rb O O) (Ib O (Kb O) (Ic (Ha ?_)));refine Gc (v:=.bool true) O O ?_;exact⟨O,hF.same⟩
 refine Dd O (In (v':=.agg (GS 57).cells.toArray) (GC 9 Aa Aa _ (hG.ext hF.same)) Qb) (Ma AB O O) ?_;rintro _ w ⟨rfl,hE⟩;have hF:=hF.ext hE;have hT:=hT.ext hE;have hU:=hU.ext hE;have hV7:=hV7.ext hE;have hC7:=hC7.ext hE;have hV8:=hV8.ext hE;refine⟨hF.drop 1,?_⟩;refine Iv ?_ ?_
 ·
  refine Jf 1 O hF (Gb (cs:=#[I [97]]) cX sZ sX Ua Ua Qb) ?_;intro b7 w hb7 hF hE;have hT:=hT.ext hE;have hU:=hU.ext hE;have hV7:=hV7.ext hE;have hC7:=hC7.ext hE;have hV8:=hV8.ext hE;refine⟨hF.drop 2,?_⟩;refine Jf 1 O hF (Gb (cs:=#[J 3,I [57],aQ,aQ]) dX nZ oX Ua Ua Qb) ?_;intro b8 w hb8 hF hE;have hT:=hT.ext hE;have hU:=hU.ext hE;have hV7:=hV7.ext hE;have hC7:=hC7.ext hE;have hV8:=hV8.ext hE;refine⟨hF.drop 3,?_⟩;refine Dd O (HU (some ⟨b7,0,none⟩) 1 1 (some ⟨b8,0,none⟩) 1 1 _) (Xa LU O O O) ?_;rintro _ w ⟨rfl,hE⟩;have hF:=hF.ext hE;have hT:=hT.ext hE;have hU:=hU.ext hE;have hV7:=hV7.ext hE;have hC7:=hC7.ext hE;have hV8:=hV8.ext hE;refine⟨hF.drop 3,?_⟩;refine Dd O (In (v':=.bool true) (M6 MD MD _ _ _ _ _ hV8 (show Rep (λ_=>True) _ (Ob MD) [J 6,I [],W b7 1 1,W b8 1 1] from Rep.tree_mk ⟨by decide,by decide⟩ Oa (hF.rowS (S:=λ_=>True) 1 O (n:=1) Ks O Aa).anyS (hF.rowS (S:=λ_=>True) 0 O (n:=1) D8 O Aa).anyS)) (congrArg Value.bool (Al _))) (Xa XG O O O) ?_;rintro _ w ⟨rfl,hE⟩;have hF:=hF.ext hE;have hT:=hT.ext hE;have hU:=hU.ext hE;have hV7:=hV7.ext hE;have hC7:=hC7.ext hE;have hV8:=hV8.ext hE;refine⟨hF.drop 3,?_⟩;refine Ib O (Rb O O) (Ib O (Kb O) (Ic (Ha ?_)));refine Gc (v:=.bool true) O O ?_;exact⟨O,hF.same⟩
 refine Jf 1 O hF (Gb (cs:=#[J 3,I [57],aQ,aQ]) dX nZ oX Ua Ua Qb) ?_;intro b9 w hb9 hF hE;have hT:=hT.ext hE;have hU:=hU.ext hE;have hV7:=hV7.ext hE;have hC7:=hC7.ext hE;have hV8:=hV8.ext hE;refine⟨hF.drop 2,?_⟩;refine Jf 1 O hF (Gb (cs:=#[I [97]]) cX sZ sX Ua Ua Qb) ?_;intro b10 w hb10 hF hE;have hT:=hT.ext hE;have hU:=hU.ext hE;have hV7:=hV7.ext hE;have hC7:=hC7.ext hE;have hV8:=hV8.ext hE;refine⟨hF.drop 3,?_⟩;refine Dd O (HU (some ⟨b10,0,none⟩) 1 1 (some ⟨b9,0,none⟩) 1 1 _) (Xa LU O O O) ?_;rintro _ w ⟨rfl,hE⟩;have hF:=hF.ext hE;have hT:=hT.ext hE;have hU:=hU.ext hE;have hV7:=hV7.ext hE;have hC7:=hC7.ext hE;have hV8:=hV8.ext hE;refine⟨hF.drop 3,?_⟩;refine Dd O (In (v':=.bool true) (M6 MD MD _ _ _ _ _ hV8 (show Rep (λ_=>True) _ (Ob MD) [J 6,I [],W b10 1 1,W b9 1 1] from Rep.tree_mk ⟨by decide,by decide⟩ Oa (hF.rowS (S:=λ_=>True) 0 O (n:=1) Ks O Aa).anyS (hF.rowS (S:=λ_=>True) 1 O (n:=1) D8 O Aa).anyS)) (congrArg Value.bool (Al _))) (Xa XG O O O) ?_;rintro _ w ⟨rfl,hE⟩;have hF:=hF.ext hE;have hT:=hT.ext hE;have hU:=hU.ext hE;have hV7:=hV7.ext hE;have hC7:=hC7.ext hE;have hV8:=hV8.ext hE;refine⟨hF.drop 3,?_⟩;refine Ib O (Rb O O) (Ib O (Kb O) (Ic (Ha ?_)));refine Gc (v:=.bool true) O O ?_;exact⟨O,hF.same⟩
end Go.Scarf
