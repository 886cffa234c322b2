/- A part of the proof. -/
import Derived.Test.YthnkjgpjdbdchaaGreatDoorM15
import Derived.Test.YthnkjgpjdbdchaaGreatDoorIv
set_option linter.all false
set_option maxHeartbeats 8000000
set_option maxRecDepth 10000
namespace Go.Scarf
open Go.RowKit Go.Proofs Go.Proofs.Tryz
theorem x_makeV{P:Program}{w:World}{ρ:Operand->Value}{dst:Option Nat}{ty:TypeId}{pos:String}{aft:Array Edge}{g:Option (Nat × Bool)}{t e m bytes:Nat}{z:Value}{x y:Operand}{N:Nat}{cs:Array Value}(hE:Elems P t e m bytes)(hz0:(P.info? e).map (·.zero)=some (some z))(hc:madeCells z.cells (N*m)=cs)(hx:ρ x=J (N:Int))(hy:ρ y=J (N:Int))(h:N<=1000)(hb:bytes<=1000) :
    (execOp ρ ⟨dst,.makeSlice t x y,ty,pos,aft,g⟩).run P w=.ok (.value (.slice (some ⟨w.heap.size,0,none⟩) N N)) (w.alloc (.cells cs e)):=by
  obtain⟨i,z',hi,hz,hs,hby,-⟩:=hE.info;rw[hi]at hz0;have ez:i.zero=some z:=by simpa using hz0
  have hle:(i.bytes:Int)*(N:Int)<=281474976710656:=by
    rw[hby];have:bytes*N<=1000*1000:=Nat.mul_le_mul hb h;have h2:((bytes*N:Nat):Int)<=281474976710656:=by omega
    rwa [Int.natCast_mul]at h2
  have hr:=run_make (P:=P) w t e i z hE.ht hi ez .i64 .i64 N N sX (Int.le_refl _) hle sX;rw[hs,Int.toNat_natCast,hc]at hr;simp[execOp,hx,hy,hr]
abbrev N5(i:UInt8):Tree:=.node 3 [i] [] []
def b1T:Tree:=.node 6 [] [[97],[98]] [N5 49,N5 50]
def l1T:Tree:=.node 6 [] [[97],[98]] [N5 53,N5 50]
def r1T:Tree:=.node 6 [] [[97],[98],[99]] [N5 49,N5 50,N5 51]
def KI:Tree:=.node 6 [] [[97],[98],[99]] [N5 53,N5 50,N5 51]
def b2T:Tree:=.node 6 [] [[97]] [N5 49]
def l2T:Tree:=.node 6 [] [[97]] [N5 50]
def LO:Tree:=.node 6 [] [] []
def o2T:Tree:=.node 6 [] [[97]] [Mr 0]
def OV:Cf:=⟨[[97]],3,⟨true,N5 49⟩,⟨true,N5 50⟩,noS⟩
def b3T:Tree:=.node 5 [] [] [N5 49,N5 50]
def l3T:Tree:=.node 5 [] [] [N5 49,N5 57,N5 50]
def r3T:Tree:=.node 5 [] [] [N5 49,N5 50,N5 51]
def JA:Tree:=.node 5 [] [] [N5 49,N5 57,N5 50,N5 51]
theorem mg_one:Cj [] b1T l1T r1T=(KI,[],0):=by kernel_rfl
theorem mg_two:Cj [] b2T l2T LO=(o2T,[OV],0):=by kernel_rfl
theorem NZ:Cj [] b3T l3T r3T=(JA,[],0):=by kernel_rfl
theorem ch_two:Hs o2T [OV] [2]=(LO,0):=by kernel_rfl
theorem cfT_ok:∀c∈[OV],CfS c:=λc hc=>by
  rw[pQ.1 hc];exact⟨⟨.inr ⟨O,by kernel_rfl⟩,.inr ⟨O,by kernel_rfl⟩,.inl O,λh=>absurd h Oa,by decide,by decide⟩,by decide,by decide,by decide⟩
theorem o2T_sz:Rb o2T<=512/\Nd o2T<=16777216:=by
  have h:decide (Rb o2T<=512/\Nd o2T<=16777216)=true:=by kernel_rfl
  exact of_decide_eq_true h
theorem o2T_hol:HolIn 1 o2T:=λt ht=>⟨0,by omega,by omega,by simpa[o2T,Vg,Zg,Mr]using ht⟩
def numQ(j:Nat):List Value:=[J 3,I (Ro (CE (j:Int))),aQ,aQ]
def S5(j:Nat):List Value:=(List.range 10).flatMap λi=>if i<j then numQ i else [J 0,I [],aQ,aQ]
theorem TU:∀j,j<10->(S5 j).length=40
  | 0,_=>rfl|1,_=>rfl|2,_=>rfl|3,_=>rfl|4,_=>rfl|5,_=>rfl|6,_=>rfl|7,_=>rfl|8,_=>rfl|9,_=>rfl
  | n+10,h=>absurd h sX
theorem LT:∀j,j<10->putA (S5 j).toArray (j*4) (numQ j)=(S5 (j+1)).toArray
  | 0,_=>by kernel_rfl|1,_=>by kernel_rfl|2,_=>by kernel_rfl|3,_=>by kernel_rfl|4,_=>by kernel_rfl|5,_=>by kernel_rfl|6,_=>by kernel_rfl|7,_=>by kernel_rfl|8,_=>by kernel_rfl|9,_=>by kernel_rfl
  | n+10,h=>absurd h sX
def tenL:List Value:=[J 3,I [48],aQ,aQ,J 3,I [49],aQ,aQ,J 3,I [50],aQ,aQ,J 3,I [51],aQ,aQ,J 3,I [52],aQ,aQ,J 3,I [53],aQ,aQ,J 3,I [54],aQ,aQ,J 3,I [55],aQ,aQ,J 3,I [56],aQ,aQ,J 3,I [57],aQ,aQ]
theorem ZU:S5 10=tenL:=by kernel_rfl
theorem UN:S5 0=[J 0,I [],aQ,aQ,J 0,I [],aQ,aQ,J 0,I [],aQ,aQ,J 0,I [],aQ,aQ,J 0,I [],aQ,aQ,J 0,I [],aQ,aQ,J 0,I [],aQ,aQ,J 0,I [],aQ,aQ,J 0,I [],aQ,aQ,J 0,I [],aQ,aQ]:=by kernel_rfl
theorem Xc{w w':World}{ad:Addr}{l:List Value}(h:∀j (hj:j<l.length),w.cell? (ad.add j)=some l[j])(hs:Same [] w w'):∀j (hj:j<l.length),w'.cell? (ad.add j)=some l[j]:=((FR.start w []).ext hs).cells0 h
theorem FR.rowF{w0 w:World}{i:List Nat}{ds:List D}{bs_:List (Nat × Obj)}(hF:FR w0 [] bs_ w)(k:Nat){b n c:Nat}{l es:List Value}{T:TypeId}(hi:bs_[k]? = some (b,.cells l.toArray T))(hr:RX w0 i w ds es)(he:l.take es.length=es)(hb:b∉i)(hn:ds.length=n)(hnc:n<=c)(hm:c<=9223372036854775807) :
    RX w0 i w [.slice ds] [W b n c]:=by
  refine .one (Rep.slice_mk hn.symm hnc hm λ_=>⟨_,O,es,λj hj=>⟨?_,?_⟩,hr⟩)
  ·have hl : j<l.length := by have := congrArg List.length he;rw[List.length_take]at this;omega
   rw[hF.cellsAll k hi j hl];have h2:(l.take es.length)[j]? = es[j]?:=by rw[he]
   rw[List.getElem?_take,if_pos hj,List.getElem?_eq_getElem hl,List.getElem?_eq_getElem hj]at h2;exact h2
  exact⟨hF.ge hi,hF.lt hi,hb,l.toArray,T,hF.heap hi⟩
theorem Mp{w0 w:World}{bs_:List (Nat × Obj)}(hG:Gl w0)(hF:FR w0 [] bs_ w):∀x∈bs_.map (·.1),8<=x/\x<w.heap.size:=λx hx=>by
  refine⟨?_,hF.lt_ids hx⟩;obtain⟨q,hq,rfl⟩:=nQ.1 hx;have:=(hF.own q hq).2;simp only[List.not_mem_nil,or_false]at this;exact fQ hG.size this
abbrev nA1(i:UInt8):Array Value:=#[J 3,I [i],aQ,aQ]
abbrev nA2(i j:UInt8):Array Value:=#[J 3,I [i],aQ,aQ,J 3,I [j],aQ,aQ]
abbrev nA3(i j k:UInt8):Array Value:=#[J 3,I [i],aQ,aQ,J 3,I [j],aQ,aQ,J 3,I [k],aQ,aQ]
abbrev nA4(i j k l:UInt8):Array Value:=#[J 3,I [i],aQ,aQ,J 3,I [j],aQ,aQ,J 3,I [k],aQ,aQ,J 3,I [l],aQ,aQ]
abbrev kA2:Array Value:=#[I [97],I [98]]
abbrev kA3:Array Value:=#[I [97],I [98],I [99]]
abbrev zA:Array Value:=#[J 0,I [],aQ,aQ]
abbrev nV(i:UInt8):Value:=.agg #[J 3,I [i],aQ,aQ]
def idA:Option Value->List Nat
  | some (.pointer (some a))=>[a.block]
  | _=>[]
def Wv(t:Tree):Option Value->Value->World->Prop:=λ_ u w=>∃x:Tv,u=.agg x.cells.toArray/\Rep (λ_=>True) w (Wb t) x.cells
def LL(u0:World)(own:List Nat)(t:Tree)(cs:List Cf):Option Value->Value->World->Prop:=λa u w=>∃(q:Tv)(A:Option Addr)(c:Nat),u=.tuple #[.agg q.cells.toArray,.slice A cs.length c,J 0]/\RX (wE u0) (idA a++own) w [Wb t] q.cells/\RX (wE u0) (idA a++own) w [.slice (cs.map XB)] [.slice A cs.length c]
def mvF(u0:World)(own:List Nat)(t:Tree):Option Value->Value->World->Prop:=λa u w=>∃q:Tv,u=.agg q.cells.toArray/\RX (wE u0) (idA a++own) w [Wb t] q.cells
def BZ(u0:World)(own:List Nat)(cs:List Cf):Option Value->Value->World->Prop:=λa u w=>∃(A:Option Addr)(c:Nat),u=.slice A cs.length c/\RX (wE u0) (idA a++own) w [.slice (cs.map XB)] [.slice A cs.length c]
def LM(ds:List D)(u:Value)(w:World):Prop:=∃A m c,u=.slice A m c/\Rep (λ_=>True) w (.slice ds) [.slice A m c]
abbrev sV(b n c:Nat):Value:=W b n c
abbrev pV(b:Nat):Value:=V b
section
variable {u0:World}{own:List Nat}{t:Tree}{cs:List Cf}
theorem ME:∀a u w w',Same [] w w'->Wv t a u w->Wv t a u w':=λ_ _ _ _ hs ⟨x,e,h⟩=>⟨x,e,h.ext hs⟩
theorem RE:∀u w w',Same [] w w'->Wv t none u w->Wv t (some (pV w.heap.size)) u w':=λ_ _ _ hs ⟨x,e,h⟩=>⟨x,e,h.ext hs⟩
theorem G3:∀a u w w',Same [] w w'->LL u0 own t cs a u w->LL u0 own t cs a u w':=λ_ _ _ _ hs ⟨q,A,c,e,h,h'⟩=>⟨q,A,c,e,h.ext hs,h'.ext hs⟩
theorem Y3:∀u w w',Same [] w w'->LL u0 own t cs none u w->LL u0 own t cs (some (pV w.heap.size)) u w':=λ_ _ _ hs ⟨q,A,c,e,h,h'⟩=>⟨q,A,c,e,h.alloc hs rfl,h'.alloc hs rfl⟩
theorem VO:∀a u w w',Same [] w w'->mvF u0 own t a u w->mvF u0 own t a u w':=λ_ _ _ _ hs ⟨q,e,h⟩=>⟨q,e,h.ext hs⟩
theorem VM:∀u w w',Same [] w w'->mvF u0 own t none u w->mvF u0 own t (some (pV w.heap.size)) u w':=λ_ _ _ hs ⟨q,e,h⟩=>⟨q,e,h.alloc hs rfl⟩
theorem Iu:∀a u w w',Same [] w w'->BZ u0 own cs a u w->BZ u0 own cs a u w':=λ_ _ _ _ hs ⟨A,c,e,h⟩=>⟨A,c,e,h.ext hs⟩
theorem Bv:∀u w w',Same [] w w'->BZ u0 own cs none u w->BZ u0 own cs (some (pV w.heap.size)) u w':=λ_ _ _ hs ⟨A,c,e,h⟩=>⟨A,c,e,h.alloc hs rfl⟩
theorem RX.push{w0 w w':World}{ids:List Nat}{ds:List D}{l:List Value}{b:Nat}(h:RX w0 ids w ds l)(hs:Same [] w w')(hb:w.heap.size<=b):RX w0 (b::ids) w' ds l :=
  h.step hs Da (λx hx=>by rcases oQ.1 hx with rfl|hx;exact .inr hb;exact .inl hx)
end
section
variable {n:Nat}{ops:List Oper}{Z:Nat->World->Prop}{w00 u0:World}{sl:List (Nat × Value)}{H:Nat × Nat}{l:List Fact}{i d:Nat}{ty:Nat}{pos:String}{aft:Array Edge}{g:Option (Nat × Bool)}{own:List Nat}{ats:Array TypeId}
theorem GY{ds:List D}{N:Nat}{T:TypeId}{lv:List Value}{u:Value}{w:World}{a:Option Value}(h:rowF N (.cells lv.toArray T) a u w)(hr:RepL (λ_=>True) w ds lv)(hn:ds.length=N)(hm:N<=9223372036854775807):LM ds u w:=by
  obtain⟨b,rfl,hb⟩:=h;exact⟨_,_,_,O,row_all hb hr hn hm⟩
theorem KK{w:World}:LM [] (aQ) w:=⟨_,_,_,rfl,Rep.nil_slice 0 sX none⟩
theorem N3{ks:List Str}{xs:List Tree}{x y:Operand}(hp:Ph Z sl H l)(k:Nat)(hk:l[k]? = some (i,d,Wv (.node 6 [] ks xs)))(hi:ops[i]? = some ⟨some d,.call ⟨.value (.func 20),#[x,y],ats⟩,ty,pos,aft,g⟩)
    (h:∀S s w,(∀d∈Qg ops i,S d=true)->IG Z w00 sl H l S s w->LM (ks.map Qm) (ev n s x) w/\LM (Cd xs) (ev n s y) w) (hw:∀s,Ub ops n s ⟨some d,.call ⟨.value (.func 20),#[x,y],ats⟩,ty,pos,aft,g⟩=true:=by exact λ_=>rfl):StepA prog n ops (IG Z w00 sl H l) i :=
  PL hp k hk hi (λS s w hd hI=>by
    obtain⟨⟨A,m,c,e1,h1⟩,B,m',c',e2,h2⟩:=h S s w hd hI;refine⟨20,_,_,_,B8 A m c B m' c' w,Ya GA O e1 e2,?_⟩;rintro v w'' ⟨rfl,hs⟩;exact⟨hs,⟨6,[],A,m,c,B,m',c'⟩,O,Rep.tree_mk ⟨by decide,by decide⟩ Da (h1.ext hs) (h2.ext hs)⟩) hw
theorem NL{xs:List Tree}{x:Operand}(hp:Ph Z sl H l)(k:Nat)(hk:l[k]? = some (i,d,Wv (.node 5 [] [] xs)))(hi:ops[i]? = some ⟨some d,.call ⟨.value (.func 21),#[x],ats⟩,ty,pos,aft,g⟩)
    (h:∀S s w,(∀d∈Qg ops i,S d=true)->IG Z w00 sl H l S s w->LM (Cd xs) (ev n s x) w) (hw:∀s,Ub ops n s ⟨some d,.call ⟨.value (.func 21),#[x],ats⟩,ty,pos,aft,g⟩=true:=by exact λ_=>rfl):StepA prog n ops (IG Z w00 sl H l) i :=
  PL hp k hk hi (λS s w hd hI=>by
    obtain⟨A,m,c,e1,h1⟩:=h S s w hd hI;refine⟨21,_,_,_,II A m c w,Ra EK O e1,?_⟩;rintro v w'' ⟨rfl,hs⟩;exact⟨hs,⟨5,[],none,0,0,A,m,c⟩,O,Rep.tree_mk ⟨by decide,by decide⟩ Da (Rep.nil_slice 0 sX none) (h1.ext hs)⟩) hw
theorem st_mg{bT lT rT oT:Tree}{cs:List Cf}{x y z ix iy iz:Nat}(hp:Ph Z sl H l)(k kx ky kz:Nat)(hk:l[k]? = some (i,d,LL u0 own oT cs))(hx:l[kx]? = some (ix,x,Wv bT))(hy:l[ky]? = some (iy,y,Wv lT))(hz:l[kz]? = some (iz,z,Wv rT))
    (hi:ops[i]? = some ⟨some d,.call ⟨.value (.func 10),#[.tmp x,.tmp y,.tmp z,.const (aQ)],ats⟩,ty,pos,aft,g⟩) (mx:(Qg ops i).contains ix=true) (my:(Qg ops i).contains iy=true) (mz:(Qg ops i).contains iz=true) (nx:Nat.blt x n=true) (ny:Nat.blt y n=true) (nz:Nat.blt z n=true)
    (heq:Cj [] bT lT rT=(oT,cs,0)) (hb:Rb bT<=256/\Nd bT<=16777216) (hl:Rb lT<=256/\Nd lT<=16777216) (hr:Rb rT<=256/\Nd rT<=16777216) (hG:Gl w00) (ho:∀x∈own,8<=x/\x<w00.heap.size) (hZ:∀b w,Z b w->b<w.heap.size)
    (hw:∀s,Ub ops n s ⟨some d,.call ⟨.value (.func 10),#[.tmp x,.tmp y,.tmp z,.const (aQ)],ats⟩,ty,pos,aft,g⟩=true:=by exact λ_=>rfl):StepA prog n ops (IG Z w00 sl H l) i :=
  PL hp k hk hi (λS s w hd hI=>by
    obtain⟨q1,e1,h1⟩:=hI.dep hd kx hx mx;obtain⟨q2,e2,h2⟩:=hI.dep hd ky hy my;obtain⟨q3,e3,h3⟩:=hI.dep hd kz hz mz;refine⟨10,_,_,_,Wp [] bT lT rT (λ_=>(GM 40).at) q1 q2 q3 none 0 _ _ _ (λ_=>True) w h1 h2 h3 (Rep.nil_slice 0 sX none) (λq hq=>by cases hq) hb hl hr (hG.ext hI.2.1),Lh M5 O ((Sl nx).trans e1) ((Sl ny).trans e2) ((Sl nz).trans e3) O,?_⟩;rintro v w' ⟨q,A',c,rfl,r1,r2,hs⟩;have hid:∀b∈idA (Bp H S s)++own,8<=b/\b<w.heap.size:=λb hb=>by
      rcases mQ.1 hb with hb|hb
      ·unfold Bp at hb
       by_cases hA:S H.1=true
       ·rw[if_pos hA]at hb
        obtain⟨b',e,hz,hge⟩:=hI.2.2.2 hA;rw[e]at hb;obtain rfl:b=b':=by simpa[idA]using hb
        exact⟨fQ hG.size hge,hZ _ _ hz⟩
       rw[if_neg hA]at hb;cases hb
      exact⟨(ho b hb).1,Nat.lt_of_lt_of_le (ho b hb).2 hI.2.1.size⟩
    rw[heq]at r1 r2 ⊢;exact⟨hs,q,A',c,O,NewB.rx r1 hid,NewB.rx r2 hid⟩) hw
theorem st_x0{oT:Tree}{cs:List Cf}{i' d':Nat}(hp:Ph Z sl H l)(k k':Nat)(hk:l[k]? = some (i,d,mvF u0 own oT))(hk':l[k']? = some (i',d',LL u0 own oT cs))(hi:ops[i]? = some ⟨some d,.extract (.tmp d') 0,ty,pos,aft,g⟩)(hm:(Qg ops i).contains i'=true)(hn:Nat.blt d' n=true)
    (hw:∀s,Ub ops n s ⟨some d,.extract (.tmp d') 0,ty,pos,aft,g⟩=true:=by exact λ_=>rfl):StepA prog n ops (IG Z w00 sl H l) i :=
  Zw hp k hk hi (λS s w hd hI=>by
    obtain⟨q,A,c,e,h1,h2⟩:=hI.dep hd k' hk' hm;exact⟨_,w,Qh ((Sl hn).trans e) O,Same.refl _ _,q,O,h1⟩) hw
theorem VB{oT:Tree}{cs:List Cf}{i' d':Nat}(hp:Ph Z sl H l)(k k':Nat)(hk:l[k]? = some (i,d,BZ u0 own cs))(hk':l[k']? = some (i',d',LL u0 own oT cs))(hi:ops[i]? = some ⟨some d,.extract (.tmp d') 1,ty,pos,aft,g⟩)(hm:(Qg ops i).contains i'=true)(hn:Nat.blt d' n=true)
    (hw:∀s,Ub ops n s ⟨some d,.extract (.tmp d') 1,ty,pos,aft,g⟩=true:=by exact λ_=>rfl):StepA prog n ops (IG Z w00 sl H l) i :=
  Zw hp k hk hi (λS s w hd hI=>by
    obtain⟨q,A,c,e,h1,h2⟩:=hI.dep hd k' hk' hm;exact⟨_,w,Qh ((Sl hn).trans e) O,Same.refl _ _,A,c,O,h2⟩) hw
theorem JD{oT:Tree}{cs:List Cf}{i' d':Nat}(hp:Ph Z sl H l)(k k':Nat)(hk:l[k]? = some (i,d,Zk (J 0)))(hk':l[k']? = some (i',d',LL u0 own oT cs))(hi:ops[i]? = some ⟨some d,.extract (.tmp d') 2,ty,pos,aft,g⟩)(hm:(Qg ops i).contains i'=true)(hn:Nat.blt d' n=true)
    (hw:∀s,Ub ops n s ⟨some d,.extract (.tmp d') 2,ty,pos,aft,g⟩=true:=by exact λ_=>rfl):StepA prog n ops (IG Z w00 sl H l) i :=
  Zw hp k hk hi (λS s w hd hI=>by
    obtain⟨q,A,c,e,h1,h2⟩:=hI.dep hd k' hk' hm;exact⟨_,w,Qh ((Sl hn).trans e) O,Same.refl _ _,O⟩) hw
def Z1(b:Nat)(w:World):Prop:=w.heap[b]? = some (.cells #[J 0,I [],aQ,aQ] 25)
def Z2(u0:World)(own:List Nat)(t:Tree)(b:Nat)(w:World):Prop:=∃q:Tv,w.heap[b]? = some (.cells q.cells.toArray 25)/\RX (wE u0) (b::own) w [Wb t] q.cells
theorem QX:∀b w w',Same [] w w'->Z1 b w->Z1 b w':=λ_ _ _ hs h=>Wi h hs
theorem Z2_st{t:Tree}:∀b w w',Same [] w w'->Z2 u0 own t b w->Z2 u0 own t b w':=λ_ _ _ hs ⟨q,h,h'⟩=>⟨q,Wi h hs,h'.ext hs⟩
def l2(u0:World)(own:List Nat)(t:Tree)(cs:List Cf)(p:Nat × Nat)(e:Nat)(q:Nat × Nat)(e':Nat)(r:Nat × Nat):List Fact :=
  [(p.1,p.2,LL u0 own t cs),(p.1+2,q.1,BZ u0 own cs),(p.1+3,q.2,Zk (J 0)),(e,r.1,BZ u0 own cs),(e',r.2,Zk (J 0))]
theorem AllG.nil{S:Nat->Bool}{s:Nat->Value}{w:World}:AllG H S s w []:=λk f h=>by simp at h
theorem AllG.cons{S:Nat->Bool}{s:Nat->Value}{w:World}{f:Fact}(h:S f.1=true->f.2.2 (Bp H S s) (s f.2.1) w)(hl:AllG H S s w l):AllG H S s w (f::l):=λk g hg=>by
  cases k with
  | zero => obtain rfl : f = g := by simpa using hg
            exact h
  | succ k=>exact hl k g (by simpa using hg)
theorem MZ{t:Tree}{cs:List Cf}{p q r:Nat × Nat}{st dv:Nat}(k31 k32 k33 k34:Nat)(h31:l[k31]? = some (p.1,p.2,LL u0 own t cs))(h32:l[k32]? = some (p.1+1,dv,mvF u0 own t))(h33:l[k33]? = some (p.1+2,q.1,BZ u0 own cs))(h34:l[k34]? = some (p.1+3,q.2,Zk (J 0)))
    (hi:ops[st]? = some ⟨none,.store 25 (.tmp H.2) (.tmp dv),ty,pos,aft,g⟩) (hA:Nat.blt H.2 n=true) (hv:Nat.blt dv n=true) (mA:(Qg ops st).contains H.1=true:=by kernel_rfl) (mv:(Qg ops st).contains (p.1+1)=true:=by kernel_rfl)
    (m37:(Qg ops (st+1)).contains st=true:=by kernel_rfl) (m38:(Qg ops (st+2)).contains (st+1)=true:=by kernel_rfl) (hsz:decide (st+2<ops.length/\p.1+3<st/\H.1<st)=true:=by kernel_rfl)
    (hw:∀s,Ub ops n s ⟨none,.store 25 (.tmp H.2) (.tmp dv),ty,pos,aft,g⟩=true:=by exact λ_=>rfl) :
    StepA prog n ops (Jy st (IG Z1 w00 sl H l) (IG (Z2 u0 own t) w00 sl H (l2 u0 own t cs p (st+1) q (st+2) r))) st:=.at λS s w hS hd hc hI=>by
  have hsz:=of_decide_eq_true hsz;obtain⟨h1,h2,h3,h4⟩:=id hI;have sA:S H.1=true:=hd _ (List.contains_iff_mem.1 mA);obtain⟨b,eb,hz,hb⟩:=h4 sA;obtain⟨x,ex,hx⟩:=hI.dep hd k32 h32 mv;have ea:Bp H S s=some (pV b):=by unfold Bp;rw[sA,if_pos rfl,eb]
  rw[ea]at hx;have hF:FR w00 [] [(b,.cells (List.toArray [J 0,I [],aQ,aQ]) 25)] w:=⟨h2,λq hq=>by rw[pQ.1 hq];exact⟨hz,.inl hb⟩,by simp⟩;have s37:S (st+1)=false:=by
    cases e:S (st+1)with
    | false=>rfl
    | true=>rw[hc _ sX e st (List.contains_iff_mem.1 m37)]at hS;cases hS
  have s38:S (st+2)=false:=by
    cases e:S (st+2)with
    | false=>rfl
    | true=>rw[hc _ sX e (st+1) (List.contains_iff_mem.1 m38)]at s37;cases s37
  refine does_dg (λ_ _ _=>True) .done (Up hi hF oZ ((Sl hA).trans eb) ((Sl hv).trans ex) Ih (λw' hF' hs=>⟨trivial,Fc (Dc ?_)⟩) O O O (hw s));have eI:Bp H (JL st S) s=some (pV b):=by rw[<-ea];unfold Bp;rw[Kp sX]
  refine⟨h1,hF'.same,?_,λ_=>⟨b,eb,⟨x,hF'.heap (i:=0) O,hx.store hs (by simp[idA])⟩,hb⟩⟩;refine .cons (λh=>?_) (.cons (λh=>?_) (.cons (λh=>?_) (.cons (λh=>?_) (.cons (λh=>?_) .nil))))
  ·rw[Kp (by show p.1 ≠ st;omega)]at h
   have:=h3 k31 _ h31 h;rw[ea]at this;obtain⟨q,A,c,e,g1,g2⟩:=this;rw[eI];exact⟨q,A,c,e,g1.store hs (by simp[idA]),g2.store hs (by simp[idA])⟩
  ·rw[Kp (by show p.1 + 2 ≠ st;omega)]at h
   have:=h3 k33 _ h33 h;rw[ea]at this;obtain⟨A,c,e,g1⟩:=this;rw[eI];exact⟨A,c,e,g1.store hs (by simp[idA])⟩
  ·rw[Kp (by show p.1 + 3 ≠ st;omega)]at h
   exact h3 k34 _ h34 h
  ·rw[Kp (by show st + 1 ≠ st;omega)]at h
   rw[s37]at h;cases h
  rw[Kp (by show st + 2 ≠ st;omega)]at h;rw[s38]at h;cases h
end
abbrev nL(i:UInt8):List Value:=[J 3,I [i],aQ,aQ]
theorem I1{w:World}:∀l:List UInt8,RepL (λ_=>True) w (Cd (l.map λi=>.node 3 [i] [] [])) (l.flatMap nL)
  | []=>RepL.nil_mk
  | i::l=>RepL.cons_mk (c1:=nL i) (Rep.tree_mk ⟨by decide,by decide⟩ Da (Rep.nil_slice 0 sX none) (Rep.nil_slice 0 sX none)) (I1 l)
theorem strsR{w:World}:∀ks:List Str,(∀k∈ks,k.length<=9223372036854775807)->RepL (λ_=>True) w (ks.map Qm) (ks.map λk=>I k)
  | [],_=>RepL.nil_mk
  | k::ks,h=>RepL.cons_mk (Rep.lit_mk (v:=I k) (h k Da)) (strsR ks λx hx=>h x (by simp[hx]))
section
variable {n:Nat}{ops:List Oper}{Z:Nat->World->Prop}{w00 w:World}{sl:List (Nat × Value)}{H:Nat × Nat}{l:List Fact}{i k' d':Nat}{S:Nat->Bool}{s:Nat->Value}
theorem Av{ds:List D}{N:Nat}{T:TypeId}{lv:List Value}(hI:IG Z w00 sl H l S s w)(hd:∀d∈Qg ops i,S d=true)(k:Nat)(hk:l[k]? = some (k',d',rowF N (.cells lv.toArray T)))(hm:(Qg ops i).contains k'=true)(hn:Nat.blt d' n=true)(hr:RepL (λ_=>True) w ds lv)(hN:ds.length=N)(hb:decide (N<=9)=true):LM ds (ev n s (.tmp d')) w:=by
  rw[Sl hn];exact GY (hI.dep hd k hk hm) hr hN (by have:=of_decide_eq_true hb;omega)
theorem QF{ds:List D}{A:Option Addr}{m c:Nat}(hI:IG Z w00 sl H l S s w)(hd:∀d∈Qg ops i,S d=true)(k:Nat)(hk:l[k]? = some (k',d',Zk (.slice A m c)))(hm:(Qg ops i).contains k'=true)(hn:Nat.blt d' n=true)(hr:∀w,Same [] w00 w->Rep (λ_=>True) w (.slice ds) [.slice A m c]):LM ds (ev n s (.tmp d')) w:=by
  rw[Sl hn];exact⟨A,m,c,hI.dep hd k hk hm,hr w hI.2.1⟩
theorem J3{Z1 Z2:Nat->World->Prop}{l1 l2:List Fact}{st N:Nat}(hs:AllEq s sl)(h:(decide (st<N)&&decide (H.1<N)&&l1.all λf=>decide (f.1<N))=true):Jy st (IG Z1 w sl H l1) (IG Z2 w sl H l2) (λi=>!decide (i<N)) s w:=by
  rw[Bool.and_eq_true,Bool.and_eq_true,decide_eq_true_eq,decide_eq_true_eq]at h;unfold Jy;rw[if_neg (by simp[h.1.1])];refine⟨hs,Same.refl _ _,λk f hf hS=>?_,λhA=>?_⟩
  ·have := of_decide_eq_true (List.all_eq_true.1 h.2 f (List.mem_of_getElem? hf))
   simp[this]at hS
  simp[h.1.2]at hA
theorem VE{J1 J2:(Nat->Bool)->(Nat->Value)->World->Prop}{st:Nat}(h:Jy st J1 J2 (λ_=>true) s w):J2 (λ_=>true) s w:=by
  unfold Jy at h
  rwa [if_pos rfl]at h
end
def sl7(b1:Nat)(b2:Nat):List (Nat × Value):=[(1,sV b1 10 10),(3,sV b2 2 2)]
def l7(u0:World)(own:List Nat)(b1 b2:Nat):List Fact:=[(0,27,Zk (sV b2 2 2)),(1,28,Zk (sV b1 10 10)),(2,29,Zk (.pointer (some ⟨b1,4,none⟩))),(3,30,Zk (.agg (nL 49).toArray)),(4,31,Zk (sV b1 10 10)),(5,32,Zk (.pointer (some ⟨b1,8,none⟩))),(6,33,Zk (.agg (nL 50).toArray)),(7,34,rowF 2 (.cells (([49,50]:List UInt8).flatMap nL).toArray 25)),(8,35,Wv b1T),(9,36,Zk (sV b2 2 2)),(10,37,Zk (sV b1 10 10)),(11,38,Zk (.pointer (some ⟨b1,20,none⟩))),(12,39,Zk (.agg (nL 53).toArray)),(13,40,Zk (sV b1 10 10)),(14,41,Zk (.pointer (some ⟨b1,8,none⟩))),(15,42,Zk (.agg (nL 50).toArray)),(16,43,rowF 2 (.cells (([53,50]:List UInt8).flatMap nL).toArray 25)),(17,44,Wv l1T),(18,45,rowF 3 (.cells (([[97],[98],[99]]:List Str).map λk=>I k).toArray 9)),(19,46,Zk (sV b1 10 10)),(20,47,Zk (.pointer (some ⟨b1,4,none⟩))),(21,48,Zk (.agg (nL 49).toArray)),(22,49,Zk (sV b1 10 10)),(23,50,Zk (.pointer (some ⟨b1,8,none⟩))),(24,51,Zk (.agg (nL 50).toArray)),(25,52,Zk (sV b1 10 10)),(26,53,Zk (.pointer (some ⟨b1,12,none⟩))),(27,54,Zk (.agg (nL 51).toArray)),(28,55,rowF 3 (.cells (([49,50,51]:List UInt8).flatMap nL).toArray 25)),(29,56,Wv r1T),(30,57,LL u0 own KI []),(31,26,LL u0 own KI []),(32,58,mvF u0 own KI),(33,59,BZ u0 own []),(34,60,Zk (J 0))]
theorem ph7{w0:World}{own:List Nat}{b1 b2:Nat}   : Ph Z1 (sl7 b1 b2) (35,4) (l7 w0 own b1 b2):=⟨by unfold l7;repeat (first|exact StabG.nil|refine StabG.cons ?_ ?_|exact Mu|exact NE|exact ME|exact G3|exact VO|exact Iu),by unfold l7;repeat (first|exact StabN.nil|refine StabN.cons ?_ ?_|exact Gv|exact FE|exact RE|exact Y3|exact VM|exact Bv),by kernel_rfl,by kernel_rfl,QX⟩
theorem ph7b{w0:World}{own:List Nat}{b1 b2:Nat}   : Ph (Z2 w0 own KI) (sl7 b1 b2) (35,4) (l2 w0 own KI [] (31,26) 37 (59,60) 38 (5,6)):=⟨.cons G3 (.cons Iu (.cons Mu (.cons Iu (.cons Mu .nil)))),.cons Y3 (.cons Bv (.cons Gv (.cons Bv (.cons Gv .nil)))),by kernel_rfl,by kernel_rfl,Z2_st⟩
def sl8(b1:Nat)(b2:Nat)(bt4:Nat)(A4c:Option Addr)(c4c:Nat):List (Nat × Value):=[(1,sV b1 10 10),(3,sV b2 2 2),(4,pV bt4),(5,.slice A4c 0 c4c),(6,J 0)]
def l8(u0:World)(own:List Nat)(b1 b2:Nat):List Fact:=[(0,62,Zk (sV b2 2 2)),(1,63,Zk (W b2 1 2)),(2,64,Zk (sV b1 10 10)),(3,65,Zk (.pointer (some ⟨b1,4,none⟩))),(4,66,Zk (.agg (nL 49).toArray)),(5,67,rowF 1 (.cells (([49]:List UInt8).flatMap nL).toArray 25)),(6,68,Wv b2T),(7,69,Zk (sV b2 2 2)),(8,70,Zk (W b2 1 2)),(9,71,Zk (sV b1 10 10)),(10,72,Zk (.pointer (some ⟨b1,8,none⟩))),(11,73,Zk (.agg (nL 50).toArray)),(12,74,rowF 1 (.cells (([50]:List UInt8).flatMap nL).toArray 25)),(13,75,Wv l2T),(14,76,Wv LO),(15,77,LL u0 own o2T [OV]),(16,61,LL u0 own o2T [OV]),(17,78,mvF u0 own o2T),(18,79,BZ u0 own [OV]),(19,80,Zk (J 0))]
theorem ph8{w0:World}{own:List Nat}{b1 b2:Nat}   {bt4:Nat} {A4c:Option Addr} {c4c:Nat}:Ph Z1 (sl8 b1 b2 bt4 A4c c4c) (20,7) (l8 w0 own b1 b2):=⟨by unfold l8;repeat (first|exact StabG.nil|refine StabG.cons ?_ ?_|exact Mu|exact NE|exact ME|exact G3|exact VO|exact Iu),by unfold l8;repeat (first|exact StabN.nil|refine StabN.cons ?_ ?_|exact Gv|exact FE|exact RE|exact Y3|exact VM|exact Bv),by kernel_rfl,by kernel_rfl,QX⟩
theorem ph8b{w0:World}{own:List Nat}{b1 b2:Nat}   {bt4:Nat} {A4c:Option Addr} {c4c:Nat}:Ph (Z2 w0 own o2T) (sl8 b1 b2 bt4 A4c c4c) (20,7) (l2 w0 own o2T [OV] (16,61) 22 (79,80) 23 (8,9)):=⟨.cons G3 (.cons Iu (.cons Mu (.cons Iu (.cons Mu .nil)))),.cons Y3 (.cons Bv (.cons Gv (.cons Bv (.cons Gv .nil)))),by kernel_rfl,by kernel_rfl,Z2_st⟩
def sl9(b1:Nat)(bt4:Nat)(A4c:Option Addr)(c4c:Nat)(bt7:Nat)(A7c:Option Addr)(c7c:Nat):List (Nat × Value):=[(1,sV b1 10 10),(4,pV bt4),(5,.slice A4c 0 c4c),(6,J 0),(7,pV bt7),(8,.slice A7c 1 c7c),(9,J 0)]
def l9(u0:World)(own:List Nat)(b1 b2:Nat):List Fact:=[(0,82,Zk (sV b1 10 10)),(1,83,Zk (.pointer (some ⟨b1,4,none⟩))),(2,84,Zk (.agg (nL 49).toArray)),(3,85,Zk (sV b1 10 10)),(4,86,Zk (.pointer (some ⟨b1,8,none⟩))),(5,87,Zk (.agg (nL 50).toArray)),(6,88,rowF 2 (.cells (([49,50]:List UInt8).flatMap nL).toArray 25)),(7,89,Wv b3T),(8,90,Zk (sV b1 10 10)),(9,91,Zk (.pointer (some ⟨b1,4,none⟩))),(10,92,Zk (.agg (nL 49).toArray)),(11,93,Zk (sV b1 10 10)),(12,94,Zk (.pointer (some ⟨b1,36,none⟩))),(13,95,Zk (.agg (nL 57).toArray)),(14,96,Zk (sV b1 10 10)),(15,97,Zk (.pointer (some ⟨b1,8,none⟩))),(16,98,Zk (.agg (nL 50).toArray)),(17,99,rowF 3 (.cells (([49,57,50]:List UInt8).flatMap nL).toArray 25)),(18,100,Wv l3T),(19,101,Zk (sV b1 10 10)),(20,102,Zk (.pointer (some ⟨b1,4,none⟩))),(21,103,Zk (.agg (nL 49).toArray)),(22,104,Zk (sV b1 10 10)),(23,105,Zk (.pointer (some ⟨b1,8,none⟩))),(24,106,Zk (.agg (nL 50).toArray)),(25,107,Zk (sV b1 10 10)),(26,108,Zk (.pointer (some ⟨b1,12,none⟩))),(27,109,Zk (.agg (nL 51).toArray)),(28,110,rowF 3 (.cells (([49,50,51]:List UInt8).flatMap nL).toArray 25)),(29,111,Wv r3T),(30,112,LL u0 own JA []),(31,81,LL u0 own JA []),(32,113,mvF u0 own JA),(33,114,BZ u0 own []),(34,115,Zk (J 0))]
theorem ph9{w0:World}{own:List Nat}{b1 b2:Nat}  {bt4:Nat} {A4c:Option Addr} {c4c:Nat} {bt7:Nat} {A7c:Option Addr} {c7c:Nat}:Ph Z1 (sl9 b1 bt4 A4c c4c bt7 A7c c7c) (35,10) (l9 w0 own b1 b2):=⟨by unfold l9;repeat (first|exact StabG.nil|refine StabG.cons ?_ ?_|exact Mu|exact NE|exact ME|exact G3|exact VO|exact Iu),by unfold l9;repeat (first|exact StabN.nil|refine StabN.cons ?_ ?_|exact Gv|exact FE|exact RE|exact Y3|exact VM|exact Bv),by kernel_rfl,by kernel_rfl,QX⟩
theorem ph9b{w0:World}{own:List Nat}{b1 b2:Nat}  {bt4:Nat} {A4c:Option Addr} {c4c:Nat} {bt7:Nat} {A7c:Option Addr} {c7c:Nat}:Ph (Z2 w0 own JA) (sl9 b1 bt4 A4c c4c bt7 A7c c7c) (35,10) (l2 w0 own JA [] (31,81) 37 (114,115) 38 (11,12)):=⟨.cons G3 (.cons Iu (.cons Mu (.cons Iu (.cons Mu .nil)))),.cons Y3 (.cons Bv (.cons Gv (.cons Bv (.cons Gv .nil)))),by kernel_rfl,by kernel_rfl,Z2_st⟩
theorem CU(w0:World)(hG:Gl w0):Calls prog 7 #[] w0 (Wd λv w'=>v=.bool true/\Same [] w0 w'):=by
 refine Fa func7 O ntmps7 Ib (SY) ?_;have hF:=FR.start w0 [];refine Ha (Ca (Ic O) (Jc ?_));refine Ir (v:=λb=>sV b 10 10) (o:=.cells #[J 0,I [],aQ,aQ,J 0,I [],aQ,aQ,J 0,I [],aQ,aQ,J 0,I [],aQ,aQ,J 0,I [],aQ,aQ,J 0,I [],aQ,aQ,J 0,I [],aQ,aQ,J 0,I [],aQ,aQ,J 0,I [],aQ,aQ,J 0,I [],aQ,aQ] 25) hF (x_makeV (N:=10) (cs:=#[J 0,I [],aQ,aQ,J 0,I [],aQ,aQ,J 0,I [],aQ,aQ,J 0,I [],aQ,aQ,J 0,I [],aQ,aQ,J 0,I [],aQ,aQ,J 0,I [],aQ,aQ,J 0,I [],aQ,aQ,J 0,I [],aQ,aQ,J 0,I [],aQ,aQ]) (z:=.agg zA) Mq Mb Mb O O Oa Oa) ?_;rintro b1 w hb1 hF -;refine Ca (Sj O) (Ea (Ja (Ja ?_)));have hF:FR w0 [] [(b1,.cells (S5 0).toArray 25)] w:=UN▸hF;refine Ga (Ca (Uc O) (Ea (Za ?_)));refine Ad (λμ σ w=>∃(j:Nat),μ=10-j/\(j<=10)/\AllEq σ [(1,sV b1 10 10),(2,J ((j:Int)))]/\FR w0 [] [(b1,.cells (S5 j).toArray 25)] w) _ ⟨0,O,sX,J7,hF⟩ ?_;rintro μ σ w ⟨j,rfl,hj,hs,hF⟩;refine Cg.slots hs ?_;clear hs;intro σ;refine Ja (Ha (Ca (Qb O) (Ca (An O O) (Ea ?_))));refine Nc O O (λhc0=>?_) (λhc0=>?_);refine Wa (Ia (Ja (Za (Ga (Ca (He O) (Ca (Qb O) (Ca (Qb O) ?_)))))));refine Hb hF (num_c (j:Int) sX sX _ (hG.ext hF.same)) (Ra en_19 O O) ?_;intro w hF;refine Ka (v:=.pointer (some ⟨b1,j*4,none⟩)) (Kb (i:=(j:Int)) (j*4) Xd O O sX sX sX) ?_;refine Of 0 (l:=numQ j) (cs':=(S5 (j+1)).toArray) hF oZ O (v:=.agg (numQ j).toArray) O O (by simp[one,numQ]) O (by rw[List.size_toArray,TU j sX];show j*4+4<=40;omega) (LT j sX) ?_;rintro w hF -;refine Gb (Eb (Ia (Ga (Ca (Qb O) (Ca (Yl (((j+1:Nat):Int)) O O) (Ca (Uc O) (Gb ?_)))))));refine Dc ⟨_,?_,j+1,O,sX,J7,hF⟩;omega;refine Pc (Oc O ?_);refine Ia (Ha ?_);obtain rfl:j=10:=by omega
 rw[ZU]at hF;refine Ir (v:=λb=>sV b 2 2) hF (Sa (cs:=kA2) bX uZ rX Oa Oa Mb) ?_;rintro b2 w hb2 hF -;refine Ca (Sj O) (Ea (Ja ?_));refine Ok (λσ w=>∃(q4:Tv),∃(A4c:Option Addr),∃(c4c:Nat),∃(bt4:Nat),(RX (wE w0) [bt4,b2,b1] w [Wb KI] q4.cells)/\AllEq σ [(1,sV b1 10 10),(3,sV b2 2 2),(4,pV bt4),(5,.slice A4c 0 c4c),(6,J 0)]/\FR w0 [] [(bt4,.cells (q4.cells).toArray 25),(b2,.cells kA2 9),(b1,.cells (List.toArray tenL) 25)] w) ?_ ?_;have hG0:=hG;have hF:=hF.drew;have hG:=hG0.ext hF.same;have hO:=Mp hG0 hF;have hp:=@ph7 w0 [b2,b1] b1 b2;have hq:=@ph7b w0 [b2,b1] b1 b2;have hK2:∀w',Same [] w.drew w'->Rep (λ_=>True) w' (.slice (([[97],[98]]:List Str).map Qm)) [sV b2 2 2]:=λw' h=>(((hF.ext h).rowX (ids:=[]) (n:=2) 0 rfl (RX.strs (ks:=[[97],[98]]) Da) Da rfl sX).rep).weaken λ_ _ _=>trivial;refine OW 39 (Inv:=Jy 36 (IG Z1 w.drew (sl7 b1 b2) (35,4) (l7 w0 [b2,b1] b1 b2)) (IG (Z2 w0 [b2,b1] KI) w.drew (sl7 b1 b2) (35,4) (l2 w0 [b2,b1] KI [] (31,26) 37 (59,60) 38 (5,6)))) Mb Mb ?_ ?_ ?_;exact J3 J7 O;exact (below (below (below (below (below (below (below (below (below (below (below (below (below (below (below (below (below (below (below (below (below (below (below (below (below (below (below (below (below (below (below (below (below (below (below (below (below (below (below WL
 (.ahead (Us hp 0 rfl rfl 1 rfl rfl)))
 (.ahead (Us hp 1 rfl rfl 0 rfl rfl)))
 (.ahead (Kx hp 2 1 rfl rfl rfl Xd rfl rfl Oa Oa rfl)))
 (.ahead (Fx (lv:=nL 49) hp 3 2 rfl rfl rfl zQ oZ rfl rfl rfl λw h=>(hF.ext h).part 1 4 rfl rfl)))
 (.ahead (Us hp 4 rfl rfl 0 rfl rfl)))
 (.ahead (Kx hp 5 4 rfl rfl rfl Xd rfl rfl Oa Oa rfl)))
 (.ahead (Fx (lv:=nL 50) hp 6 5 rfl rfl rfl zQ oZ rfl rfl rfl λw h=>(hF.ext h).part 1 8 rfl rfl)))
 (.ahead (KG [(30,.agg (nL 49).toArray),(33,.agg (nL 50).toArray)] hp 7 rfl rfl (λS s w hd hI=>⟨hI.dep hd 3 rfl rfl,hI.dep hd 6 rfl rfl,trivial⟩) λs w=>Sa cX oZ mX Oa Oa Mb)))
 (.ahead (N3 hp 8 rfl rfl λS s w hd hI=>⟨QF hI hd 0 rfl rfl rfl hK2,Av hI hd 7 rfl rfl rfl (I1 [49,50]) rfl rfl⟩)))
 (.ahead (Us hp 9 rfl rfl 1 rfl rfl)))
 (.ahead (Us hp 10 rfl rfl 0 rfl rfl)))
 (.ahead (Kx hp 11 10 rfl rfl rfl Xd rfl rfl Oa Oa rfl)))
 (.ahead (Fx (lv:=nL 53) hp 12 11 rfl rfl rfl zQ oZ rfl rfl rfl λw h=>(hF.ext h).part 1 20 rfl rfl)))
 (.ahead (Us hp 13 rfl rfl 0 rfl rfl)))
 (.ahead (Kx hp 14 13 rfl rfl rfl Xd rfl rfl Oa Oa rfl)))
 (.ahead (Fx (lv:=nL 50) hp 15 14 rfl rfl rfl zQ oZ rfl rfl rfl λw h=>(hF.ext h).part 1 8 rfl rfl)))
 (.ahead (KG [(39,.agg (nL 53).toArray),(42,.agg (nL 50).toArray)] hp 16 rfl rfl (λS s w hd hI=>⟨hI.dep hd 12 rfl rfl,hI.dep hd 15 rfl rfl,trivial⟩) λs w=>Sa cX oZ mX Oa Oa Mb)))
 (.ahead (N3 hp 17 rfl rfl λS s w hd hI=>⟨QF hI hd 9 rfl rfl rfl hK2,Av hI hd 16 rfl rfl rfl (I1 [53,50]) rfl rfl⟩)))
 (.ahead (KG [] hp 18 rfl rfl (λS s w hd hI=>trivial) λs w=>Sa bX uZ rX Oa Oa Mb)))
 (.ahead (Us hp 19 rfl rfl 0 rfl rfl)))
 (.ahead (Kx hp 20 19 rfl rfl rfl Xd rfl rfl Oa Oa rfl)))
 (.ahead (Fx (lv:=nL 49) hp 21 20 rfl rfl rfl zQ oZ rfl rfl rfl λw h=>(hF.ext h).part 1 4 rfl rfl)))
 (.ahead (Us hp 22 rfl rfl 0 rfl rfl)))
 (.ahead (Kx hp 23 22 rfl rfl rfl Xd rfl rfl Oa Oa rfl)))
 (.ahead (Fx (lv:=nL 50) hp 24 23 rfl rfl rfl zQ oZ rfl rfl rfl λw h=>(hF.ext h).part 1 8 rfl rfl)))
 (.ahead (Us hp 25 rfl rfl 0 rfl rfl)))
 (.ahead (Kx hp 26 25 rfl rfl rfl Xd rfl rfl Oa Oa rfl)))
 (.ahead (Fx (lv:=nL 51) hp 27 26 rfl rfl rfl zQ oZ rfl rfl rfl λw h=>(hF.ext h).part 1 12 rfl rfl)))
 (.ahead (KG [(48,.agg (nL 49).toArray),(51,.agg (nL 50).toArray),(54,.agg (nL 51).toArray)] hp 28 rfl rfl (λS s w hd hI=>⟨hI.dep hd 21 rfl rfl,hI.dep hd 24 rfl rfl,hI.dep hd 27 rfl rfl,trivial⟩) λs w=>Sa cX oZ mX Oa Oa Mb)))
 (.ahead (N3 hp 29 rfl rfl λS s w hd hI=>⟨Av hI hd 18 rfl rfl rfl (strsR [[97],[98],[99]] Da) rfl rfl,Av hI hd 28 rfl rfl rfl (I1 [49,50,51]) rfl rfl⟩)))
 (.ahead (st_mg hp 30 8 17 29 rfl rfl rfl rfl rfl rfl rfl rfl rfl rfl rfl mg_one Oa Oa Oa hG hO (λb w h=>Ma h))))
 (.ahead (g_cp hp 31 30 rfl rfl rfl rfl rfl)))
 (.ahead (st_x0 hp 32 31 rfl rfl rfl rfl rfl)))
 (.both (VB hp 33 31 rfl rfl rfl rfl rfl) (VB hq 1 0 rfl rfl rfl rfl rfl) rfl))
 (.both (JD hp 34 31 rfl rfl rfl rfl rfl) (JD hq 2 0 rfl rfl rfl rfl rfl) rfl))
 (.ahead (g_al hp rfl mX rfl)))
 (MZ 31 32 33 34 rfl rfl rfl rfl rfl rfl rfl))
 (.behind (KU hq 3 1 rfl rfl rfl rfl rfl)))
 (.behind (KU hq 4 2 rfl rfl rfl rfl rfl)))
 intro s w' hJ;obtain⟨h1,h2,h3,h4⟩:=VE hJ;obtain⟨bt,eb,⟨q,hq,hV⟩,hb⟩:=h4 rfl;have ea:Bp (35,4) (λ_=>true) s=some (pV bt):=by unfold Bp;rw[if_pos rfl];exact congrArg some eb
 obtain⟨A,c,e5,hC⟩:=h3 3 _ rfl rfl;have e6:=h3 4 _ rfl rfl;rw[ea]at hC;exact Dc ⟨q,A,c,bt,hV,⟨h1.1,h1.2.1,eb,e5,e6,trivial⟩,hF.cons_ext h2 hq hb⟩;rintro σ w ⟨q4,A4c,c4c,bt4,hV4,hs,hF⟩;refine Eg.slots hs ?_;clear hs;intro σ;refine Ia (Ja ?_);refine Ok (λσ w=>∃(q7:Tv),∃(A7c:Option Addr),∃(c7c:Nat),∃(bt7:Nat),(RX (wE w0) [bt7,bt4,b2,b1] w [Wb o2T] q7.cells)/\(RX (wE w0) [bt7,bt4,b2,b1] w [Wb KI] q4.cells)/\(RX (wE w0) [bt7,bt4,b2,b1] w [.slice ([OV].map XB)] [.slice A7c 1 c7c])/\AllEq σ [(1,sV b1 10 10),(4,pV bt4),(5,.slice A4c 0 c4c),(6,J 0),(7,pV bt7),(8,.slice A7c 1 c7c),(9,J 0)]/\FR w0 [] [(bt7,.cells (q7.cells).toArray 25),(bt4,.cells (q4.cells).toArray 25),(b2,.cells kA2 9),(b1,.cells (List.toArray tenL) 25)] w) ?_ ?_;have hG0:=hG;have hF:=hF.drew;have hG:=hG0.ext hF.same;have hO:=Mp hG0 hF;have hp:=@ph8 w0 [bt4,b2,b1] b1 b2 bt4 A4c c4c;have hq:=@ph8b w0 [bt4,b2,b1] b1 b2 bt4 A4c c4c;have hK1:∀w',Same [] w.drew w'->Rep (λ_=>True) w' (.slice (([[97]]:List Str).map Qm)) [W b2 1 2]:=λw' h=>(((hF.ext h).rowF (i:=[]) (n:=1) (c:=2) 1 rfl (RX.strs (ks:=[[97]]) Da) rfl Da rfl sX sX).rep).weaken λ_ _ _=>trivial;refine OW 24 (Inv:=Jy 21 (IG Z1 w.drew (sl8 b1 b2 bt4 A4c c4c) (20,7) (l8 w0 [bt4,b2,b1] b1 b2)) (IG (Z2 w0 [bt4,b2,b1] o2T) w.drew (sl8 b1 b2 bt4 A4c c4c) (20,7) (l2 w0 [bt4,b2,b1] o2T [OV] (16,61) 22 (79,80) 23 (8,9)))) Mb Mb ?_ ?_ ?_;exact J3 Xv O;exact (below (below (below (below (below (below (below (below (below (below (below (below (below (below (below (below (below (below (below (below (below (below (below (below WL
 (.ahead (Us hp 0 rfl rfl 1 rfl rfl)))
 (.ahead (Zw hp 1 rfl rfl λS s w hd hI=>⟨_,w,Rz 1 Vm ((Sl rfl).trans (hI.dep hd 0 rfl rfl)) rfl sX,Same.refl _ _,rfl⟩)))
 (.ahead (Us hp 2 rfl rfl 0 rfl rfl)))
 (.ahead (Kx hp 3 2 rfl rfl rfl Xd rfl rfl Oa Oa rfl)))
 (.ahead (Fx (lv:=nL 49) hp 4 3 rfl rfl rfl zQ oZ rfl rfl rfl λw h=>(hF.ext h).part 2 4 rfl rfl)))
 (.ahead (KG [(66,.agg (nL 49).toArray)] hp 5 rfl rfl (λS s w hd hI=>⟨hI.dep hd 4 rfl rfl,trivial⟩) λs w=>Sa cX oZ mX Oa Oa Mb)))
 (.ahead (N3 hp 6 rfl rfl λS s w hd hI=>⟨QF hI hd 1 rfl rfl rfl hK1,Av hI hd 5 rfl rfl rfl (I1 [49]) rfl rfl⟩)))
 (.ahead (Us hp 7 rfl rfl 1 rfl rfl)))
 (.ahead (Zw hp 8 rfl rfl λS s w hd hI=>⟨_,w,Rz 1 Vm ((Sl rfl).trans (hI.dep hd 7 rfl rfl)) rfl sX,Same.refl _ _,rfl⟩)))
 (.ahead (Us hp 9 rfl rfl 0 rfl rfl)))
 (.ahead (Kx hp 10 9 rfl rfl rfl Xd rfl rfl Oa Oa rfl)))
 (.ahead (Fx (lv:=nL 50) hp 11 10 rfl rfl rfl zQ oZ rfl rfl rfl λw h=>(hF.ext h).part 2 8 rfl rfl)))
 (.ahead (KG [(73,.agg (nL 50).toArray)] hp 12 rfl rfl (λS s w hd hI=>⟨hI.dep hd 11 rfl rfl,trivial⟩) λs w=>Sa cX oZ mX Oa Oa Mb)))
 (.ahead (N3 hp 13 rfl rfl λS s w hd hI=>⟨QF hI hd 8 rfl rfl rfl hK1,Av hI hd 12 rfl rfl rfl (I1 [50]) rfl rfl⟩)))
 (.ahead (N3 hp 14 rfl rfl λS s w hd hI=>⟨KK,KK⟩)))
 (.ahead (st_mg hp 15 6 13 14 rfl rfl rfl rfl rfl rfl rfl rfl rfl rfl rfl mg_two Oa Oa Oa hG hO (λb w h=>Ma h))))
 (.ahead (g_cp hp 16 15 rfl rfl rfl rfl rfl)))
 (.ahead (st_x0 hp 17 16 rfl rfl rfl rfl rfl)))
 (.both (VB hp 18 16 rfl rfl rfl rfl rfl) (VB hq 1 0 rfl rfl rfl rfl rfl) rfl))
 (.both (JD hp 19 16 rfl rfl rfl rfl rfl) (JD hq 2 0 rfl rfl rfl rfl rfl) rfl))
 (.ahead (g_al hp rfl mX rfl)))
 (MZ 16 17 18 19 rfl rfl rfl rfl rfl rfl rfl))
 (.behind (KU hq 3 1 rfl rfl rfl rfl rfl)))
 (.behind (KU hq 4 2 rfl rfl rfl rfl rfl)))
 intro s w' hJ;obtain⟨h1,h2,h3,h4⟩:=VE hJ;obtain⟨bt,eb,⟨q,hq,hV⟩,hb⟩:=h4 rfl;have ea:Bp (20,7) (λ_=>true) s=some (pV bt):=by unfold Bp;rw[if_pos rfl];exact congrArg some eb
 obtain⟨A,c,e5,hC⟩:=h3 3 _ rfl rfl;have e6:=h3 4 _ rfl rfl;rw[ea]at hC;exact Dc ⟨q,A,c,bt,hV,(hV4.ext (Same.drew w)).push h2 hb,hC,⟨h1.1,h1.2.2.1,h1.2.2.2.1,h1.2.2.2.2.1,eb,e5,e6,trivial⟩,hF.cons_ext h2 hq hb⟩;rintro σ w ⟨q7,A7c,c7c,bt7,hV7,hV4,hC7,hs,hF⟩;refine Eg.slots hs ?_;clear hs;intro σ;refine Ia (Ja ?_);refine Ok (λσ w=>∃(q10:Tv),∃(A10c:Option Addr),∃(c10c:Nat),∃(bt10:Nat),(RX (wE w0) [bt10,bt7,bt4,b2,b1] w [Wb JA] q10.cells)/\(RX (wE w0) [bt10,bt7,bt4,b2,b1] w [Wb KI] q4.cells)/\(RX (wE w0) [bt10,bt7,bt4,b2,b1] w [Wb o2T] q7.cells)/\(RX (wE w0) [bt10,bt7,bt4,b2,b1] w [.slice ([OV].map XB)] [.slice A7c 1 c7c])/\AllEq σ [(1,sV b1 10 10),(4,pV bt4),(5,.slice A4c 0 c4c),(6,J 0),(7,pV bt7),(8,.slice A7c 1 c7c),(9,J 0),(10,pV bt10),(11,.slice A10c 0 c10c),(12,J 0)]/\FR w0 [] [(bt10,.cells (q10.cells).toArray 25),(bt7,.cells (q7.cells).toArray 25),(bt4,.cells (q4.cells).toArray 25),(b2,.cells kA2 9),(b1,.cells (List.toArray tenL) 25)] w) ?_ ?_;have hG0:=hG;have hF:=hF.drew;have hG:=hG0.ext hF.same;have hO:=Mp hG0 hF;have hp:=@ph9 w0 [bt7,bt4,b2,b1] b1 b2 bt4 A4c c4c bt7 A7c c7c;have hq:=@ph9b w0 [bt7,bt4,b2,b1] b1 b2 bt4 A4c c4c bt7 A7c c7c;refine OW 39 (Inv:=Jy 36 (IG Z1 w.drew (sl9 b1 bt4 A4c c4c bt7 A7c c7c) (35,10) (l9 w0 [bt7,bt4,b2,b1] b1 b2)) (IG (Z2 w0 [bt7,bt4,b2,b1] JA) w.drew (sl9 b1 bt4 A4c c4c bt7 A7c c7c) (35,10) (l2 w0 [bt7,bt4,b2,b1] JA [] (31,81) 37 (114,115) 38 (11,12)))) Mb Mb ?_ ?_ ?_;exact J3 IA O;exact (below (below (below (below (below (below (below (below (below (below (below (below (below (below (below (below (below (below (below (below (below (below (below (below (below (below (below (below (below (below (below (below (below (below (below (below (below (below (below WL
 (.ahead (Us hp 0 rfl rfl 0 rfl rfl)))
 (.ahead (Kx hp 1 0 rfl rfl rfl Xd rfl rfl Oa Oa rfl)))
 (.ahead (Fx (lv:=nL 49) hp 2 1 rfl rfl rfl zQ oZ rfl rfl rfl λw h=>(hF.ext h).part 3 4 rfl rfl)))
 (.ahead (Us hp 3 rfl rfl 0 rfl rfl)))
 (.ahead (Kx hp 4 3 rfl rfl rfl Xd rfl rfl Oa Oa rfl)))
 (.ahead (Fx (lv:=nL 50) hp 5 4 rfl rfl rfl zQ oZ rfl rfl rfl λw h=>(hF.ext h).part 3 8 rfl rfl)))
 (.ahead (KG [(84,.agg (nL 49).toArray),(87,.agg (nL 50).toArray)] hp 6 rfl rfl (λS s w hd hI=>⟨hI.dep hd 2 rfl rfl,hI.dep hd 5 rfl rfl,trivial⟩) λs w=>Sa cX oZ mX Oa Oa Mb)))
 (.ahead (NL hp 7 rfl rfl λS s w hd hI=>Av hI hd 6 rfl rfl rfl (I1 [49,50]) rfl rfl)))
 (.ahead (Us hp 8 rfl rfl 0 rfl rfl)))
 (.ahead (Kx hp 9 8 rfl rfl rfl Xd rfl rfl Oa Oa rfl)))
 (.ahead (Fx (lv:=nL 49) hp 10 9 rfl rfl rfl zQ oZ rfl rfl rfl λw h=>(hF.ext h).part 3 4 rfl rfl)))
 (.ahead (Us hp 11 rfl rfl 0 rfl rfl)))
 (.ahead (Kx hp 12 11 rfl rfl rfl Xd rfl rfl Oa Oa rfl)))
 (.ahead (Fx (lv:=nL 57) hp 13 12 rfl rfl rfl zQ oZ rfl rfl rfl λw h=>(hF.ext h).part 3 36 rfl rfl)))
 (.ahead (Us hp 14 rfl rfl 0 rfl rfl)))
 (.ahead (Kx hp 15 14 rfl rfl rfl Xd rfl rfl Oa Oa rfl)))
 (.ahead (Fx (lv:=nL 50) hp 16 15 rfl rfl rfl zQ oZ rfl rfl rfl λw h=>(hF.ext h).part 3 8 rfl rfl)))
 (.ahead (KG [(92,.agg (nL 49).toArray),(95,.agg (nL 57).toArray),(98,.agg (nL 50).toArray)] hp 17 rfl rfl (λS s w hd hI=>⟨hI.dep hd 10 rfl rfl,hI.dep hd 13 rfl rfl,hI.dep hd 16 rfl rfl,trivial⟩) λs w=>Sa cX oZ mX Oa Oa Mb)))
 (.ahead (NL hp 18 rfl rfl λS s w hd hI=>Av hI hd 17 rfl rfl rfl (I1 [49,57,50]) rfl rfl)))
 (.ahead (Us hp 19 rfl rfl 0 rfl rfl)))
 (.ahead (Kx hp 20 19 rfl rfl rfl Xd rfl rfl Oa Oa rfl)))
 (.ahead (Fx (lv:=nL 49) hp 21 20 rfl rfl rfl zQ oZ rfl rfl rfl λw h=>(hF.ext h).part 3 4 rfl rfl)))
 (.ahead (Us hp 22 rfl rfl 0 rfl rfl)))
 (.ahead (Kx hp 23 22 rfl rfl rfl Xd rfl rfl Oa Oa rfl)))
 (.ahead (Fx (lv:=nL 50) hp 24 23 rfl rfl rfl zQ oZ rfl rfl rfl λw h=>(hF.ext h).part 3 8 rfl rfl)))
 (.ahead (Us hp 25 rfl rfl 0 rfl rfl)))
 (.ahead (Kx hp 26 25 rfl rfl rfl Xd rfl rfl Oa Oa rfl)))
 (.ahead (Fx (lv:=nL 51) hp 27 26 rfl rfl rfl zQ oZ rfl rfl rfl λw h=>(hF.ext h).part 3 12 rfl rfl)))
 (.ahead (KG [(103,.agg (nL 49).toArray),(106,.agg (nL 50).toArray),(109,.agg (nL 51).toArray)] hp 28 rfl rfl (λS s w hd hI=>⟨hI.dep hd 21 rfl rfl,hI.dep hd 24 rfl rfl,hI.dep hd 27 rfl rfl,trivial⟩) λs w=>Sa cX oZ mX Oa Oa Mb)))
 (.ahead (NL hp 29 rfl rfl λS s w hd hI=>Av hI hd 28 rfl rfl rfl (I1 [49,50,51]) rfl rfl)))
 (.ahead (st_mg hp 30 7 18 29 rfl rfl rfl rfl rfl rfl rfl rfl rfl rfl rfl NZ Oa Oa Oa hG hO (λb w h=>Ma h))))
 (.ahead (g_cp hp 31 30 rfl rfl rfl rfl rfl)))
 (.ahead (st_x0 hp 32 31 rfl rfl rfl rfl rfl)))
 (.both (VB hp 33 31 rfl rfl rfl rfl rfl) (VB hq 1 0 rfl rfl rfl rfl rfl) rfl))
 (.both (JD hp 34 31 rfl rfl rfl rfl rfl) (JD hq 2 0 rfl rfl rfl rfl rfl) rfl))
 (.ahead (g_al hp rfl mX rfl)))
 (MZ 31 32 33 34 rfl rfl rfl rfl rfl rfl rfl))
 (.behind (KU hq 3 1 rfl rfl rfl rfl rfl)))
 (.behind (KU hq 4 2 rfl rfl rfl rfl rfl)))
 intro s w' hJ;obtain⟨h1,h2,h3,h4⟩:=VE hJ;obtain⟨bt,eb,⟨q,hq,hV⟩,hb⟩:=h4 rfl;have ea:Bp (35,10) (λ_=>true) s=some (pV bt):=by unfold Bp;rw[if_pos rfl];exact congrArg some eb
 obtain⟨A,c,e5,hC⟩:=h3 3 _ rfl rfl;have e6:=h3 4 _ rfl rfl;rw[ea]at hC;exact Dc ⟨q,A,c,bt,hV,(hV4.ext (Same.drew w)).push h2 hb,(hV7.ext (Same.drew w)).push h2 hb,(hC7.ext (Same.drew w)).push h2 hb,⟨h1.1,h1.2.1,h1.2.2.1,h1.2.2.2.1,h1.2.2.2.2.1,h1.2.2.2.2.2.1,h1.2.2.2.2.2.2.1,eb,e5,e6,trivial⟩,hF.cons_ext h2 hq hb⟩;rintro σ w ⟨q10,A10c,c10c,bt10,hV10,hV4,hV7,hC7,hs,hF⟩;refine Eg.slots hs ?_;clear hs;intro σ;refine Ia (Ha (Rc (Rf zQ oZ O hF.F 1 O O) (Ca (He O) ?_)));refine Ir (v:=λb=>sV b 1 1) hF (Sa (cs:=#[J 2]) iX pZ nX Oa Oa Mb) ?_;intro b198 w hb198 hF hE;have hV4:=hV4.alloc hE hb198;have hV7:=hV7.alloc hE hb198;have hV10:=hV10.alloc hE hb198;have hC7:=hC7.alloc hE hb198;refine Fb (JZ [OV] [2] A7c (some ⟨b198,0,none⟩) c7c 1 _ _ o2T q7 _ _ hC7.rep (hF.rowS (S:=λ_=>False) 0 O (ds:=[2].map Ah) (n:=1) (RepL.cons_mk (c2:=[]) (Rep.lit_mk (v:=J 2) (show SC _ from⟨(by decide:(-9223372036854775808:Int)<=2),(by decide:(2:Int)<=9223372036854775807)⟩)) RepL.nil_mk) O sX) cfT_ok hV7.rep o2T_hol o2T_sz.1 o2T_sz.2 (hG.ext hF.same)) (Kc en_18 O O O O) ?_;rintro _ w ⟨q13,rfl,hR1,hE⟩;rw[ch_two]at hR1 ⊢;have hV13:=RX.made (w0:=w0) (ids:=[b198,bt10,bt7,bt4,b2,b1]) hF.same.size (λx hx=>hF.lt_ids (by simpa using hx)) hR1;have hF:=hF.ext hE;have hV4:=hV4.ext hE;have hV10:=hV10.ext hE;have hC7:=hC7.ext hE;clear hE hR1;refine Ca (Bo O) (Ca (Py O O) (Ca (Fv O O) ?_));refine Kh hF mX oZ O ?_;intro b199 w hb199 hF hE;have hV4:=hV4.alloc hE hb199;have hV10:=hV10.alloc hE hb199;have hV13:=hV13.alloc hE hb199;have hC7:=hC7.alloc hE hb199;refine Ca (Uc O) (Ea (Ja ?_));obtain⟨adc,cq,hAc,hcq,hcf⟩:=hC7.rep.cf_elem (l:=[OV]) (i:=0) Da;obtain⟨pA,pn,pc,pk,px,py,pz⟩:=cq;have hpn:pn=([[97]]:List Str).length:=hcf.n;have hpk:pk=3:=hcf.k;subst hpn hpk;have hpp:=hcf.p
 clear hcf;refine c_drawM (bQ [0,1,2,3,4,5,6,7,8,10,11,12,13,14,15,16,17,18] (.alt 9 (cQ [19,20,21] (bQ [22,23,24,25,26,27,28,29,30,31,32,33,34,35] (.act 36 (bQ [37,38,39,40,41,42] (.alt 43 (.act 44 (.act 45 (bQ [46,47,48,49,50,51,52,53,54,55,56,57,58,59,60,61,62,63,64,65,66,67,68,69] (cQ [70,71,72] (bQ [73,74,75,76,77,78,79] (.act 80 (.act 81 (.free 82 (.free 83 .nil))))))))) (cQ [44,43,45] (bQ [46,47,48,49,50,51,52,53,54,55,56,57,58,59,60,61,62,63,64,65,66,67,68,69] (cQ [70,71,72] (bQ [73,74,75,76,77,78,79] (.act 80 (.act 81 (.free 82 (.free 83 .nil))))))))))))) (cQ [19,9,20,21] (bQ [22,23,24,25,26,27,28,29,30,31,32,33,34,35] (.act 36 (bQ [37,38,39,40,41,42] (.alt 43 (.act 44 (.act 45 (bQ [46,47,48,49,50,51,52,53,54,55,56,57,58,59,60,61,62,63,64,65,66,67,68,69] (cQ [70,71,72] (bQ [73,74,75,76,77,78,79] (.act 80 (.act 81 (.free 82 (.free 83 .nil))))))))) (cQ [44,43,45] (bQ [46,47,48,49,50,51,52,53,54,55,56,57,58,59,60,61,62,63,64,65,66,67,68,69] (cQ [70,71,72] (bQ [73,74,75,76,77,78,79] (.act 80 (.act 81 (.free 82 (.free 83 .nil))))))))))))))) hF ?_;intro w hF hE;have hV4:=hV4.ext hE;have hV10:=hV10.ext hE;have hV13:=hV13.ext hE;have hcq:=Xc hcq hE;have hpp:=hpp.ext hE;refine⟨λwq=>FR w0 [] _ wq,hF,?_⟩;refine Cb O (Qb O) (Pa O (v:=.bool true) (λw hC=>Ge (Rh O O) Oa) (Cb O (Fe O) (Cb O (He O) (Cb O (Mf gX O) (Pa O (v:=.bool true) (λw hC=>Ge (Rh O O) Oa) (Cb O (Dd O O) (Cb O (Fe O) (Vi O (Rf zQ oZ O C0 4 O O) (Cb O (He O) (Pa O (v:=.pointer (some ⟨b1,20,none⟩)) (λw hC=>Kb (i:=5) 20 Xd O O Oa Oa O) (Pa O (λw hC=>Va (l:=[J 3,I [53],aQ,aQ]) zQ oZ O O (hC.part 6 20 O O)) (Cb O (He O) (Pa O (v:=.pointer (some ⟨b1,8,none⟩)) (λw hC=>Kb (i:=2) 8 Xd O O Oa Oa O) ?_)))))))))))));refine Pa O (λw hC=>Va (l:=[J 3,I [50],aQ,aQ]) zQ oZ O O (hC.part 6 8 O O)) (Cb O (He O) (Pa O (v:=.pointer (some ⟨b1,12,none⟩)) (λw hC=>Kb (i:=3) 12 Xd O O Oa Oa O) (Pa O (λw hC=>Va (l:=[J 3,I [51],aQ,aQ]) zQ oZ O O (hC.part 6 12 O O)) ?_)))
 refine Xe ?_ ?_;refine Me O (v:=λb=>sV b 3 3) hF (Sa (cs:=kA3) bX uZ rX Oa Oa Mb) ?_;intro b200 w hb200 hF hE;have hV4:=hV4.alloc hE hb200;have hV10:=hV10.alloc hE hb200;have hV13:=hV13.alloc hE hb200;have hcq:=Xc hcq hE;have hpp:=hpp.ext hE;refine⟨hF.drop 1,?_⟩;refine Me O (v:=λb=>sV b 3 3) hF (Sa (cs:=(nA3 53 50 51)) cX oZ mX Oa Oa Mb) ?_;intro b201 w hb201 hF hE;have hV4:=hV4.alloc hE hb201;have hV10:=hV10.alloc hE hb201;have hV13:=hV13.alloc hE hb201;have hcq:=Xc hcq hE;have hpp:=hpp.ext hE;refine⟨hF.drop 2,?_⟩;refine Jb O (B8 (some ⟨b200,0,none⟩) 3 3 (some ⟨b201,0,none⟩) 3 3 _) (Ya GA O O O) ?_;rintro _ w ⟨rfl,hE⟩;have hF:=hF.ext hE;have hV4:=hV4.ext hE;have hV10:=hV10.ext hE;have hV13:=hV13.ext hE;have hcq:=Xc hcq hE;have hpp:=hpp.ext hE;refine⟨hF.drop 2,?_⟩;refine Jb O (Lg (v':=.bool true) (Bn KI KI _ _ _ _ _ hV4.rep (show RX w0 [] _ [Wb KI] [J 6,I [],sV b200 3 3,sV b201 3 3] from RX.tree ⟨by omega,by omega⟩ Da (hF.rowX 1 O (RX.strs (ks:=[[97],[98],[99]]) Da) Da O sX) (hF.rowX 0 O ((RX.append (ds:=[_]) (RX.num _ Da) (RX.append (ds:=[_]) (RX.num _ Da) (RX.num _ Da)))) Da O sX)).rep) (congrArg Value.bool (Hg _))) (Ya Dt O O O) ?_;rintro _ w ⟨rfl,hE⟩;have hF:=hF.ext hE;have hV4:=hV4.ext hE;have hV10:=hV10.ext hE;have hV13:=hV13.ext hE;have hcq:=Xc hcq hE;have hpp:=hpp.ext hE;refine⟨hF.drop 2,?_⟩;refine Cb O (Dd O O) (Cb O (Fe O) (Cb O (Qb O) (Pa O (v:=.bool true) (λw hC=>Ge (Rh O O) Oa) (Cb O (Dd O O) (Cb O (Fe O) (Cb O (He O) (Cb O (Mf gX O) (Pa O (v:=.bool true) (λw hC=>Ge (Rh O O) Oa) (Cb O (Dd O O) (Cb O (Fe O) (Cb O (He O) (Pa O (v:=.pointer (some (adc.add (0*17)))) (λw hC=>Ta (i:=0) M8 O hAc O sX sX) (Pa O (v:=.pointer (some ((adc.add (0*17)).add 1))) (λw hC=>Jg (a:=adc.add (0*17)) Y6 O) ?_)))))))))))))
 refine Ke O (v:=J 3) (Ob aZ O (hcq 1 Da)) (hF.mid 2 7) (Pa O (v:=.bool true) (λw hC=>Ge (Rh O O) Oa) (Cb O (Dd O O) (Cb O (Fe O) (Cb O (He O) (Pa O (v:=.pointer (some (adc.add (0*17)))) (λw hC=>Ta (i:=0) M8 O hAc O sX sX) (Pa O (v:=.pointer (some ((adc.add (0*17)).add 0))) (λw hC=>Jg (a:=adc.add (0*17)) DR O) ?_))))));refine Xe ?_ ?_;refine Ke O (v:=.slice (pA) (([[97]]:List Str).length) (pc)) (Ob wQ O (hcq 0 Da)) (hF.mid 2 7) (Me O (v:=λb=>sV b 1 1) hF (Sa (cs:=#[I [97]]) bX uZ rX Oa Oa Mb) ?_);intro b202 w hb202 hF hE;have hV4:=hV4.alloc hE hb202;have hV10:=hV10.alloc hE hb202;have hV13:=hV13.alloc hE hb202;have hcq:=Xc hcq hE;have hpp:=hpp.ext hE;refine⟨hF.drop 3,?_⟩;refine Jb O (Lg (v':=.bool true) (F2 [[97]] [[97]] pA (some ⟨b202,0,none⟩) pc 1 _ _ _ hpp (show RX w0 [] _ [Ld [[97]]] _ from hF.rowX 0 (n:=1) O (RX.strs (ks:=[[97]]) Da) Da O sX).rep) (congrArg Value.bool (decide_eq_true O))) (Ya UR O O O) ?_;rintro _ w ⟨rfl,hE⟩;have hF:=hF.ext hE;have hV4:=hV4.ext hE;have hV10:=hV10.ext hE;have hV13:=hV13.ext hE;have hcq:=Xc hcq hE;have hpp:=hpp.ext hE;refine⟨hF.drop 3,?_⟩;refine Cb O (Dd O O) (Cb O (Fe O) (Cb O (Qb O) (Pa O (v:=.bool true) (λw hC=>Ge (Rh O O) Oa) (Cb O (Dd O O) (Cb O (Fe O) (Cb O (He O) (Cb O (Mf gX O) (Pa O (v:=.bool true) (λw hC=>Ge (Rh O O) Oa) (Cb O (Dd O O) (Cb O (Fe O) (Vi O (Rf zQ oZ O C0 2 O O) (Cb O (He O) (Pa O (v:=.pointer (some ⟨b1,4,none⟩)) (λw hC=>Kb (i:=1) 4 Xd O O Oa Oa O) ?_)))))))))))));refine Pa O (λw hC=>Va (l:=[J 3,I [49],aQ,aQ]) zQ oZ O O (hC.part 6 4 O O)) (Cb O (He O) (Pa O (v:=.pointer (some ⟨b1,36,none⟩)) (λw hC=>Kb (i:=9) 36 Xd O O Oa Oa O) (Pa O (λw hC=>Va (l:=[J 3,I [57],aQ,aQ]) zQ oZ O O (hC.part 6 36 O O)) (Cb O (He O) (Pa O (v:=.pointer (some ⟨b1,8,none⟩)) (λw hC=>Kb (i:=2) 8 Xd O O Oa Oa O) (Pa O (λw hC=>Va (l:=[J 3,I [50],aQ,aQ]) zQ oZ O O (hC.part 6 8 O O)) (Cb O (He O) (Pa O (v:=.pointer (some ⟨b1,12,none⟩)) (λw hC=>Kb (i:=3) 12 Xd O O Oa Oa O) (Pa O (λw hC=>Va (l:=[J 3,I [51],aQ,aQ]) zQ oZ O O (hC.part 6 12 O O)) ?_)))))))))
 refine Me O (v:=λb=>sV b 4 4) hF (Sa (cs:=(nA4 49 57 50 51)) cX oZ mX Oa Oa Mb) ?_;intro b203 w hb203 hF hE;have hV4:=hV4.alloc hE hb203;have hV10:=hV10.alloc hE hb203;have hV13:=hV13.alloc hE hb203;have hcq:=Xc hcq hE;have hpp:=hpp.ext hE;refine⟨hF.drop 4,?_⟩;refine Jb O (II (some ⟨b203,0,none⟩) 4 4 _) (Ra EK O O) ?_;rintro _ w ⟨rfl,hE⟩;have hF:=hF.ext hE;have hV4:=hV4.ext hE;have hV10:=hV10.ext hE;have hV13:=hV13.ext hE;have hcq:=Xc hcq hE;have hpp:=hpp.ext hE;refine⟨hF.drop 4,?_⟩;refine Jb O (Lg (v':=.bool true) (Bn JA JA _ _ _ _ _ hV10.rep (show RX w0 [] _ [Wb JA] [J 5,I [],aQ,sV b203 4 4] from RX.tree ⟨by omega,by omega⟩ Da (RX.nils) (hF.rowX 0 O ((RX.append (ds:=[_]) (RX.num _ Da) (RX.append (ds:=[_]) (RX.num _ Da) (RX.append (ds:=[_]) (RX.num _ Da) (RX.num _ Da))))) Da O sX)).rep) (congrArg Value.bool (Hg _))) (Ya Dt O O O) ?_;rintro _ w ⟨rfl,hE⟩;have hF:=hF.ext hE;have hV4:=hV4.ext hE;have hV10:=hV10.ext hE;have hV13:=hV13.ext hE;have hcq:=Xc hcq hE;have hpp:=hpp.ext hE;refine⟨hF.drop 4,?_⟩;refine Cb O (Dd O O) (Cb O (Fe O) (Cb O (Qb O) (Pa O (v:=.bool true) (λw hC=>Ge (Rh O O) Oa) (Cb O (Dd O O) (Cb O (Fe O) (Vi O (Rf zQ oZ O C0 0 O O) ?_))))));refine Jb O (B8 (none) 0 0 (none) 0 0 _) (Ya GA O O O) ?_;rintro _ w ⟨rfl,hE⟩;have hF:=hF.ext hE;have hV4:=hV4.ext hE;have hV10:=hV10.ext hE;have hV13:=hV13.ext hE;have hcq:=Xc hcq hE;have hpp:=hpp.ext hE;refine⟨hF.drop 4,?_⟩;refine Jb O (Lg (v':=.bool true) (Bn LO LO _ _ _ _ _ hV13.rep (show RX w0 [] _ [Wb LO] [J 6,I [],aQ,aQ] from RX.tree ⟨by omega,by omega⟩ Da (RX.nils) (RX.nils)).rep) (congrArg Value.bool (Hg _))) (Ya Dt O O O) ?_;rintro _ w ⟨rfl,hE⟩;have hF:=hF.ext hE;have hV4:=hV4.ext hE;have hV10:=hV10.ext hE;have hV13:=hV13.ext hE
 have hcq:=Xc hcq hE;have hpp:=hpp.ext hE;refine⟨hF.drop 4,?_⟩;refine Cb O (Dd O O) (Cb O (Ic O) (Fc (Ia ?_)));refine Pd (v:=.bool true) O O ?_;exact⟨O,hF.same⟩;refine Me O (v:=λb=>sV b 1 1) hF (Sa (cs:=#[I [97]]) bX uZ rX Oa Oa Mb) ?_;intro b204 w hb204 hF hE;have hV4:=hV4.alloc hE hb204;have hV10:=hV10.alloc hE hb204;have hV13:=hV13.alloc hE hb204;have hcq:=Xc hcq hE;have hpp:=hpp.ext hE;refine⟨hF.drop 3,?_⟩;refine Ke O (v:=.slice (pA) (([[97]]:List Str).length) (pc)) (Ob wQ O (hcq 0 Da)) (hF.mid 3 7) (Jb O (Lg (v':=.bool true) (F2 [[97]] [[97]] pA (some ⟨b204,0,none⟩) pc 1 _ _ _ hpp (show RX w0 [] _ [Ld [[97]]] _ from hF.rowX 0 (n:=1) O (RX.strs (ks:=[[97]]) Da) Da O sX).rep) (congrArg Value.bool (decide_eq_true O))) (Ya UR O O O) ?_);rintro _ w ⟨rfl,hE⟩;have hF:=hF.ext hE;have hV4:=hV4.ext hE;have hV10:=hV10.ext hE;have hV13:=hV13.ext hE;have hcq:=Xc hcq hE;have hpp:=hpp.ext hE;refine⟨hF.drop 3,?_⟩;refine Cb O (Dd O O) (Cb O (Fe O) (Cb O (Qb O) (Pa O (v:=.bool true) (λw hC=>Ge (Rh O O) Oa) (Cb O (Dd O O) (Cb O (Fe O) (Cb O (He O) (Cb O (Mf gX O) (Pa O (v:=.bool true) (λw hC=>Ge (Rh O O) Oa) (Cb O (Dd O O) (Cb O (Fe O) (Vi O (Rf zQ oZ O C0 2 O O) (Cb O (He O) (Pa O (v:=.pointer (some ⟨b1,4,none⟩)) (λw hC=>Kb (i:=1) 4 Xd O O Oa Oa O) ?_)))))))))))));refine Pa O (λw hC=>Va (l:=[J 3,I [49],aQ,aQ]) zQ oZ O O (hC.part 6 4 O O)) (Cb O (He O) (Pa O (v:=.pointer (some ⟨b1,36,none⟩)) (λw hC=>Kb (i:=9) 36 Xd O O Oa Oa O) (Pa O (λw hC=>Va (l:=[J 3,I [57],aQ,aQ]) zQ oZ O O (hC.part 6 36 O O)) (Cb O (He O) (Pa O (v:=.pointer (some ⟨b1,8,none⟩)) (λw hC=>Kb (i:=2) 8 Xd O O Oa Oa O) (Pa O (λw hC=>Va (l:=[J 3,I [50],aQ,aQ]) zQ oZ O O (hC.part 6 8 O O)) (Cb O (He O) (Pa O (v:=.pointer (some ⟨b1,12,none⟩)) (λw hC=>Kb (i:=3) 12 Xd O O Oa Oa O) (Pa O (λw hC=>Va (l:=[J 3,I [51],aQ,aQ]) zQ oZ O O (hC.part 6 12 O O)) ?_)))))))))
 refine Me O (v:=λb=>sV b 4 4) hF (Sa (cs:=(nA4 49 57 50 51)) cX oZ mX Oa Oa Mb) ?_;intro b205 w hb205 hF hE;have hV4:=hV4.alloc hE hb205;have hV10:=hV10.alloc hE hb205;have hV13:=hV13.alloc hE hb205;have hcq:=Xc hcq hE;have hpp:=hpp.ext hE;refine⟨hF.drop 4,?_⟩;refine Jb O (II (some ⟨b205,0,none⟩) 4 4 _) (Ra EK O O) ?_;rintro _ w ⟨rfl,hE⟩;have hF:=hF.ext hE;have hV4:=hV4.ext hE;have hV10:=hV10.ext hE;have hV13:=hV13.ext hE;have hcq:=Xc hcq hE;have hpp:=hpp.ext hE;refine⟨hF.drop 4,?_⟩;refine Jb O (Lg (v':=.bool true) (Bn JA JA _ _ _ _ _ hV10.rep (show RX w0 [] _ [Wb JA] [J 5,I [],aQ,sV b205 4 4] from RX.tree ⟨by omega,by omega⟩ Da (RX.nils) (hF.rowX 0 O ((RX.append (ds:=[_]) (RX.num _ Da) (RX.append (ds:=[_]) (RX.num _ Da) (RX.append (ds:=[_]) (RX.num _ Da) (RX.num _ Da))))) Da O sX)).rep) (congrArg Value.bool (Hg _))) (Ya Dt O O O) ?_;rintro _ w ⟨rfl,hE⟩;have hF:=hF.ext hE;have hV4:=hV4.ext hE;have hV10:=hV10.ext hE;have hV13:=hV13.ext hE;have hcq:=Xc hcq hE;have hpp:=hpp.ext hE;refine⟨hF.drop 4,?_⟩;refine Cb O (Dd O O) (Cb O (Fe O) (Cb O (Qb O) (Pa O (v:=.bool true) (λw hC=>Ge (Rh O O) Oa) (Cb O (Dd O O) (Cb O (Fe O) (Vi O (Rf zQ oZ O C0 0 O O) ?_))))));refine Jb O (B8 (none) 0 0 (none) 0 0 _) (Ya GA O O O) ?_;rintro _ w ⟨rfl,hE⟩;have hF:=hF.ext hE;have hV4:=hV4.ext hE;have hV10:=hV10.ext hE;have hV13:=hV13.ext hE;have hcq:=Xc hcq hE;have hpp:=hpp.ext hE;refine⟨hF.drop 4,?_⟩;refine Jb O (Lg (v':=.bool true) (Bn LO LO _ _ _ _ _ hV13.rep (show RX w0 [] _ [Wb LO] [J 6,I [],aQ,aQ] from RX.tree ⟨by omega,by omega⟩ Da (RX.nils) (RX.nils)).rep) (congrArg Value.bool (Hg _))) (Ya Dt O O O) ?_;rintro _ w ⟨rfl,hE⟩;have hF:=hF.ext hE;have hV4:=hV4.ext hE;have hV10:=hV10.ext hE;have hV13:=hV13.ext hE
 have hcq:=Xc hcq hE;have hpp:=hpp.ext hE;refine⟨hF.drop 4,?_⟩;refine Cb O (Dd O O) (Cb O (Ic O) (Fc (Ia ?_)));refine Pd (v:=.bool true) O O ?_;exact⟨O,hF.same⟩;refine Me O (v:=λb=>sV b 3 3) hF (Sa (cs:=(nA3 53 50 51)) cX oZ mX Oa Oa Mb) ?_;intro b206 w hb206 hF hE;have hV4:=hV4.alloc hE hb206;have hV10:=hV10.alloc hE hb206;have hV13:=hV13.alloc hE hb206;have hcq:=Xc hcq hE;have hpp:=hpp.ext hE;refine⟨hF.drop 1,?_⟩;refine Me O (v:=λb=>sV b 3 3) hF (Sa (cs:=kA3) bX uZ rX Oa Oa Mb) ?_;intro b207 w hb207 hF hE;have hV4:=hV4.alloc hE hb207;have hV10:=hV10.alloc hE hb207;have hV13:=hV13.alloc hE hb207;have hcq:=Xc hcq hE;have hpp:=hpp.ext hE;refine⟨hF.drop 2,?_⟩;refine Jb O (B8 (some ⟨b207,0,none⟩) 3 3 (some ⟨b206,0,none⟩) 3 3 _) (Ya GA O O O) ?_;rintro _ w ⟨rfl,hE⟩;have hF:=hF.ext hE;have hV4:=hV4.ext hE;have hV10:=hV10.ext hE;have hV13:=hV13.ext hE;have hcq:=Xc hcq hE;have hpp:=hpp.ext hE;refine⟨hF.drop 2,?_⟩;refine Jb O (Lg (v':=.bool true) (Bn KI KI _ _ _ _ _ hV4.rep (show RX w0 [] _ [Wb KI] [J 6,I [],sV b207 3 3,sV b206 3 3] from RX.tree ⟨by omega,by omega⟩ Da (hF.rowX 0 O (RX.strs (ks:=[[97],[98],[99]]) Da) Da O sX) (hF.rowX 1 O ((RX.append (ds:=[_]) (RX.num _ Da) (RX.append (ds:=[_]) (RX.num _ Da) (RX.num _ Da)))) Da O sX)).rep) (congrArg Value.bool (Hg _))) (Ya Dt O O O) ?_;rintro _ w ⟨rfl,hE⟩;have hF:=hF.ext hE;have hV4:=hV4.ext hE;have hV10:=hV10.ext hE;have hV13:=hV13.ext hE;have hcq:=Xc hcq hE;have hpp:=hpp.ext hE;refine⟨hF.drop 2,?_⟩;refine Cb O (Dd O O) (Cb O (Fe O) (Cb O (Qb O) (Pa O (v:=.bool true) (λw hC=>Ge (Rh O O) Oa) (Cb O (Dd O O) (Cb O (Fe O) (Cb O (He O) (Cb O (Mf gX O) (Pa O (v:=.bool true) (λw hC=>Ge (Rh O O) Oa) (Cb O (Dd O O) (Cb O (Fe O) (Cb O (He O) (Pa O (v:=.pointer (some (adc.add (0*17)))) (λw hC=>Ta (i:=0) M8 O hAc O sX sX) (Pa O (v:=.pointer (some ((adc.add (0*17)).add 1))) (λw hC=>Jg (a:=adc.add (0*17)) Y6 O) ?_)))))))))))))
 refine Ke O (v:=J 3) (Ob aZ O (hcq 1 Da)) (hF.mid 2 7) (Pa O (v:=.bool true) (λw hC=>Ge (Rh O O) Oa) (Cb O (Dd O O) (Cb O (Fe O) (Cb O (He O) (Pa O (v:=.pointer (some (adc.add (0*17)))) (λw hC=>Ta (i:=0) M8 O hAc O sX sX) (Pa O (v:=.pointer (some ((adc.add (0*17)).add 0))) (λw hC=>Jg (a:=adc.add (0*17)) DR O) ?_))))));refine Xe ?_ ?_;refine Ke O (v:=.slice (pA) (([[97]]:List Str).length) (pc)) (Ob wQ O (hcq 0 Da)) (hF.mid 2 7) (Me O (v:=λb=>sV b 1 1) hF (Sa (cs:=#[I [97]]) bX uZ rX Oa Oa Mb) ?_);intro b208 w hb208 hF hE;have hV4:=hV4.alloc hE hb208;have hV10:=hV10.alloc hE hb208;have hV13:=hV13.alloc hE hb208;have hcq:=Xc hcq hE;have hpp:=hpp.ext hE;refine⟨hF.drop 3,?_⟩;refine Jb O (Lg (v':=.bool true) (F2 [[97]] [[97]] pA (some ⟨b208,0,none⟩) pc 1 _ _ _ hpp (show RX w0 [] _ [Ld [[97]]] _ from hF.rowX 0 (n:=1) O (RX.strs (ks:=[[97]]) Da) Da O sX).rep) (congrArg Value.bool (decide_eq_true O))) (Ya UR O O O) ?_;rintro _ w ⟨rfl,hE⟩;have hF:=hF.ext hE;have hV4:=hV4.ext hE;have hV10:=hV10.ext hE;have hV13:=hV13.ext hE;have hcq:=Xc hcq hE;have hpp:=hpp.ext hE;refine⟨hF.drop 3,?_⟩;refine Cb O (Dd O O) (Cb O (Fe O) (Cb O (Qb O) (Pa O (v:=.bool true) (λw hC=>Ge (Rh O O) Oa) (Cb O (Dd O O) (Cb O (Fe O) (Cb O (He O) (Cb O (Mf gX O) (Pa O (v:=.bool true) (λw hC=>Ge (Rh O O) Oa) (Cb O (Dd O O) (Cb O (Fe O) (Vi O (Rf zQ oZ O C0 2 O O) (Cb O (He O) (Pa O (v:=.pointer (some ⟨b1,4,none⟩)) (λw hC=>Kb (i:=1) 4 Xd O O Oa Oa O) ?_)))))))))))));refine Pa O (λw hC=>Va (l:=[J 3,I [49],aQ,aQ]) zQ oZ O O (hC.part 6 4 O O)) (Cb O (He O) (Pa O (v:=.pointer (some ⟨b1,36,none⟩)) (λw hC=>Kb (i:=9) 36 Xd O O Oa Oa O) (Pa O (λw hC=>Va (l:=[J 3,I [57],aQ,aQ]) zQ oZ O O (hC.part 6 36 O O)) (Cb O (He O) (Pa O (v:=.pointer (some ⟨b1,8,none⟩)) (λw hC=>Kb (i:=2) 8 Xd O O Oa Oa O) (Pa O (λw hC=>Va (l:=[J 3,I [50],aQ,aQ]) zQ oZ O O (hC.part 6 8 O O)) (Cb O (He O) (Pa O (v:=.pointer (some ⟨b1,12,none⟩)) (λw hC=>Kb (i:=3) 12 Xd O O Oa Oa O) (Pa O (λw hC=>Va (l:=[J 3,I [51],aQ,aQ]) zQ oZ O O (hC.part 6 12 O O)) ?_)))))))))
 refine Me O (v:=λb=>sV b 4 4) hF (Sa (cs:=(nA4 49 57 50 51)) cX oZ mX Oa Oa Mb) ?_;intro b209 w hb209 hF hE;have hV4:=hV4.alloc hE hb209;have hV10:=hV10.alloc hE hb209;have hV13:=hV13.alloc hE hb209;have hcq:=Xc hcq hE;have hpp:=hpp.ext hE;refine⟨hF.drop 4,?_⟩;refine Jb O (II (some ⟨b209,0,none⟩) 4 4 _) (Ra EK O O) ?_;rintro _ w ⟨rfl,hE⟩;have hF:=hF.ext hE;have hV4:=hV4.ext hE;have hV10:=hV10.ext hE;have hV13:=hV13.ext hE;have hcq:=Xc hcq hE;have hpp:=hpp.ext hE;refine⟨hF.drop 4,?_⟩;refine Jb O (Lg (v':=.bool true) (Bn JA JA _ _ _ _ _ hV10.rep (show RX w0 [] _ [Wb JA] [J 5,I [],aQ,sV b209 4 4] from RX.tree ⟨by omega,by omega⟩ Da (RX.nils) (hF.rowX 0 O ((RX.append (ds:=[_]) (RX.num _ Da) (RX.append (ds:=[_]) (RX.num _ Da) (RX.append (ds:=[_]) (RX.num _ Da) (RX.num _ Da))))) Da O sX)).rep) (congrArg Value.bool (Hg _))) (Ya Dt O O O) ?_;rintro _ w ⟨rfl,hE⟩;have hF:=hF.ext hE;have hV4:=hV4.ext hE;have hV10:=hV10.ext hE;have hV13:=hV13.ext hE;have hcq:=Xc hcq hE;have hpp:=hpp.ext hE;refine⟨hF.drop 4,?_⟩;refine Cb O (Dd O O) (Cb O (Fe O) (Cb O (Qb O) (Pa O (v:=.bool true) (λw hC=>Ge (Rh O O) Oa) (Cb O (Dd O O) (Cb O (Fe O) (Vi O (Rf zQ oZ O C0 0 O O) ?_))))));refine Jb O (B8 (none) 0 0 (none) 0 0 _) (Ya GA O O O) ?_;rintro _ w ⟨rfl,hE⟩;have hF:=hF.ext hE;have hV4:=hV4.ext hE;have hV10:=hV10.ext hE;have hV13:=hV13.ext hE;have hcq:=Xc hcq hE;have hpp:=hpp.ext hE;refine⟨hF.drop 4,?_⟩;refine Jb O (Lg (v':=.bool true) (Bn LO LO _ _ _ _ _ hV13.rep (show RX w0 [] _ [Wb LO] [J 6,I [],aQ,aQ] from RX.tree ⟨by omega,by omega⟩ Da (RX.nils) (RX.nils)).rep) (congrArg Value.bool (Hg _))) (Ya Dt O O O) ?_;rintro _ w ⟨rfl,hE⟩;have hF:=hF.ext hE;have hV4:=hV4.ext hE;have hV10:=hV10.ext hE;have hV13:=hV13.ext hE
 have hcq:=Xc hcq hE;have hpp:=hpp.ext hE;refine⟨hF.drop 4,?_⟩;refine Cb O (Dd O O) (Cb O (Ic O) (Fc (Ia ?_)));refine Pd (v:=.bool true) O O ?_;exact⟨O,hF.same⟩;refine Me O (v:=λb=>sV b 1 1) hF (Sa (cs:=#[I [97]]) bX uZ rX Oa Oa Mb) ?_;intro b210 w hb210 hF hE;have hV4:=hV4.alloc hE hb210;have hV10:=hV10.alloc hE hb210;have hV13:=hV13.alloc hE hb210;have hcq:=Xc hcq hE;have hpp:=hpp.ext hE;refine⟨hF.drop 3,?_⟩;refine Ke O (v:=.slice (pA) (([[97]]:List Str).length) (pc)) (Ob wQ O (hcq 0 Da)) (hF.mid 3 7) (Jb O (Lg (v':=.bool true) (F2 [[97]] [[97]] pA (some ⟨b210,0,none⟩) pc 1 _ _ _ hpp (show RX w0 [] _ [Ld [[97]]] _ from hF.rowX 0 (n:=1) O (RX.strs (ks:=[[97]]) Da) Da O sX).rep) (congrArg Value.bool (decide_eq_true O))) (Ya UR O O O) ?_);rintro _ w ⟨rfl,hE⟩;have hF:=hF.ext hE;have hV4:=hV4.ext hE;have hV10:=hV10.ext hE;have hV13:=hV13.ext hE;have hcq:=Xc hcq hE;have hpp:=hpp.ext hE;refine⟨hF.drop 3,?_⟩;refine Cb O (Dd O O) (Cb O (Fe O) (Cb O (Qb O) (Pa O (v:=.bool true) (λw hC=>Ge (Rh O O) Oa) (Cb O (Dd O O) (Cb O (Fe O) (Cb O (He O) (Cb O (Mf gX O) (Pa O (v:=.bool true) (λw hC=>Ge (Rh O O) Oa) (Cb O (Dd O O) (Cb O (Fe O) (Vi O (Rf zQ oZ O C0 2 O O) (Cb O (He O) (Pa O (v:=.pointer (some ⟨b1,4,none⟩)) (λw hC=>Kb (i:=1) 4 Xd O O Oa Oa O) ?_)))))))))))));refine Pa O (λw hC=>Va (l:=[J 3,I [49],aQ,aQ]) zQ oZ O O (hC.part 6 4 O O)) (Cb O (He O) (Pa O (v:=.pointer (some ⟨b1,36,none⟩)) (λw hC=>Kb (i:=9) 36 Xd O O Oa Oa O) (Pa O (λw hC=>Va (l:=[J 3,I [57],aQ,aQ]) zQ oZ O O (hC.part 6 36 O O)) (Cb O (He O) (Pa O (v:=.pointer (some ⟨b1,8,none⟩)) (λw hC=>Kb (i:=2) 8 Xd O O Oa Oa O) (Pa O (λw hC=>Va (l:=[J 3,I [50],aQ,aQ]) zQ oZ O O (hC.part 6 8 O O)) (Cb O (He O) (Pa O (v:=.pointer (some ⟨b1,12,none⟩)) (λw hC=>Kb (i:=3) 12 Xd O O Oa Oa O) (Pa O (λw hC=>Va (l:=[J 3,I [51],aQ,aQ]) zQ oZ O O (hC.part 6 12 O O)) ?_)))))))))
 refine Me O (v:=λb=>sV b 4 4) hF (Sa (cs:=(nA4 49 57 50 51)) cX oZ mX Oa Oa Mb) ?_;intro b211 w hb211 hF hE;have hV4:=hV4.alloc hE hb211;have hV10:=hV10.alloc hE hb211;have hV13:=hV13.alloc hE hb211;have hcq:=Xc hcq hE;have hpp:=hpp.ext hE;refine⟨hF.drop 4,?_⟩;refine Jb O (II (some ⟨b211,0,none⟩) 4 4 _) (Ra EK O O) ?_;rintro _ w ⟨rfl,hE⟩;have hF:=hF.ext hE;have hV4:=hV4.ext hE;have hV10:=hV10.ext hE;have hV13:=hV13.ext hE;have hcq:=Xc hcq hE;have hpp:=hpp.ext hE;refine⟨hF.drop 4,?_⟩;refine Jb O (Lg (v':=.bool true) (Bn JA JA _ _ _ _ _ hV10.rep (show RX w0 [] _ [Wb JA] [J 5,I [],aQ,sV b211 4 4] from RX.tree ⟨by omega,by omega⟩ Da (RX.nils) (hF.rowX 0 O ((RX.append (ds:=[_]) (RX.num _ Da) (RX.append (ds:=[_]) (RX.num _ Da) (RX.append (ds:=[_]) (RX.num _ Da) (RX.num _ Da))))) Da O sX)).rep) (congrArg Value.bool (Hg _))) (Ya Dt O O O) ?_;rintro _ w ⟨rfl,hE⟩;have hF:=hF.ext hE;have hV4:=hV4.ext hE;have hV10:=hV10.ext hE;have hV13:=hV13.ext hE;have hcq:=Xc hcq hE;have hpp:=hpp.ext hE;refine⟨hF.drop 4,?_⟩;refine Cb O (Dd O O) (Cb O (Fe O) (Cb O (Qb O) (Pa O (v:=.bool true) (λw hC=>Ge (Rh O O) Oa) (Cb O (Dd O O) (Cb O (Fe O) (Vi O (Rf zQ oZ O C0 0 O O) ?_))))));refine Jb O (B8 (none) 0 0 (none) 0 0 _) (Ya GA O O O) ?_;rintro _ w ⟨rfl,hE⟩;have hF:=hF.ext hE;have hV4:=hV4.ext hE;have hV10:=hV10.ext hE;have hV13:=hV13.ext hE;have hcq:=Xc hcq hE;have hpp:=hpp.ext hE;refine⟨hF.drop 4,?_⟩;refine Jb O (Lg (v':=.bool true) (Bn LO LO _ _ _ _ _ hV13.rep (show RX w0 [] _ [Wb LO] [J 6,I [],aQ,aQ] from RX.tree ⟨by omega,by omega⟩ Da (RX.nils) (RX.nils)).rep) (congrArg Value.bool (Hg _))) (Ya Dt O O O) ?_;rintro _ w ⟨rfl,hE⟩;have hF:=hF.ext hE;have hV4:=hV4.ext hE;have hV10:=hV10.ext hE;have hV13:=hV13.ext hE
 have hcq:=Xc hcq hE;have hpp:=hpp.ext hE;refine⟨hF.drop 4,?_⟩;refine Cb O (Dd O O) (Cb O (Ic O) (Fc (Ia ?_)));refine Pd (v:=.bool true) O O ?_;exact⟨O,hF.same⟩
end Go.Scarf
