/- A part of the proof. -/
import Derived.Test.YthnkjgpjdbdchaaGreatDoorM15
import Derived.Test.YthnkjgpjdbdchaaGreatDoorIv
set_option linter.all false
set_option maxHeartbeats 8000000
set_option maxRecDepth 10000
namespace Go.Scarf
open Go.RowKit Go.Proofs Go.Proofs.Tryz
theorem x_makeV{P:Program}{w:World}{ρ:Operand->Value}{dst:Option Nat}{ty:TypeId}{pos:String}{aft:Array Edge}{g:Option (Nat × Bool)}{t e m bytes:Nat}{z:Value}{x y:Operand}{N:Nat}{cs:Array Value}(hE:Elems P t e m bytes)(hz0:(P.info? e).map (·.zero)=some (some z))(hc:madeCells z.cells (N*m)=cs)(hx:ρ x=J (N:Int))(hy:ρ y=J (N:Int))(h:N<=1000)(hb:bytes<=1000) :
    (execOp ρ ⟨dst,.makeSlice t x y,ty,pos,aft,g⟩).run P w=.ok (.value (.slice (some ⟨w.heap.size,0,none⟩) N N)) (w.alloc (.cells cs e)):=by
  obtain⟨i,z',hi,hz,hs,hby,-⟩:=hE.info;rw[hi]at hz0;have ez:i.zero=some z:=by simpa using hz0
  have hle:(i.bytes:Int)*(N:Int)<=281474976710656:=by
    rw[hby];have:bytes*N<=1000*1000:=Nat.mul_le_mul hb h;have h2:((bytes*N:Nat):Int)<=281474976710656:=by omega
    rwa [Int.natCast_mul]at h2
  have hr:=run_make (P:=P) w t e i z hE.ht hi ez .i64 .i64 N N tX (Int.le_refl _) hle tX;rw[hs,Int.toNat_natCast,hc]at hr;simp[execOp,hx,hy,hr]
abbrev H6(i:UInt8):Tree:=.node 3 [i] [] []
def b1T:Tree:=.node 6 [] [[97],[98]] [H6 49,H6 50]
def l1T:Tree:=.node 6 [] [[97],[98]] [H6 53,H6 50]
def r1T:Tree:=.node 6 [] [[97],[98],[99]] [H6 49,H6 50,H6 51]
def EK:Tree:=.node 6 [] [[97],[98],[99]] [H6 53,H6 50,H6 51]
def b2T:Tree:=.node 6 [] [[97]] [H6 49]
def l2T:Tree:=.node 6 [] [[97]] [H6 50]
def QO:Tree:=.node 6 [] [] []
def o2T:Tree:=.node 6 [] [[97]] [Yn 0]
def JX:Cf:=⟨[[97]],3,⟨true,H6 49⟩,⟨true,H6 50⟩,noS⟩
def b3T:Tree:=.node 5 [] [] [H6 49,H6 50]
def l3T:Tree:=.node 5 [] [] [H6 49,H6 57,H6 50]
def r3T:Tree:=.node 5 [] [] [H6 49,H6 50,H6 51]
def PC:Tree:=.node 5 [] [] [H6 49,H6 57,H6 50,H6 51]
theorem mg_one:Zh [] b1T l1T r1T=(EK,[],0):=by kernel_rfl
theorem mg_two:Zh [] b2T l2T QO=(o2T,[JX],0):=by kernel_rfl
theorem mg_three:Zh [] b3T l3T r3T=(PC,[],0):=by kernel_rfl
theorem ch_two:Jt o2T [JX] [2]=(QO,0):=by kernel_rfl
theorem cfT_ok:∀c∈[JX],CfS c:=λc hc=>by
  rw[pQ.1 hc];exact⟨⟨.inr ⟨O,by kernel_rfl⟩,.inr ⟨O,by kernel_rfl⟩,.inl O,λh=>absurd h Pa,by decide,by decide⟩,by decide,by decide,by decide⟩
theorem o2T_sz:Mb o2T<=512/\Qd o2T<=16777216:=by
  have h:decide (Mb o2T<=512/\Qd o2T<=16777216)=true:=by kernel_rfl
  exact of_decide_eq_true h
theorem o2T_hol:HolIn 1 o2T:=λt ht=>⟨0,by omega,by omega,by simpa[o2T,Eh,Hh,Yn]using ht⟩
def numQ(j:Nat):List Value:=[J 3,I (Io (TD (j:Int))),aQ,aQ]
def M7(j:Nat):List Value:=(List.range 10).flatMap λi=>if i<j then numQ i else [J 0,I [],aQ,aQ]
theorem HX:∀j,j<10->(M7 j).length=40
  | 0,_=>rfl|1,_=>rfl|2,_=>rfl|3,_=>rfl|4,_=>rfl|5,_=>rfl|6,_=>rfl|7,_=>rfl|8,_=>rfl|9,_=>rfl
  | n+10,h=>absurd h tX
theorem OV:∀j,j<10->putA (M7 j).toArray (j*4) (numQ j)=(M7 (j+1)).toArray
  | 0,_=>by kernel_rfl|1,_=>by kernel_rfl|2,_=>by kernel_rfl|3,_=>by kernel_rfl|4,_=>by kernel_rfl|5,_=>by kernel_rfl|6,_=>by kernel_rfl|7,_=>by kernel_rfl|8,_=>by kernel_rfl|9,_=>by kernel_rfl
  | n+10,h=>absurd h tX
def tenL:List Value:=[J 3,I [48],aQ,aQ,J 3,I [49],aQ,aQ,J 3,I [50],aQ,aQ,J 3,I [51],aQ,aQ,J 3,I [52],aQ,aQ,J 3,I [53],aQ,aQ,J 3,I [54],aQ,aQ,J 3,I [55],aQ,aQ,J 3,I [56],aQ,aQ,J 3,I [57],aQ,aQ]
theorem MU:M7 10=tenL:=by kernel_rfl
theorem NP:M7 0=[J 0,I [],aQ,aQ,J 0,I [],aQ,aQ,J 0,I [],aQ,aQ,J 0,I [],aQ,aQ,J 0,I [],aQ,aQ,J 0,I [],aQ,aQ,J 0,I [],aQ,aQ,J 0,I [],aQ,aQ,J 0,I [],aQ,aQ,J 0,I [],aQ,aQ]:=by kernel_rfl
theorem Cd{w w':World}{ad:Addr}{l:List Value}(h:∀j (hj:j<l.length),w.cell? (ad.add j)=some l[j])(hs:Same [] w w'):∀j (hj:j<l.length),w'.cell? (ad.add j)=some l[j]:=((FR.start w []).ext hs).cells0 h
theorem FR.rowF{w0 w:World}{i:List Nat}{ds:List D}{bs_:List (Nat × Obj)}(hF:FR w0 [] bs_ w)(k:Nat){b n c:Nat}{l es:List Value}{T:TypeId}(hi:bs_[k]? = some (b,.cells l.toArray T))(hr:RX w0 i w ds es)(he:l.take es.length=es)(hb:b∉i)(hn:ds.length=n)(hnc:n<=c)(hm:c<=9223372036854775807) :
    RX w0 i w [.slice ds] [W b n c]:=by
  refine .one (Rep.slice_mk hn.symm hnc hm λ_=>⟨_,O,es,λj hj=>⟨?_,?_⟩,hr⟩)
  ·have hl : j<l.length := by have := congrArg List.length he;rw[List.length_take]at this;omega
   rw[hF.cellsAll k hi j hl];have h2:(l.take es.length)[j]? = es[j]?:=by rw[he]
   rw[List.getElem?_take,if_pos hj,List.getElem?_eq_getElem hl,List.getElem?_eq_getElem hj]at h2;exact h2
  exact⟨hF.ge hi,hF.lt hi,hb,l.toArray,T,hF.heap hi⟩
theorem VF{w0 w:World}{bs_:List (Nat × Obj)}(hG:Gl w0)(hF:FR w0 [] bs_ w):∀x∈bs_.map (·.1),8<=x/\x<w.heap.size:=λx hx=>by
  refine⟨?_,hF.lt_ids hx⟩;obtain⟨q,hq,rfl⟩:=nQ.1 hx;have:=(hF.own q hq).2;simp only[List.not_mem_nil,or_false]at this;exact fQ hG.size this
abbrev nA1(i:UInt8):Array Value:=#[J 3,I [i],aQ,aQ]
abbrev nA2(i j:UInt8):Array Value:=#[J 3,I [i],aQ,aQ,J 3,I [j],aQ,aQ]
abbrev nA3(i j k:UInt8):Array Value:=#[J 3,I [i],aQ,aQ,J 3,I [j],aQ,aQ,J 3,I [k],aQ,aQ]
abbrev nA4(i j k l:UInt8):Array Value:=#[J 3,I [i],aQ,aQ,J 3,I [j],aQ,aQ,J 3,I [k],aQ,aQ,J 3,I [l],aQ,aQ]
abbrev kA2:Array Value:=#[I [97],I [98]]
abbrev kA3:Array Value:=#[I [97],I [98],I [99]]
abbrev zA:Array Value:=#[J 0,I [],aQ,aQ]
abbrev nV(i:UInt8):Value:=.agg #[J 3,I [i],aQ,aQ]
def idA:Option Value->List Nat
  | some (.pointer (some a))=>[a.block]
  | _=>[]
def Rw(t:Tree):Option Value->Value->World->Prop:=λ_ u w=>∃x:Tv,u=.agg x.cells.toArray/\Rep (λ_=>True) w (Ub t) x.cells
def NN(u0:World)(own:List Nat)(t:Tree)(cs:List Cf):Option Value->Value->World->Prop:=λa u w=>∃(q:Tv)(A:Option Addr)(c:Nat),u=.tuple #[.agg q.cells.toArray,.slice A cs.length c,J 0]/\RX (wE u0) (idA a++own) w [Ub t] q.cells/\RX (wE u0) (idA a++own) w [.slice (cs.map RC)] [.slice A cs.length c]
def mvF(u0:World)(own:List Nat)(t:Tree):Option Value->Value->World->Prop:=λa u w=>∃q:Tv,u=.agg q.cells.toArray/\RX (wE u0) (idA a++own) w [Ub t] q.cells
def cfF(u0:World)(own:List Nat)(cs:List Cf):Option Value->Value->World->Prop:=λa u w=>∃(A:Option Addr)(c:Nat),u=.slice A cs.length c/\RX (wE u0) (idA a++own) w [.slice (cs.map RC)] [.slice A cs.length c]
def CQ(ds:List D)(u:Value)(w:World):Prop:=∃A m c,u=.slice A m c/\Rep (λ_=>True) w (.slice ds) [.slice A m c]
abbrev sV(b n c:Nat):Value:=W b n c
abbrev pV(b:Nat):Value:=V b
section
variable {u0:World}{own:List Nat}{t:Tree}{cs:List Cf}
theorem TG:∀a u w w',Same [] w w'->Rw t a u w->Rw t a u w':=λ_ _ _ _ hs ⟨x,e,h⟩=>⟨x,e,h.ext hs⟩
theorem JI:∀u w w',Same [] w w'->Rw t none u w->Rw t (some (pV w.heap.size)) u w':=λ_ _ _ hs ⟨x,e,h⟩=>⟨x,e,h.ext hs⟩
theorem I4:∀a u w w',Same [] w w'->NN u0 own t cs a u w->NN u0 own t cs a u w':=λ_ _ _ _ hs ⟨q,A,c,e,h,h'⟩=>⟨q,A,c,e,h.ext hs,h'.ext hs⟩
theorem V5:∀u w w',Same [] w w'->NN u0 own t cs none u w->NN u0 own t cs (some (pV w.heap.size)) u w':=λ_ _ _ hs ⟨q,A,c,e,h,h'⟩=>⟨q,A,c,e,h.alloc hs rfl,h'.alloc hs rfl⟩
theorem VO:∀a u w w',Same [] w w'->mvF u0 own t a u w->mvF u0 own t a u w':=λ_ _ _ _ hs ⟨q,e,h⟩=>⟨q,e,h.ext hs⟩
theorem PQ:∀u w w',Same [] w w'->mvF u0 own t none u w->mvF u0 own t (some (pV w.heap.size)) u w':=λ_ _ _ hs ⟨q,e,h⟩=>⟨q,e,h.alloc hs rfl⟩
theorem Pv:∀a u w w',Same [] w w'->cfF u0 own cs a u w->cfF u0 own cs a u w':=λ_ _ _ _ hs ⟨A,c,e,h⟩=>⟨A,c,e,h.ext hs⟩
theorem Jv:∀u w w',Same [] w w'->cfF u0 own cs none u w->cfF u0 own cs (some (pV w.heap.size)) u w':=λ_ _ _ hs ⟨A,c,e,h⟩=>⟨A,c,e,h.alloc hs rfl⟩
theorem RX.push{w0 w w':World}{ids:List Nat}{ds:List D}{l:List Value}{b:Nat}(h:RX w0 ids w ds l)(hs:Same [] w w')(hb:w.heap.size<=b):RX w0 (b::ids) w' ds l :=
  h.step hs Da (λx hx=>by rcases oQ.1 hx with rfl|hx;exact .inr hb;exact .inl hx)
end
section
variable {n:Nat}{ops:List Oper}{Z:Nat->World->Prop}{w00 u0:World}{sl:List (Nat × Value)}{H:Nat × Nat}{l:List Fact}{i d:Nat}{ty:Nat}{pos:String}{aft:Array Edge}{g:Option (Nat × Bool)}{own:List Nat}{ats:Array TypeId}
theorem FY{ds:List D}{N:Nat}{T:TypeId}{lv:List Value}{u:Value}{w:World}{a:Option Value}(h:rowF N (.cells lv.toArray T) a u w)(hr:RepL (λ_=>True) w ds lv)(hn:ds.length=N)(hm:N<=9223372036854775807):CQ ds u w:=by
  obtain⟨b,rfl,hb⟩:=h;exact⟨_,_,_,O,row_all hb hr hn hm⟩
theorem ZM{w:World}:CQ [] (aQ) w:=⟨_,_,_,rfl,Rep.nil_slice 0 tX none⟩
theorem Q5{ks:List Str}{xs:List Tree}{x y:Operand}(hp:Ph Z sl H l)(k:Nat)(hk:l[k]? = some (i,d,Rw (.node 6 [] ks xs)))(hi:ops[i]? = some ⟨some d,.call ⟨.value (.func 20),#[x,y],ats⟩,ty,pos,aft,g⟩)
    (h:∀S s w,(∀d∈Ah ops i,S d=true)->IG Z w00 sl H l S s w->CQ (ks.map Zo) (ev n s x) w/\CQ (Gd xs) (ev n s y) w) (hw:∀s,Wb ops n s ⟨some d,.call ⟨.value (.func 20),#[x,y],ats⟩,ty,pos,aft,g⟩=true:=by exact λ_=>rfl):StepA prog n ops (IG Z w00 sl H l) i :=
  TP hp k hk hi (λS s w hd hI=>by
    obtain⟨⟨A,m,c,e1,h1⟩,B,m',c',e2,h2⟩:=h S s w hd hI;refine⟨20,_,_,_,QA A m c B m' c' w,Xa HA O e1 e2,?_⟩;rintro v w'' ⟨rfl,hs⟩;exact⟨hs,⟨6,[],A,m,c,B,m',c'⟩,O,Rep.tree_mk ⟨by decide,by decide⟩ Da (h1.ext hs) (h2.ext hs)⟩) hw
theorem SQ{xs:List Tree}{x:Operand}(hp:Ph Z sl H l)(k:Nat)(hk:l[k]? = some (i,d,Rw (.node 5 [] [] xs)))(hi:ops[i]? = some ⟨some d,.call ⟨.value (.func 21),#[x],ats⟩,ty,pos,aft,g⟩)
    (h:∀S s w,(∀d∈Ah ops i,S d=true)->IG Z w00 sl H l S s w->CQ (Gd xs) (ev n s x) w) (hw:∀s,Wb ops n s ⟨some d,.call ⟨.value (.func 21),#[x],ats⟩,ty,pos,aft,g⟩=true:=by exact λ_=>rfl):StepA prog n ops (IG Z w00 sl H l) i :=
  TP hp k hk hi (λS s w hd hI=>by
    obtain⟨A,m,c,e1,h1⟩:=h S s w hd hI;refine⟨21,_,_,_,LK A m c w,Ra VM O e1,?_⟩;rintro v w'' ⟨rfl,hs⟩;exact⟨hs,⟨5,[],none,0,0,A,m,c⟩,O,Rep.tree_mk ⟨by decide,by decide⟩ Da (Rep.nil_slice 0 tX none) (h1.ext hs)⟩) hw
theorem st_mg{bT lT rT oT:Tree}{cs:List Cf}{x y z ix iy iz:Nat}(hp:Ph Z sl H l)(k kx ky kz:Nat)(hk:l[k]? = some (i,d,NN u0 own oT cs))(hx:l[kx]? = some (ix,x,Rw bT))(hy:l[ky]? = some (iy,y,Rw lT))(hz:l[kz]? = some (iz,z,Rw rT))
    (hi:ops[i]? = some ⟨some d,.call ⟨.value (.func 10),#[.tmp x,.tmp y,.tmp z,.const (aQ)],ats⟩,ty,pos,aft,g⟩) (mx:(Ah ops i).contains ix=true) (my:(Ah ops i).contains iy=true) (mz:(Ah ops i).contains iz=true) (nx:Nat.blt x n=true) (ny:Nat.blt y n=true) (nz:Nat.blt z n=true)
    (heq:Zh [] bT lT rT=(oT,cs,0)) (hb:Mb bT<=256/\Qd bT<=16777216) (hl:Mb lT<=256/\Qd lT<=16777216) (hr:Mb rT<=256/\Qd rT<=16777216) (hG:Gl w00) (ho:∀x∈own,8<=x/\x<w00.heap.size) (hZ:∀b w,Z b w->b<w.heap.size)
    (hw:∀s,Wb ops n s ⟨some d,.call ⟨.value (.func 10),#[.tmp x,.tmp y,.tmp z,.const (aQ)],ats⟩,ty,pos,aft,g⟩=true:=by exact λ_=>rfl):StepA prog n ops (IG Z w00 sl H l) i :=
  TP hp k hk hi (λS s w hd hI=>by
    obtain⟨q1,e1,h1⟩:=hI.dep hd kx hx mx;obtain⟨q2,e2,h2⟩:=hI.dep hd ky hy my;obtain⟨q3,e3,h3⟩:=hI.dep hd kz hz mz;refine⟨10,_,_,_,YA [] (OB 40) bT lT rT q1 q2 q3 none 0 _ _ _ (λ_=>True) w h1 h2 h3 (Rep.nil_slice 0 tX none) (λq hq=>by cases hq) hb hl hr (hG.ext hI.2.1),Hk XY O ((Bm nx).trans e1) ((Bm ny).trans e2) ((Bm nz).trans e3) O,?_⟩;rintro v w' ⟨q,A',c,rfl,r1,r2,hs⟩;have hid:∀b∈idA (Lp H S s)++own,8<=b/\b<w.heap.size:=λb hb=>by
      rcases mQ.1 hb with hb|hb
      ·unfold Lp at hb
       by_cases hA:S H.1=true
       ·rw[if_pos hA]at hb
        obtain⟨b',e,hz,hge⟩:=hI.2.2.2 hA;rw[e]at hb;obtain rfl:b=b':=by simpa[idA]using hb
        exact⟨fQ hG.size hge,hZ _ _ hz⟩
       rw[if_neg hA]at hb;cases hb
      exact⟨(ho b hb).1,Nat.lt_of_lt_of_le (ho b hb).2 hI.2.1.size⟩
    rw[heq]at r1 r2 ⊢;exact⟨hs,q,A',c,O,NewB.rx r1 hid,NewB.rx r2 hid⟩) hw
theorem LY{oT:Tree}{cs:List Cf}{i' d':Nat}(hp:Ph Z sl H l)(k k':Nat)(hk:l[k]? = some (i,d,mvF u0 own oT))(hk':l[k']? = some (i',d',NN u0 own oT cs))(hi:ops[i]? = some ⟨some d,.extract (.tmp d') 0,ty,pos,aft,g⟩)(hm:(Ah ops i).contains i'=true)(hn:Nat.blt d' n=true)
    (hw:∀s,Wb ops n s ⟨some d,.extract (.tmp d') 0,ty,pos,aft,g⟩=true:=by exact λ_=>rfl):StepA prog n ops (IG Z w00 sl H l) i :=
  Ox hp k hk hi (λS s w hd hI=>by
    obtain⟨q,A,c,e,h1,h2⟩:=hI.dep hd k' hk' hm;exact⟨_,w,Sh ((Bm hn).trans e) O,Same.refl _ _,q,O,h1⟩) hw
theorem VC{oT:Tree}{cs:List Cf}{i' d':Nat}(hp:Ph Z sl H l)(k k':Nat)(hk:l[k]? = some (i,d,cfF u0 own cs))(hk':l[k']? = some (i',d',NN u0 own oT cs))(hi:ops[i]? = some ⟨some d,.extract (.tmp d') 1,ty,pos,aft,g⟩)(hm:(Ah ops i).contains i'=true)(hn:Nat.blt d' n=true)
    (hw:∀s,Wb ops n s ⟨some d,.extract (.tmp d') 1,ty,pos,aft,g⟩=true:=by exact λ_=>rfl):StepA prog n ops (IG Z w00 sl H l) i :=
  Ox hp k hk hi (λS s w hd hI=>by
    obtain⟨q,A,c,e,h1,h2⟩:=hI.dep hd k' hk' hm;exact⟨_,w,Sh ((Bm hn).trans e) O,Same.refl _ _,A,c,O,h2⟩) hw
theorem RE{oT:Tree}{cs:List Cf}{i' d':Nat}(hp:Ph Z sl H l)(k k':Nat)(hk:l[k]? = some (i,d,Il (J 0)))(hk':l[k']? = some (i',d',NN u0 own oT cs))(hi:ops[i]? = some ⟨some d,.extract (.tmp d') 2,ty,pos,aft,g⟩)(hm:(Ah ops i).contains i'=true)(hn:Nat.blt d' n=true)
    (hw:∀s,Wb ops n s ⟨some d,.extract (.tmp d') 2,ty,pos,aft,g⟩=true:=by exact λ_=>rfl):StepA prog n ops (IG Z w00 sl H l) i :=
  Ox hp k hk hi (λS s w hd hI=>by
    obtain⟨q,A,c,e,h1,h2⟩:=hI.dep hd k' hk' hm;exact⟨_,w,Sh ((Bm hn).trans e) O,Same.refl _ _,O⟩) hw
def Z1(b:Nat)(w:World):Prop:=w.heap[b]? = some (.cells #[J 0,I [],aQ,aQ] 25)
def Z2(u0:World)(own:List Nat)(t:Tree)(b:Nat)(w:World):Prop:=∃q:Tv,w.heap[b]? = some (.cells q.cells.toArray 25)/\RX (wE u0) (b::own) w [Ub t] q.cells
theorem Z1_st:∀b w w',Same [] w w'->Z1 b w->Z1 b w':=λ_ _ _ hs h=>Gj h hs
theorem Z2_st{t:Tree}:∀b w w',Same [] w w'->Z2 u0 own t b w->Z2 u0 own t b w':=λ_ _ _ hs ⟨q,h,h'⟩=>⟨q,Gj h hs,h'.ext hs⟩
def l2(u0:World)(own:List Nat)(t:Tree)(cs:List Cf)(p:Nat × Nat)(e:Nat)(q:Nat × Nat)(e':Nat)(r:Nat × Nat):List Fact :=
  [(p.1,p.2,NN u0 own t cs),(p.1+2,q.1,cfF u0 own cs),(p.1+3,q.2,Il (J 0)),(e,r.1,cfF u0 own cs),(e',r.2,Il (J 0))]
theorem AllG.nil{S:Nat->Bool}{s:Nat->Value}{w:World}:AllG H S s w []:=λk f h=>by simp at h
theorem AllG.cons{S:Nat->Bool}{s:Nat->Value}{w:World}{f:Fact}(h:S f.1=true->f.2.2 (Lp H S s) (s f.2.1) w)(hl:AllG H S s w l):AllG H S s w (f::l):=λk g hg=>by
  cases k with
  | zero => obtain rfl : f = g := by simpa using hg
            exact h
  | succ k=>exact hl k g (by simpa using hg)
theorem XX{t:Tree}{cs:List Cf}{p q r:Nat × Nat}{st dv:Nat}(k31 k32 k33 k34:Nat)(h31:l[k31]? = some (p.1,p.2,NN u0 own t cs))(h32:l[k32]? = some (p.1+1,dv,mvF u0 own t))(h33:l[k33]? = some (p.1+2,q.1,cfF u0 own cs))(h34:l[k34]? = some (p.1+3,q.2,Il (J 0)))
    (hi:ops[st]? = some ⟨none,.store 25 (.tmp H.2) (.tmp dv),ty,pos,aft,g⟩) (hA:Nat.blt H.2 n=true) (hv:Nat.blt dv n=true) (mA:(Ah ops st).contains H.1=true:=by kernel_rfl) (mv:(Ah ops st).contains (p.1+1)=true:=by kernel_rfl)
    (m37:(Ah ops (st+1)).contains st=true:=by kernel_rfl) (m38:(Ah ops (st+2)).contains (st+1)=true:=by kernel_rfl) (hsz:decide (st+2<ops.length/\p.1+3<st/\H.1<st)=true:=by kernel_rfl)
    (hw:∀s,Wb ops n s ⟨none,.store 25 (.tmp H.2) (.tmp dv),ty,pos,aft,g⟩=true:=by exact λ_=>rfl) :
    StepA prog n ops (Cz st (IG Z1 w00 sl H l) (IG (Z2 u0 own t) w00 sl H (l2 u0 own t cs p (st+1) q (st+2) r))) st:=.at λS s w hS hd hc hI=>by
  have hsz:=of_decide_eq_true hsz;obtain⟨h1,h2,h3,h4⟩:=id hI;have sA:S H.1=true:=hd _ (List.contains_iff_mem.1 mA);obtain⟨b,eb,hz,hb⟩:=h4 sA;obtain⟨x,ex,hx⟩:=hI.dep hd k32 h32 mv;have ea:Lp H S s=some (pV b):=by unfold Lp;rw[sA,if_pos rfl,eb]
  rw[ea]at hx;have hF:FR w00 [] [(b,.cells (List.toArray [J 0,I [],aQ,aQ]) 25)] w:=⟨h2,λq hq=>by rw[pQ.1 hq];exact⟨hz,.inl hb⟩,by simp⟩;have s37:S (st+1)=false:=by
    cases e:S (st+1)with
    | false=>rfl
    | true=>rw[hc _ tX e st (List.contains_iff_mem.1 m37)]at hS;cases hS
  have s38:S (st+2)=false:=by
    cases e:S (st+2)with
    | false=>rfl
    | true=>rw[hc _ tX e (st+1) (List.contains_iff_mem.1 m38)]at s37;cases s37
  refine does_dg (λ_ _ _=>True) .done (Eu hi hF oZ ((Bm hA).trans eb) ((Bm hv).trans ex) Yh (λw' hF' hs=>⟨trivial,Hc (Cc ?_)⟩) O O O (hw s));have eI:Lp H (MN st S) s=some (pV b):=by rw[<-ea];unfold Lp;rw[Qp tX]
  refine⟨h1,hF'.same,?_,λ_=>⟨b,eb,⟨x,hF'.heap (i:=0) O,hx.store hs (by simp[idA])⟩,hb⟩⟩;refine .cons (λh=>?_) (.cons (λh=>?_) (.cons (λh=>?_) (.cons (λh=>?_) (.cons (λh=>?_) .nil))))
  ·rw[Qp (by show p.1 ≠ st;omega)]at h
   have:=h3 k31 _ h31 h;rw[ea]at this;obtain⟨q,A,c,e,g1,g2⟩:=this;rw[eI];exact⟨q,A,c,e,g1.store hs (by simp[idA]),g2.store hs (by simp[idA])⟩
  ·rw[Qp (by show p.1 + 2 ≠ st;omega)]at h
   have:=h3 k33 _ h33 h;rw[ea]at this;obtain⟨A,c,e,g1⟩:=this;rw[eI];exact⟨A,c,e,g1.store hs (by simp[idA])⟩
  ·rw[Qp (by show p.1 + 3 ≠ st;omega)]at h
   exact h3 k34 _ h34 h
  ·rw[Qp (by show st + 1 ≠ st;omega)]at h
   rw[s37]at h;cases h
  rw[Qp (by show st + 2 ≠ st;omega)]at h;rw[s38]at h;cases h
end
abbrev nL(i:UInt8):List Value:=[J 3,I [i],aQ,aQ]
theorem Y1{w:World}:∀l:List UInt8,RepL (λ_=>True) w (Gd (l.map λi=>.node 3 [i] [] [])) (l.flatMap nL)
  | []=>RepL.nil_mk
  | i::l=>RepL.cons_mk (c1:=nL i) (Rep.tree_mk ⟨by decide,by decide⟩ Da (Rep.nil_slice 0 tX none) (Rep.nil_slice 0 tX none)) (Y1 l)
theorem strsR{w:World}:∀ks:List Str,(∀k∈ks,k.length<=9223372036854775807)->RepL (λ_=>True) w (ks.map Zo) (ks.map λk=>I k)
  | [],_=>RepL.nil_mk
  | k::ks,h=>RepL.cons_mk (Rep.lit_mk (v:=I k) (h k Da)) (strsR ks λx hx=>h x (by simp[hx]))
section
variable {n:Nat}{ops:List Oper}{Z:Nat->World->Prop}{w00 w:World}{sl:List (Nat × Value)}{H:Nat × Nat}{l:List Fact}{i k' d':Nat}{S:Nat->Bool}{s:Nat->Value}
theorem Nv{ds:List D}{N:Nat}{T:TypeId}{lv:List Value}(hI:IG Z w00 sl H l S s w)(hd:∀d∈Ah ops i,S d=true)(k:Nat)(hk:l[k]? = some (k',d',rowF N (.cells lv.toArray T)))(hm:(Ah ops i).contains k'=true)(hn:Nat.blt d' n=true)(hr:RepL (λ_=>True) w ds lv)(hN:ds.length=N)(hb:decide (N<=9)=true):CQ ds (ev n s (.tmp d')) w:=by
  rw[Bm hn];exact FY (hI.dep hd k hk hm) hr hN (by have:=of_decide_eq_true hb;omega)
theorem II{ds:List D}{A:Option Addr}{m c:Nat}(hI:IG Z w00 sl H l S s w)(hd:∀d∈Ah ops i,S d=true)(k:Nat)(hk:l[k]? = some (k',d',Il (.slice A m c)))(hm:(Ah ops i).contains k'=true)(hn:Nat.blt d' n=true)(hr:∀w,Same [] w00 w->Rep (λ_=>True) w (.slice ds) [.slice A m c]):CQ ds (ev n s (.tmp d')) w:=by
  rw[Bm hn];exact⟨A,m,c,hI.dep hd k hk hm,hr w hI.2.1⟩
theorem M4{Z1 Z2:Nat->World->Prop}{l1 l2:List Fact}{st N:Nat}(hs:AllEq s sl)(h:(decide (st<N)&&decide (H.1<N)&&l1.all λf=>decide (f.1<N))=true):Cz st (IG Z1 w sl H l1) (IG Z2 w sl H l2) (λi=>!decide (i<N)) s w:=by
  rw[Bool.and_eq_true,Bool.and_eq_true,decide_eq_true_eq,decide_eq_true_eq]at h;unfold Cz;rw[if_neg (by simp[h.1.1])];refine⟨hs,Same.refl _ _,λk f hf hS=>?_,λhA=>?_⟩
  ·have := of_decide_eq_true (List.all_eq_true.1 h.2 f (List.mem_of_getElem? hf))
   simp[this]at hS
  simp[h.1.2]at hA
theorem RG{J1 J2:(Nat->Bool)->(Nat->Value)->World->Prop}{st:Nat}(h:Cz st J1 J2 (λ_=>true) s w):J2 (λ_=>true) s w:=by
  unfold Cz at h
  rwa [if_pos rfl]at h
end
def sl7(b1:Nat)(b2:Nat):List (Nat × Value):=[(1,sV b1 10 10),(3,sV b2 2 2)]
def l7(u0:World)(own:List Nat)(b1 b2:Nat):List Fact:=[(0,27,Il (sV b2 2 2)),(1,28,Il (sV b1 10 10)),(2,29,Il (.pointer (some ⟨b1,4,none⟩))),(3,30,Il (.agg (nL 49).toArray)),(4,31,Il (sV b1 10 10)),(5,32,Il (.pointer (some ⟨b1,8,none⟩))),(6,33,Il (.agg (nL 50).toArray)),(7,34,rowF 2 (.cells (([49,50]:List UInt8).flatMap nL).toArray 25)),(8,35,Rw b1T),(9,36,Il (sV b2 2 2)),(10,37,Il (sV b1 10 10)),(11,38,Il (.pointer (some ⟨b1,20,none⟩))),(12,39,Il (.agg (nL 53).toArray)),(13,40,Il (sV b1 10 10)),(14,41,Il (.pointer (some ⟨b1,8,none⟩))),(15,42,Il (.agg (nL 50).toArray)),(16,43,rowF 2 (.cells (([53,50]:List UInt8).flatMap nL).toArray 25)),(17,44,Rw l1T),(18,45,rowF 3 (.cells (([[97],[98],[99]]:List Str).map λk=>I k).toArray 9)),(19,46,Il (sV b1 10 10)),(20,47,Il (.pointer (some ⟨b1,4,none⟩))),(21,48,Il (.agg (nL 49).toArray)),(22,49,Il (sV b1 10 10)),(23,50,Il (.pointer (some ⟨b1,8,none⟩))),(24,51,Il (.agg (nL 50).toArray)),(25,52,Il (sV b1 10 10)),(26,53,Il (.pointer (some ⟨b1,12,none⟩))),(27,54,Il (.agg (nL 51).toArray)),(28,55,rowF 3 (.cells (([49,50,51]:List UInt8).flatMap nL).toArray 25)),(29,56,Rw r1T),(30,57,NN u0 own EK []),(31,26,NN u0 own EK []),(32,58,mvF u0 own EK),(33,59,cfF u0 own []),(34,60,Il (J 0))]
theorem ph7{w0:World}{own:List Nat}{b1 b2:Nat}   : Ph Z1 (sl7 b1 b2) (35,4) (l7 w0 own b1 b2):=⟨by unfold l7;repeat (first|exact StabG.nil|refine StabG.cons ?_ ?_|exact Ev|exact CG|exact TG|exact I4|exact VO|exact Pv),by unfold l7;repeat (first|exact StabN.nil|refine StabN.cons ?_ ?_|exact Vv|exact DG|exact JI|exact V5|exact PQ|exact Jv),by kernel_rfl,by kernel_rfl,Z1_st⟩
theorem ph7b{w0:World}{own:List Nat}{b1 b2:Nat}   : Ph (Z2 w0 own EK) (sl7 b1 b2) (35,4) (l2 w0 own EK [] (31,26) 37 (59,60) 38 (5,6)):=⟨.cons I4 (.cons Pv (.cons Ev (.cons Pv (.cons Ev .nil)))),.cons V5 (.cons Jv (.cons Vv (.cons Jv (.cons Vv .nil)))),by kernel_rfl,by kernel_rfl,Z2_st⟩
def sl8(b1:Nat)(b2:Nat)(bt4:Nat)(A4c:Option Addr)(c4c:Nat):List (Nat × Value):=[(1,sV b1 10 10),(3,sV b2 2 2),(4,pV bt4),(5,.slice A4c 0 c4c),(6,J 0)]
def l8(u0:World)(own:List Nat)(b1 b2:Nat):List Fact:=[(0,62,Il (sV b2 2 2)),(1,63,Il (W b2 1 2)),(2,64,Il (sV b1 10 10)),(3,65,Il (.pointer (some ⟨b1,4,none⟩))),(4,66,Il (.agg (nL 49).toArray)),(5,67,rowF 1 (.cells (([49]:List UInt8).flatMap nL).toArray 25)),(6,68,Rw b2T),(7,69,Il (sV b2 2 2)),(8,70,Il (W b2 1 2)),(9,71,Il (sV b1 10 10)),(10,72,Il (.pointer (some ⟨b1,8,none⟩))),(11,73,Il (.agg (nL 50).toArray)),(12,74,rowF 1 (.cells (([50]:List UInt8).flatMap nL).toArray 25)),(13,75,Rw l2T),(14,76,Rw QO),(15,77,NN u0 own o2T [JX]),(16,61,NN u0 own o2T [JX]),(17,78,mvF u0 own o2T),(18,79,cfF u0 own [JX]),(19,80,Il (J 0))]
theorem ph8{w0:World}{own:List Nat}{b1 b2:Nat}   {bt4:Nat} {A4c:Option Addr} {c4c:Nat}:Ph Z1 (sl8 b1 b2 bt4 A4c c4c) (20,7) (l8 w0 own b1 b2):=⟨by unfold l8;repeat (first|exact StabG.nil|refine StabG.cons ?_ ?_|exact Ev|exact CG|exact TG|exact I4|exact VO|exact Pv),by unfold l8;repeat (first|exact StabN.nil|refine StabN.cons ?_ ?_|exact Vv|exact DG|exact JI|exact V5|exact PQ|exact Jv),by kernel_rfl,by kernel_rfl,Z1_st⟩
theorem ph8b{w0:World}{own:List Nat}{b1 b2:Nat}   {bt4:Nat} {A4c:Option Addr} {c4c:Nat}:Ph (Z2 w0 own o2T) (sl8 b1 b2 bt4 A4c c4c) (20,7) (l2 w0 own o2T [JX] (16,61) 22 (79,80) 23 (8,9)):=⟨.cons I4 (.cons Pv (.cons Ev (.cons Pv (.cons Ev .nil)))),.cons V5 (.cons Jv (.cons Vv (.cons Jv (.cons Vv .nil)))),by kernel_rfl,by kernel_rfl,Z2_st⟩
def sl9(b1:Nat)(bt4:Nat)(A4c:Option Addr)(c4c:Nat)(bt7:Nat)(A7c:Option Addr)(c7c:Nat):List (Nat × Value):=[(1,sV b1 10 10),(4,pV bt4),(5,.slice A4c 0 c4c),(6,J 0),(7,pV bt7),(8,.slice A7c 1 c7c),(9,J 0)]
def l9(u0:World)(own:List Nat)(b1 b2:Nat):List Fact:=[(0,82,Il (sV b1 10 10)),(1,83,Il (.pointer (some ⟨b1,4,none⟩))),(2,84,Il (.agg (nL 49).toArray)),(3,85,Il (sV b1 10 10)),(4,86,Il (.pointer (some ⟨b1,8,none⟩))),(5,87,Il (.agg (nL 50).toArray)),(6,88,rowF 2 (.cells (([49,50]:List UInt8).flatMap nL).toArray 25)),(7,89,Rw b3T),(8,90,Il (sV b1 10 10)),(9,91,Il (.pointer (some ⟨b1,4,none⟩))),(10,92,Il (.agg (nL 49).toArray)),(11,93,Il (sV b1 10 10)),(12,94,Il (.pointer (some ⟨b1,36,none⟩))),(13,95,Il (.agg (nL 57).toArray)),(14,96,Il (sV b1 10 10)),(15,97,Il (.pointer (some ⟨b1,8,none⟩))),(16,98,Il (.agg (nL 50).toArray)),(17,99,rowF 3 (.cells (([49,57,50]:List UInt8).flatMap nL).toArray 25)),(18,100,Rw l3T),(19,101,Il (sV b1 10 10)),(20,102,Il (.pointer (some ⟨b1,4,none⟩))),(21,103,Il (.agg (nL 49).toArray)),(22,104,Il (sV b1 10 10)),(23,105,Il (.pointer (some ⟨b1,8,none⟩))),(24,106,Il (.agg (nL 50).toArray)),(25,107,Il (sV b1 10 10)),(26,108,Il (.pointer (some ⟨b1,12,none⟩))),(27,109,Il (.agg (nL 51).toArray)),(28,110,rowF 3 (.cells (([49,50,51]:List UInt8).flatMap nL).toArray 25)),(29,111,Rw r3T),(30,112,NN u0 own PC []),(31,81,NN u0 own PC []),(32,113,mvF u0 own PC),(33,114,cfF u0 own []),(34,115,Il (J 0))]
theorem ph9{w0:World}{own:List Nat}{b1 b2:Nat}  {bt4:Nat} {A4c:Option Addr} {c4c:Nat} {bt7:Nat} {A7c:Option Addr} {c7c:Nat}:Ph Z1 (sl9 b1 bt4 A4c c4c bt7 A7c c7c) (35,10) (l9 w0 own b1 b2):=⟨by unfold l9;repeat (first|exact StabG.nil|refine StabG.cons ?_ ?_|exact Ev|exact CG|exact TG|exact I4|exact VO|exact Pv),by unfold l9;repeat (first|exact StabN.nil|refine StabN.cons ?_ ?_|exact Vv|exact DG|exact JI|exact V5|exact PQ|exact Jv),by kernel_rfl,by kernel_rfl,Z1_st⟩
theorem ph9b{w0:World}{own:List Nat}{b1 b2:Nat}  {bt4:Nat} {A4c:Option Addr} {c4c:Nat} {bt7:Nat} {A7c:Option Addr} {c7c:Nat}:Ph (Z2 w0 own PC) (sl9 b1 bt4 A4c c4c bt7 A7c c7c) (35,10) (l2 w0 own PC [] (31,81) 37 (114,115) 38 (11,12)):=⟨.cons I4 (.cons Pv (.cons Ev (.cons Pv (.cons Ev .nil)))),.cons V5 (.cons Jv (.cons Vv (.cons Jv (.cons Vv .nil)))),by kernel_rfl,by kernel_rfl,Z2_st⟩
theorem UW(w0:World)(hG:Gl w0):Calls prog 7 #[] w0 (Be λv w'=>v=.bool true/\Same [] w0 w'):=by
 refine Ga func7 O ntmps7 Ib (args_0) ?_;have hF:=FR.start w0 [];refine Ia (Ca (Jc O) (Lc ?_));refine Us (v:=λb=>sV b 10 10) (o:=.cells #[J 0,I [],aQ,aQ,J 0,I [],aQ,aQ,J 0,I [],aQ,aQ,J 0,I [],aQ,aQ,J 0,I [],aQ,aQ,J 0,I [],aQ,aQ,J 0,I [],aQ,aQ,J 0,I [],aQ,aQ,J 0,I [],aQ,aQ,J 0,I [],aQ,aQ] 25) hF (x_makeV (N:=10) (cs:=#[J 0,I [],aQ,aQ,J 0,I [],aQ,aQ,J 0,I [],aQ,aQ,J 0,I [],aQ,aQ,J 0,I [],aQ,aQ,J 0,I [],aQ,aQ,J 0,I [],aQ,aQ,J 0,I [],aQ,aQ,J 0,I [],aQ,aQ,J 0,I [],aQ,aQ]) (z:=.agg zA) Ar Ob Ob O O Pa Pa) ?_;rintro b1 w hb1 hF -;refine Ca (Nk O) (Ea (Ja (Ja ?_)));have hF:FR w0 [] [(b1,.cells (M7 0).toArray 25)] w:=NP▸hF;refine Fa (Ca (Yc O) (Ea (Za ?_)));refine Fd (λμ σ w=>∃(j:Nat),μ=10-j/\(j<=10)/\AllEq σ [(1,sV b1 10 10),(2,J ((j:Int)))]/\FR w0 [] [(b1,.cells (M7 j).toArray 25)] w) _ ⟨0,O,tX,GE,hF⟩ ?_;rintro μ σ w ⟨j,rfl,hj,hs,hF⟩;refine Cg.slots hs ?_;clear hs;intro σ;refine Ja (Ia (Ca (Vb O) (Ca (Hn O O) (Ea ?_))));refine Rc O O (λhc0=>?_) (λhc0=>?_);refine Va (Ha (Ja (Za (Fa (Ca (Je O) (Ca (Vb O) (Ca (Vb O) ?_)))))));refine Hb hF (num_c (j:Int) tX tX _ (hG.ext hF.same)) (Ra en_19 O O) ?_;intro w hF;refine Ma (v:=.pointer (some ⟨b1,j*4,none⟩)) (Jb (i:=(j:Int)) (j*4) Ae O O tX tX tX) ?_;refine Mg 0 (l:=numQ j) (cs':=(M7 (j+1)).toArray) hF oZ O (v:=.agg (numQ j).toArray) O O (by simp[one,numQ]) O (by rw[List.size_toArray,HX j tX];show j*4+4<=40;omega) (OV j tX) ?_;rintro w hF -;refine Gb (Fb (Ha (Fa (Ca (Vb O) (Ca (Sl (((j+1:Nat):Int)) O O) (Ca (Yc O) (Gb ?_)))))));refine Cc ⟨_,?_,j+1,O,tX,GE,hF⟩;omega;refine Wc (Vc O ?_);refine Ha (Ia ?_);obtain rfl:j=10:=by omega
 rw[MU]at hF;refine Us (v:=λb=>sV b 2 2) hF (Sa (cs:=kA2) cX vZ rX Pa Pa Ob) ?_;rintro b2 w hb2 hF -;refine Ca (Nk O) (Ea (Ja ?_));refine Mj (λσ w=>∃(q4:Tv),∃(A4c:Option Addr),∃(c4c:Nat),∃(bt4:Nat),(RX (wE w0) [bt4,b2,b1] w [Ub EK] q4.cells)/\AllEq σ [(1,sV b1 10 10),(3,sV b2 2 2),(4,pV bt4),(5,.slice A4c 0 c4c),(6,J 0)]/\FR w0 [] [(bt4,.cells (q4.cells).toArray 25),(b2,.cells kA2 9),(b1,.cells (List.toArray tenL) 25)] w) ?_ ?_;have hG0:=hG;have hF:=hF.drew;have hG:=hG0.ext hF.same;have hO:=VF hG0 hF;have hp:=@ph7 w0 [b2,b1] b1 b2;have hq:=@ph7b w0 [b2,b1] b1 b2;have hK2:∀w',Same [] w.drew w'->Rep (λ_=>True) w' (.slice (([[97],[98]]:List Str).map Zo)) [sV b2 2 2]:=λw' h=>(((hF.ext h).rowX (ids:=[]) (n:=2) 0 rfl (RX.strs (ks:=[[97],[98]]) Da) Da rfl tX).rep).weaken λ_ _ _=>trivial;refine c_all 39 (Inv:=Cz 36 (IG Z1 w.drew (sl7 b1 b2) (35,4) (l7 w0 [b2,b1] b1 b2)) (IG (Z2 w0 [b2,b1] EK) w.drew (sl7 b1 b2) (35,4) (l2 w0 [b2,b1] EK [] (31,26) 37 (59,60) 38 (5,6)))) Ob Ob ?_ ?_ ?_;exact M4 GE O;exact (below (below (below (below (below (below (below (below (below (below (below (below (below (below (below (below (below (below (below (below (below (below (below (below (below (below (below (below (below (below (below (below (below (below (below (below (below (below (below SO
 (.ahead (Ut hp 0 rfl rfl 1 rfl rfl)))
 (.ahead (Ut hp 1 rfl rfl 0 rfl rfl)))
 (.ahead (Ux hp 2 1 rfl rfl rfl Ae rfl rfl Pa Pa rfl)))
 (.ahead (Wx (lv:=nL 49) hp 3 2 rfl rfl rfl zQ oZ rfl rfl rfl λw h=>(hF.ext h).part 1 4 rfl rfl)))
 (.ahead (Ut hp 4 rfl rfl 0 rfl rfl)))
 (.ahead (Ux hp 5 4 rfl rfl rfl Ae rfl rfl Pa Pa rfl)))
 (.ahead (Wx (lv:=nL 50) hp 6 5 rfl rfl rfl zQ oZ rfl rfl rfl λw h=>(hF.ext h).part 1 8 rfl rfl)))
 (.ahead (MH [(30,.agg (nL 49).toArray),(33,.agg (nL 50).toArray)] hp 7 rfl rfl (λS s w hd hI=>⟨hI.dep hd 3 rfl rfl,hI.dep hd 6 rfl rfl,trivial⟩) λs w=>Sa dX oZ mX Pa Pa Ob)))
 (.ahead (Q5 hp 8 rfl rfl λS s w hd hI=>⟨II hI hd 0 rfl rfl rfl hK2,Nv hI hd 7 rfl rfl rfl (Y1 [49,50]) rfl rfl⟩)))
 (.ahead (Ut hp 9 rfl rfl 1 rfl rfl)))
 (.ahead (Ut hp 10 rfl rfl 0 rfl rfl)))
 (.ahead (Ux hp 11 10 rfl rfl rfl Ae rfl rfl Pa Pa rfl)))
 (.ahead (Wx (lv:=nL 53) hp 12 11 rfl rfl rfl zQ oZ rfl rfl rfl λw h=>(hF.ext h).part 1 20 rfl rfl)))
 (.ahead (Ut hp 13 rfl rfl 0 rfl rfl)))
 (.ahead (Ux hp 14 13 rfl rfl rfl Ae rfl rfl Pa Pa rfl)))
 (.ahead (Wx (lv:=nL 50) hp 15 14 rfl rfl rfl zQ oZ rfl rfl rfl λw h=>(hF.ext h).part 1 8 rfl rfl)))
 (.ahead (MH [(39,.agg (nL 53).toArray),(42,.agg (nL 50).toArray)] hp 16 rfl rfl (λS s w hd hI=>⟨hI.dep hd 12 rfl rfl,hI.dep hd 15 rfl rfl,trivial⟩) λs w=>Sa dX oZ mX Pa Pa Ob)))
 (.ahead (Q5 hp 17 rfl rfl λS s w hd hI=>⟨II hI hd 9 rfl rfl rfl hK2,Nv hI hd 16 rfl rfl rfl (Y1 [53,50]) rfl rfl⟩)))
 (.ahead (MH [] hp 18 rfl rfl (λS s w hd hI=>trivial) λs w=>Sa cX vZ rX Pa Pa Ob)))
 (.ahead (Ut hp 19 rfl rfl 0 rfl rfl)))
 (.ahead (Ux hp 20 19 rfl rfl rfl Ae rfl rfl Pa Pa rfl)))
 (.ahead (Wx (lv:=nL 49) hp 21 20 rfl rfl rfl zQ oZ rfl rfl rfl λw h=>(hF.ext h).part 1 4 rfl rfl)))
 (.ahead (Ut hp 22 rfl rfl 0 rfl rfl)))
 (.ahead (Ux hp 23 22 rfl rfl rfl Ae rfl rfl Pa Pa rfl)))
 (.ahead (Wx (lv:=nL 50) hp 24 23 rfl rfl rfl zQ oZ rfl rfl rfl λw h=>(hF.ext h).part 1 8 rfl rfl)))
 (.ahead (Ut hp 25 rfl rfl 0 rfl rfl)))
 (.ahead (Ux hp 26 25 rfl rfl rfl Ae rfl rfl Pa Pa rfl)))
 (.ahead (Wx (lv:=nL 51) hp 27 26 rfl rfl rfl zQ oZ rfl rfl rfl λw h=>(hF.ext h).part 1 12 rfl rfl)))
 (.ahead (MH [(48,.agg (nL 49).toArray),(51,.agg (nL 50).toArray),(54,.agg (nL 51).toArray)] hp 28 rfl rfl (λS s w hd hI=>⟨hI.dep hd 21 rfl rfl,hI.dep hd 24 rfl rfl,hI.dep hd 27 rfl rfl,trivial⟩) λs w=>Sa dX oZ mX Pa Pa Ob)))
 (.ahead (Q5 hp 29 rfl rfl λS s w hd hI=>⟨Nv hI hd 18 rfl rfl rfl (strsR [[97],[98],[99]] Da) rfl rfl,Nv hI hd 28 rfl rfl rfl (Y1 [49,50,51]) rfl rfl⟩)))
 (.ahead (st_mg hp 30 8 17 29 rfl rfl rfl rfl rfl rfl rfl rfl rfl rfl rfl mg_one Pa Pa Pa hG hO (λb w h=>Oa h))))
 (.ahead (g_cp hp 31 30 rfl rfl rfl rfl rfl)))
 (.ahead (LY hp 32 31 rfl rfl rfl rfl rfl)))
 (.both (VC hp 33 31 rfl rfl rfl rfl rfl) (VC hq 1 0 rfl rfl rfl rfl rfl) rfl))
 (.both (RE hp 34 31 rfl rfl rfl rfl rfl) (RE hq 2 0 rfl rfl rfl rfl rfl) rfl))
 (.ahead (g_al hp rfl mX rfl)))
 (XX 31 32 33 34 rfl rfl rfl rfl rfl rfl rfl))
 (.behind (JV hq 3 1 rfl rfl rfl rfl rfl)))
 (.behind (JV hq 4 2 rfl rfl rfl rfl rfl)))
 intro s w' hJ;obtain⟨h1,h2,h3,h4⟩:=RG hJ;obtain⟨bt,eb,⟨q,hq,hV⟩,hb⟩:=h4 rfl;have ea:Lp (35,4) (λ_=>true) s=some (pV bt):=by unfold Lp;rw[if_pos rfl];exact congrArg some eb
 obtain⟨A,c,e5,hC⟩:=h3 3 _ rfl rfl;have e6:=h3 4 _ rfl rfl;rw[ea]at hC;exact Cc ⟨q,A,c,bt,hV,⟨h1.1,h1.2.1,eb,e5,e6,trivial⟩,hF.cons_ext h2 hq hb⟩;rintro σ w ⟨q4,A4c,c4c,bt4,hV4,hs,hF⟩;refine Eg.slots hs ?_;clear hs;intro σ;refine Ha (Ja ?_);refine Mj (λσ w=>∃(q7:Tv),∃(A7c:Option Addr),∃(c7c:Nat),∃(bt7:Nat),(RX (wE w0) [bt7,bt4,b2,b1] w [Ub o2T] q7.cells)/\(RX (wE w0) [bt7,bt4,b2,b1] w [Ub EK] q4.cells)/\(RX (wE w0) [bt7,bt4,b2,b1] w [.slice ([JX].map RC)] [.slice A7c 1 c7c])/\AllEq σ [(1,sV b1 10 10),(4,pV bt4),(5,.slice A4c 0 c4c),(6,J 0),(7,pV bt7),(8,.slice A7c 1 c7c),(9,J 0)]/\FR w0 [] [(bt7,.cells (q7.cells).toArray 25),(bt4,.cells (q4.cells).toArray 25),(b2,.cells kA2 9),(b1,.cells (List.toArray tenL) 25)] w) ?_ ?_;have hG0:=hG;have hF:=hF.drew;have hG:=hG0.ext hF.same;have hO:=VF hG0 hF;have hp:=@ph8 w0 [bt4,b2,b1] b1 b2 bt4 A4c c4c;have hq:=@ph8b w0 [bt4,b2,b1] b1 b2 bt4 A4c c4c;have hK1:∀w',Same [] w.drew w'->Rep (λ_=>True) w' (.slice (([[97]]:List Str).map Zo)) [W b2 1 2]:=λw' h=>(((hF.ext h).rowF (i:=[]) (n:=1) (c:=2) 1 rfl (RX.strs (ks:=[[97]]) Da) rfl Da rfl tX tX).rep).weaken λ_ _ _=>trivial;refine c_all 24 (Inv:=Cz 21 (IG Z1 w.drew (sl8 b1 b2 bt4 A4c c4c) (20,7) (l8 w0 [bt4,b2,b1] b1 b2)) (IG (Z2 w0 [bt4,b2,b1] o2T) w.drew (sl8 b1 b2 bt4 A4c c4c) (20,7) (l2 w0 [bt4,b2,b1] o2T [JX] (16,61) 22 (79,80) 23 (8,9)))) Ob Ob ?_ ?_ ?_;exact M4 Jw O;exact (below (below (below (below (below (below (below (below (below (below (below (below (below (below (below (below (below (below (below (below (below (below (below (below SO
 (.ahead (Ut hp 0 rfl rfl 1 rfl rfl)))
 (.ahead (Ox hp 1 rfl rfl λS s w hd hI=>⟨_,w,U0 1 Zm ((Bm rfl).trans (hI.dep hd 0 rfl rfl)) rfl tX,Same.refl _ _,rfl⟩)))
 (.ahead (Ut hp 2 rfl rfl 0 rfl rfl)))
 (.ahead (Ux hp 3 2 rfl rfl rfl Ae rfl rfl Pa Pa rfl)))
 (.ahead (Wx (lv:=nL 49) hp 4 3 rfl rfl rfl zQ oZ rfl rfl rfl λw h=>(hF.ext h).part 2 4 rfl rfl)))
 (.ahead (MH [(66,.agg (nL 49).toArray)] hp 5 rfl rfl (λS s w hd hI=>⟨hI.dep hd 4 rfl rfl,trivial⟩) λs w=>Sa dX oZ mX Pa Pa Ob)))
 (.ahead (Q5 hp 6 rfl rfl λS s w hd hI=>⟨II hI hd 1 rfl rfl rfl hK1,Nv hI hd 5 rfl rfl rfl (Y1 [49]) rfl rfl⟩)))
 (.ahead (Ut hp 7 rfl rfl 1 rfl rfl)))
 (.ahead (Ox hp 8 rfl rfl λS s w hd hI=>⟨_,w,U0 1 Zm ((Bm rfl).trans (hI.dep hd 7 rfl rfl)) rfl tX,Same.refl _ _,rfl⟩)))
 (.ahead (Ut hp 9 rfl rfl 0 rfl rfl)))
 (.ahead (Ux hp 10 9 rfl rfl rfl Ae rfl rfl Pa Pa rfl)))
 (.ahead (Wx (lv:=nL 50) hp 11 10 rfl rfl rfl zQ oZ rfl rfl rfl λw h=>(hF.ext h).part 2 8 rfl rfl)))
 (.ahead (MH [(73,.agg (nL 50).toArray)] hp 12 rfl rfl (λS s w hd hI=>⟨hI.dep hd 11 rfl rfl,trivial⟩) λs w=>Sa dX oZ mX Pa Pa Ob)))
 (.ahead (Q5 hp 13 rfl rfl λS s w hd hI=>⟨II hI hd 8 rfl rfl rfl hK1,Nv hI hd 12 rfl rfl rfl (Y1 [50]) rfl rfl⟩)))
 (.ahead (Q5 hp 14 rfl rfl λS s w hd hI=>⟨ZM,ZM⟩)))
 (.ahead (st_mg hp 15 6 13 14 rfl rfl rfl rfl rfl rfl rfl rfl rfl rfl rfl mg_two Pa Pa Pa hG hO (λb w h=>Oa h))))
 (.ahead (g_cp hp 16 15 rfl rfl rfl rfl rfl)))
 (.ahead (LY hp 17 16 rfl rfl rfl rfl rfl)))
 (.both (VC hp 18 16 rfl rfl rfl rfl rfl) (VC hq 1 0 rfl rfl rfl rfl rfl) rfl))
 (.both (RE hp 19 16 rfl rfl rfl rfl rfl) (RE hq 2 0 rfl rfl rfl rfl rfl) rfl))
 (.ahead (g_al hp rfl mX rfl)))
 (XX 16 17 18 19 rfl rfl rfl rfl rfl rfl rfl))
 (.behind (JV hq 3 1 rfl rfl rfl rfl rfl)))
 (.behind (JV hq 4 2 rfl rfl rfl rfl rfl)))
 intro s w' hJ;obtain⟨h1,h2,h3,h4⟩:=RG hJ;obtain⟨bt,eb,⟨q,hq,hV⟩,hb⟩:=h4 rfl;have ea:Lp (20,7) (λ_=>true) s=some (pV bt):=by unfold Lp;rw[if_pos rfl];exact congrArg some eb
 obtain⟨A,c,e5,hC⟩:=h3 3 _ rfl rfl;have e6:=h3 4 _ rfl rfl;rw[ea]at hC;exact Cc ⟨q,A,c,bt,hV,(hV4.ext (Same.drew w)).push h2 hb,hC,⟨h1.1,h1.2.2.1,h1.2.2.2.1,h1.2.2.2.2.1,eb,e5,e6,trivial⟩,hF.cons_ext h2 hq hb⟩;rintro σ w ⟨q7,A7c,c7c,bt7,hV7,hV4,hC7,hs,hF⟩;refine Eg.slots hs ?_;clear hs;intro σ;refine Ha (Ja ?_);refine Mj (λσ w=>∃(q10:Tv),∃(A10c:Option Addr),∃(c10c:Nat),∃(bt10:Nat),(RX (wE w0) [bt10,bt7,bt4,b2,b1] w [Ub PC] q10.cells)/\(RX (wE w0) [bt10,bt7,bt4,b2,b1] w [Ub EK] q4.cells)/\(RX (wE w0) [bt10,bt7,bt4,b2,b1] w [Ub o2T] q7.cells)/\(RX (wE w0) [bt10,bt7,bt4,b2,b1] w [.slice ([JX].map RC)] [.slice A7c 1 c7c])/\AllEq σ [(1,sV b1 10 10),(4,pV bt4),(5,.slice A4c 0 c4c),(6,J 0),(7,pV bt7),(8,.slice A7c 1 c7c),(9,J 0),(10,pV bt10),(11,.slice A10c 0 c10c),(12,J 0)]/\FR w0 [] [(bt10,.cells (q10.cells).toArray 25),(bt7,.cells (q7.cells).toArray 25),(bt4,.cells (q4.cells).toArray 25),(b2,.cells kA2 9),(b1,.cells (List.toArray tenL) 25)] w) ?_ ?_;have hG0:=hG;have hF:=hF.drew;have hG:=hG0.ext hF.same;have hO:=VF hG0 hF;have hp:=@ph9 w0 [bt7,bt4,b2,b1] b1 b2 bt4 A4c c4c bt7 A7c c7c;have hq:=@ph9b w0 [bt7,bt4,b2,b1] b1 b2 bt4 A4c c4c bt7 A7c c7c;refine c_all 39 (Inv:=Cz 36 (IG Z1 w.drew (sl9 b1 bt4 A4c c4c bt7 A7c c7c) (35,10) (l9 w0 [bt7,bt4,b2,b1] b1 b2)) (IG (Z2 w0 [bt7,bt4,b2,b1] PC) w.drew (sl9 b1 bt4 A4c c4c bt7 A7c c7c) (35,10) (l2 w0 [bt7,bt4,b2,b1] PC [] (31,81) 37 (114,115) 38 (11,12)))) Ob Ob ?_ ?_ ?_;exact M4 AC O;exact (below (below (below (below (below (below (below (below (below (below (below (below (below (below (below (below (below (below (below (below (below (below (below (below (below (below (below (below (below (below (below (below (below (below (below (below (below (below (below SO
 (.ahead (Ut hp 0 rfl rfl 0 rfl rfl)))
 (.ahead (Ux hp 1 0 rfl rfl rfl Ae rfl rfl Pa Pa rfl)))
 (.ahead (Wx (lv:=nL 49) hp 2 1 rfl rfl rfl zQ oZ rfl rfl rfl λw h=>(hF.ext h).part 3 4 rfl rfl)))
 (.ahead (Ut hp 3 rfl rfl 0 rfl rfl)))
 (.ahead (Ux hp 4 3 rfl rfl rfl Ae rfl rfl Pa Pa rfl)))
 (.ahead (Wx (lv:=nL 50) hp 5 4 rfl rfl rfl zQ oZ rfl rfl rfl λw h=>(hF.ext h).part 3 8 rfl rfl)))
 (.ahead (MH [(84,.agg (nL 49).toArray),(87,.agg (nL 50).toArray)] hp 6 rfl rfl (λS s w hd hI=>⟨hI.dep hd 2 rfl rfl,hI.dep hd 5 rfl rfl,trivial⟩) λs w=>Sa dX oZ mX Pa Pa Ob)))
 (.ahead (SQ hp 7 rfl rfl λS s w hd hI=>Nv hI hd 6 rfl rfl rfl (Y1 [49,50]) rfl rfl)))
 (.ahead (Ut hp 8 rfl rfl 0 rfl rfl)))
 (.ahead (Ux hp 9 8 rfl rfl rfl Ae rfl rfl Pa Pa rfl)))
 (.ahead (Wx (lv:=nL 49) hp 10 9 rfl rfl rfl zQ oZ rfl rfl rfl λw h=>(hF.ext h).part 3 4 rfl rfl)))
 (.ahead (Ut hp 11 rfl rfl 0 rfl rfl)))
 (.ahead (Ux hp 12 11 rfl rfl rfl Ae rfl rfl Pa Pa rfl)))
 (.ahead (Wx (lv:=nL 57) hp 13 12 rfl rfl rfl zQ oZ rfl rfl rfl λw h=>(hF.ext h).part 3 36 rfl rfl)))
 (.ahead (Ut hp 14 rfl rfl 0 rfl rfl)))
 (.ahead (Ux hp 15 14 rfl rfl rfl Ae rfl rfl Pa Pa rfl)))
 (.ahead (Wx (lv:=nL 50) hp 16 15 rfl rfl rfl zQ oZ rfl rfl rfl λw h=>(hF.ext h).part 3 8 rfl rfl)))
 (.ahead (MH [(92,.agg (nL 49).toArray),(95,.agg (nL 57).toArray),(98,.agg (nL 50).toArray)] hp 17 rfl rfl (λS s w hd hI=>⟨hI.dep hd 10 rfl rfl,hI.dep hd 13 rfl rfl,hI.dep hd 16 rfl rfl,trivial⟩) λs w=>Sa dX oZ mX Pa Pa Ob)))
 (.ahead (SQ hp 18 rfl rfl λS s w hd hI=>Nv hI hd 17 rfl rfl rfl (Y1 [49,57,50]) rfl rfl)))
 (.ahead (Ut hp 19 rfl rfl 0 rfl rfl)))
 (.ahead (Ux hp 20 19 rfl rfl rfl Ae rfl rfl Pa Pa rfl)))
 (.ahead (Wx (lv:=nL 49) hp 21 20 rfl rfl rfl zQ oZ rfl rfl rfl λw h=>(hF.ext h).part 3 4 rfl rfl)))
 (.ahead (Ut hp 22 rfl rfl 0 rfl rfl)))
 (.ahead (Ux hp 23 22 rfl rfl rfl Ae rfl rfl Pa Pa rfl)))
 (.ahead (Wx (lv:=nL 50) hp 24 23 rfl rfl rfl zQ oZ rfl rfl rfl λw h=>(hF.ext h).part 3 8 rfl rfl)))
 (.ahead (Ut hp 25 rfl rfl 0 rfl rfl)))
 (.ahead (Ux hp 26 25 rfl rfl rfl Ae rfl rfl Pa Pa rfl)))
 (.ahead (Wx (lv:=nL 51) hp 27 26 rfl rfl rfl zQ oZ rfl rfl rfl λw h=>(hF.ext h).part 3 12 rfl rfl)))
 (.ahead (MH [(103,.agg (nL 49).toArray),(106,.agg (nL 50).toArray),(109,.agg (nL 51).toArray)] hp 28 rfl rfl (λS s w hd hI=>⟨hI.dep hd 21 rfl rfl,hI.dep hd 24 rfl rfl,hI.dep hd 27 rfl rfl,trivial⟩) λs w=>Sa dX oZ mX Pa Pa Ob)))
 (.ahead (SQ hp 29 rfl rfl λS s w hd hI=>Nv hI hd 28 rfl rfl rfl (Y1 [49,50,51]) rfl rfl)))
 (.ahead (st_mg hp 30 7 18 29 rfl rfl rfl rfl rfl rfl rfl rfl rfl rfl rfl mg_three Pa Pa Pa hG hO (λb w h=>Oa h))))
 (.ahead (g_cp hp 31 30 rfl rfl rfl rfl rfl)))
 (.ahead (LY hp 32 31 rfl rfl rfl rfl rfl)))
 (.both (VC hp 33 31 rfl rfl rfl rfl rfl) (VC hq 1 0 rfl rfl rfl rfl rfl) rfl))
 (.both (RE hp 34 31 rfl rfl rfl rfl rfl) (RE hq 2 0 rfl rfl rfl rfl rfl) rfl))
 (.ahead (g_al hp rfl mX rfl)))
 (XX 31 32 33 34 rfl rfl rfl rfl rfl rfl rfl))
 (.behind (JV hq 3 1 rfl rfl rfl rfl rfl)))
 (.behind (JV hq 4 2 rfl rfl rfl rfl rfl)))
 intro s w' hJ;obtain⟨h1,h2,h3,h4⟩:=RG hJ;obtain⟨bt,eb,⟨q,hq,hV⟩,hb⟩:=h4 rfl;have ea:Lp (35,10) (λ_=>true) s=some (pV bt):=by unfold Lp;rw[if_pos rfl];exact congrArg some eb
 obtain⟨A,c,e5,hC⟩:=h3 3 _ rfl rfl;have e6:=h3 4 _ rfl rfl;rw[ea]at hC;exact Cc ⟨q,A,c,bt,hV,(hV4.ext (Same.drew w)).push h2 hb,(hV7.ext (Same.drew w)).push h2 hb,(hC7.ext (Same.drew w)).push h2 hb,⟨h1.1,h1.2.1,h1.2.2.1,h1.2.2.2.1,h1.2.2.2.2.1,h1.2.2.2.2.2.1,h1.2.2.2.2.2.2.1,eb,e5,e6,trivial⟩,hF.cons_ext h2 hq hb⟩;rintro σ w ⟨q10,A10c,c10c,bt10,hV10,hV4,hV7,hC7,hs,hF⟩;refine Eg.slots hs ?_;clear hs;intro σ;refine Ha (Ia (Sc (Of zQ oZ O hF.F 1 O O) (Ca (Je O) ?_)));refine Us (v:=λb=>sV b 1 1) hF (Sa (cs:=#[J 2]) iX pZ nX Pa Pa Ob) ?_;intro b198 w hb198 hF hE;have hV4:=hV4.alloc hE hb198;have hV7:=hV7.alloc hE hb198;have hV10:=hV10.alloc hE hb198;have hC7:=hC7.alloc hE hb198;refine Db (QX [JX] [2] A7c (some ⟨b198,0,none⟩) c7c 1 _ _ o2T q7 _ _ hC7.rep (hF.rowS (S:=λ_=>False) 0 O (ds:=[2].map Kh) (n:=1) (RepL.cons_mk (c2:=[]) (Rep.lit_mk (v:=J 2) (show QF _ from⟨(by decide:(-9223372036854775808:Int)<=2),(by decide:(2:Int)<=9223372036854775807)⟩)) RepL.nil_mk) O tX) cfT_ok hV7.rep o2T_hol o2T_sz.1 o2T_sz.2 (hG.ext hF.same)) (Oc en_18 O O O O) ?_;rintro _ w ⟨q13,rfl,hR1,hE⟩;rw[ch_two]at hR1 ⊢;have hV13:=RX.made (w0:=w0) (ids:=[b198,bt10,bt7,bt4,b2,b1]) hF.same.size (λx hx=>hF.lt_ids (by simpa using hx)) hR1;have hF:=hF.ext hE;have hV4:=hV4.ext hE;have hV10:=hV10.ext hE;have hC7:=hC7.ext hE;clear hE hR1;refine Ca (So O) (Ca (Zz O O) (Ca (Sy O O) ?_));refine Qg hF mX oZ O ?_;intro b199 w hb199 hF hE;have hV4:=hV4.alloc hE hb199;have hV10:=hV10.alloc hE hb199;have hV13:=hV13.alloc hE hb199;have hC7:=hC7.alloc hE hb199;refine Ca (Yc O) (Ea (Ja ?_));obtain⟨adc,cq,hAc,hcq,hcf⟩:=hC7.rep.cf_elem (l:=[JX]) (i:=0) Da;obtain⟨pA,pn,pc,pk,px,py,pz⟩:=cq;have hpn:pn=([[97]]:List Str).length:=hcf.n;have hpk:pk=3:=hcf.k;subst hpn hpk;have hpp:=hcf.p
 clear hcf;refine c_drawM (bQ [0,1,2,3,4,5,6,7,8,10,11,12,13,14,15,16,17,18] (.alt 9 (cQ [19,20,21] (bQ [22,23,24,25,26,27,28,29,30,31,32,33,34,35] (.act 36 (bQ [37,38,39,40,41,42] (.alt 43 (.act 44 (.act 45 (bQ [46,47,48,49,50,51,52,53,54,55,56,57,58,59,60,61,62,63,64,65,66,67,68,69] (cQ [70,71,72] (bQ [73,74,75,76,77,78,79] (.act 80 (.act 81 (.free 82 (.free 83 .nil))))))))) (cQ [44,43,45] (bQ [46,47,48,49,50,51,52,53,54,55,56,57,58,59,60,61,62,63,64,65,66,67,68,69] (cQ [70,71,72] (bQ [73,74,75,76,77,78,79] (.act 80 (.act 81 (.free 82 (.free 83 .nil))))))))))))) (cQ [19,9,20,21] (bQ [22,23,24,25,26,27,28,29,30,31,32,33,34,35] (.act 36 (bQ [37,38,39,40,41,42] (.alt 43 (.act 44 (.act 45 (bQ [46,47,48,49,50,51,52,53,54,55,56,57,58,59,60,61,62,63,64,65,66,67,68,69] (cQ [70,71,72] (bQ [73,74,75,76,77,78,79] (.act 80 (.act 81 (.free 82 (.free 83 .nil))))))))) (cQ [44,43,45] (bQ [46,47,48,49,50,51,52,53,54,55,56,57,58,59,60,61,62,63,64,65,66,67,68,69] (cQ [70,71,72] (bQ [73,74,75,76,77,78,79] (.act 80 (.act 81 (.free 82 (.free 83 .nil))))))))))))))) hF ?_;intro w hF hE;have hV4:=hV4.ext hE;have hV10:=hV10.ext hE;have hV13:=hV13.ext hE;have hcq:=Cd hcq hE;have hpp:=hpp.ext hE;refine⟨λwq=>FR w0 [] _ wq,hF,?_⟩;refine Cb O (Vb O) (Qa O (v:=.bool true) (λw hC=>Ve (Xi O O) Pa) (Cb O (Hd O) (Cb O (Je O) (Cb O (Tf gX O) (Qa O (v:=.bool true) (λw hC=>Ve (Xi O O) Pa) (Cb O (Kc O O) (Cb O (Hd O) (Wj O (Of zQ oZ O C0 4 O O) (Cb O (Je O) (Qa O (v:=.pointer (some ⟨b1,20,none⟩)) (λw hC=>Jb (i:=5) 20 Ae O O Pa Pa O) (Qa O (λw hC=>Ya (l:=[J 3,I [53],aQ,aQ]) zQ oZ O O (hC.part 6 20 O O)) (Cb O (Je O) (Qa O (v:=.pointer (some ⟨b1,8,none⟩)) (λw hC=>Jb (i:=2) 8 Ae O O Pa Pa O) ?_)))))))))))));refine Qa O (λw hC=>Ya (l:=[J 3,I [50],aQ,aQ]) zQ oZ O O (hC.part 6 8 O O)) (Cb O (Je O) (Qa O (v:=.pointer (some ⟨b1,12,none⟩)) (λw hC=>Jb (i:=3) 12 Ae O O Pa Pa O) (Qa O (λw hC=>Ya (l:=[J 3,I [51],aQ,aQ]) zQ oZ O O (hC.part 6 12 O O)) ?_)))
 refine Qf ?_ ?_;refine Af O (v:=λb=>sV b 3 3) hF (Sa (cs:=kA3) cX vZ rX Pa Pa Ob) ?_;intro b200 w hb200 hF hE;have hV4:=hV4.alloc hE hb200;have hV10:=hV10.alloc hE hb200;have hV13:=hV13.alloc hE hb200;have hcq:=Cd hcq hE;have hpp:=hpp.ext hE;refine⟨hF.drop 1,?_⟩;refine Af O (v:=λb=>sV b 3 3) hF (Sa (cs:=(nA3 53 50 51)) dX oZ mX Pa Pa Ob) ?_;intro b201 w hb201 hF hE;have hV4:=hV4.alloc hE hb201;have hV10:=hV10.alloc hE hb201;have hV13:=hV13.alloc hE hb201;have hcq:=Cd hcq hE;have hpp:=hpp.ext hE;refine⟨hF.drop 2,?_⟩;refine Qb O (QA (some ⟨b200,0,none⟩) 3 3 (some ⟨b201,0,none⟩) 3 3 _) (Xa HA O O O) ?_;rintro _ w ⟨rfl,hE⟩;have hF:=hF.ext hE;have hV4:=hV4.ext hE;have hV10:=hV10.ext hE;have hV13:=hV13.ext hE;have hcq:=Cd hcq hE;have hpp:=hpp.ext hE;refine⟨hF.drop 2,?_⟩;refine Qb O (Ng (v':=.bool true) (Xp EK EK _ _ _ _ _ hV4.rep (show RX w0 [] _ [Ub EK] [J 6,I [],sV b200 3 3,sV b201 3 3] from RX.tree ⟨by omega,by omega⟩ Da (hF.rowX 1 O (RX.strs (ks:=[[97],[98],[99]]) Da) Da O tX) (hF.rowX 0 O ((RX.append (ds:=[_]) (RX.num _ Da) (RX.append (ds:=[_]) (RX.num _ Da) (RX.num _ Da)))) Da O tX)).rep) (congrArg Value.bool (Nh _))) (Xa Px O O O) ?_;rintro _ w ⟨rfl,hE⟩;have hF:=hF.ext hE;have hV4:=hV4.ext hE;have hV10:=hV10.ext hE;have hV13:=hV13.ext hE;have hcq:=Cd hcq hE;have hpp:=hpp.ext hE;refine⟨hF.drop 2,?_⟩;refine Cb O (Kc O O) (Cb O (Hd O) (Cb O (Vb O) (Qa O (v:=.bool true) (λw hC=>Ve (Xi O O) Pa) (Cb O (Kc O O) (Cb O (Hd O) (Cb O (Je O) (Cb O (Tf gX O) (Qa O (v:=.bool true) (λw hC=>Ve (Xi O O) Pa) (Cb O (Kc O O) (Cb O (Hd O) (Cb O (Je O) (Qa O (v:=.pointer (some (adc.add (0*17)))) (λw hC=>Ta (i:=0) R2 O hAc O tX tX) (Qa O (v:=.pointer (some ((adc.add (0*17)).add 1))) (λw hC=>Vg (a:=adc.add (0*17)) L8 O) ?_)))))))))))))
 refine Le O (v:=J 3) (Pb aZ O (hcq 1 Da)) (hF.mid 2 7) (Qa O (v:=.bool true) (λw hC=>Ve (Xi O O) Pa) (Cb O (Kc O O) (Cb O (Hd O) (Cb O (Je O) (Qa O (v:=.pointer (some (adc.add (0*17)))) (λw hC=>Ta (i:=0) R2 O hAc O tX tX) (Qa O (v:=.pointer (some ((adc.add (0*17)).add 0))) (λw hC=>Vg (a:=adc.add (0*17)) I8 O) ?_))))));refine Qf ?_ ?_;refine Le O (v:=.slice (pA) (([[97]]:List Str).length) (pc)) (Pb wQ O (hcq 0 Da)) (hF.mid 2 7) (Af O (v:=λb=>sV b 1 1) hF (Sa (cs:=#[I [97]]) cX vZ rX Pa Pa Ob) ?_);intro b202 w hb202 hF hE;have hV4:=hV4.alloc hE hb202;have hV10:=hV10.alloc hE hb202;have hV13:=hV13.alloc hE hb202;have hcq:=Cd hcq hE;have hpp:=hpp.ext hE;refine⟨hF.drop 3,?_⟩;refine Qb O (Ng (v':=.bool true) (B3 [[97]] [[97]] pA (some ⟨b202,0,none⟩) pc 1 _ _ _ hpp (show RX w0 [] _ [Ud [[97]]] _ from hF.rowX 0 (n:=1) O (RX.strs (ks:=[[97]]) Da) Da O tX).rep) (congrArg Value.bool (decide_eq_true O))) (Xa WS O O O) ?_;rintro _ w ⟨rfl,hE⟩;have hF:=hF.ext hE;have hV4:=hV4.ext hE;have hV10:=hV10.ext hE;have hV13:=hV13.ext hE;have hcq:=Cd hcq hE;have hpp:=hpp.ext hE;refine⟨hF.drop 3,?_⟩;refine Cb O (Kc O O) (Cb O (Hd O) (Cb O (Vb O) (Qa O (v:=.bool true) (λw hC=>Ve (Xi O O) Pa) (Cb O (Kc O O) (Cb O (Hd O) (Cb O (Je O) (Cb O (Tf gX O) (Qa O (v:=.bool true) (λw hC=>Ve (Xi O O) Pa) (Cb O (Kc O O) (Cb O (Hd O) (Wj O (Of zQ oZ O C0 2 O O) (Cb O (Je O) (Qa O (v:=.pointer (some ⟨b1,4,none⟩)) (λw hC=>Jb (i:=1) 4 Ae O O Pa Pa O) ?_)))))))))))));refine Qa O (λw hC=>Ya (l:=[J 3,I [49],aQ,aQ]) zQ oZ O O (hC.part 6 4 O O)) (Cb O (Je O) (Qa O (v:=.pointer (some ⟨b1,36,none⟩)) (λw hC=>Jb (i:=9) 36 Ae O O Pa Pa O) (Qa O (λw hC=>Ya (l:=[J 3,I [57],aQ,aQ]) zQ oZ O O (hC.part 6 36 O O)) (Cb O (Je O) (Qa O (v:=.pointer (some ⟨b1,8,none⟩)) (λw hC=>Jb (i:=2) 8 Ae O O Pa Pa O) (Qa O (λw hC=>Ya (l:=[J 3,I [50],aQ,aQ]) zQ oZ O O (hC.part 6 8 O O)) (Cb O (Je O) (Qa O (v:=.pointer (some ⟨b1,12,none⟩)) (λw hC=>Jb (i:=3) 12 Ae O O Pa Pa O) (Qa O (λw hC=>Ya (l:=[J 3,I [51],aQ,aQ]) zQ oZ O O (hC.part 6 12 O O)) ?_)))))))))
 refine Af O (v:=λb=>sV b 4 4) hF (Sa (cs:=(nA4 49 57 50 51)) dX oZ mX Pa Pa Ob) ?_;intro b203 w hb203 hF hE;have hV4:=hV4.alloc hE hb203;have hV10:=hV10.alloc hE hb203;have hV13:=hV13.alloc hE hb203;have hcq:=Cd hcq hE;have hpp:=hpp.ext hE;refine⟨hF.drop 4,?_⟩;refine Qb O (LK (some ⟨b203,0,none⟩) 4 4 _) (Ra VM O O) ?_;rintro _ w ⟨rfl,hE⟩;have hF:=hF.ext hE;have hV4:=hV4.ext hE;have hV10:=hV10.ext hE;have hV13:=hV13.ext hE;have hcq:=Cd hcq hE;have hpp:=hpp.ext hE;refine⟨hF.drop 4,?_⟩;refine Qb O (Ng (v':=.bool true) (Xp PC PC _ _ _ _ _ hV10.rep (show RX w0 [] _ [Ub PC] [J 5,I [],aQ,sV b203 4 4] from RX.tree ⟨by omega,by omega⟩ Da (RX.nils) (hF.rowX 0 O ((RX.append (ds:=[_]) (RX.num _ Da) (RX.append (ds:=[_]) (RX.num _ Da) (RX.append (ds:=[_]) (RX.num _ Da) (RX.num _ Da))))) Da O tX)).rep) (congrArg Value.bool (Nh _))) (Xa Px O O O) ?_;rintro _ w ⟨rfl,hE⟩;have hF:=hF.ext hE;have hV4:=hV4.ext hE;have hV10:=hV10.ext hE;have hV13:=hV13.ext hE;have hcq:=Cd hcq hE;have hpp:=hpp.ext hE;refine⟨hF.drop 4,?_⟩;refine Cb O (Kc O O) (Cb O (Hd O) (Cb O (Vb O) (Qa O (v:=.bool true) (λw hC=>Ve (Xi O O) Pa) (Cb O (Kc O O) (Cb O (Hd O) (Wj O (Of zQ oZ O C0 0 O O) ?_))))));refine Qb O (QA (none) 0 0 (none) 0 0 _) (Xa HA O O O) ?_;rintro _ w ⟨rfl,hE⟩;have hF:=hF.ext hE;have hV4:=hV4.ext hE;have hV10:=hV10.ext hE;have hV13:=hV13.ext hE;have hcq:=Cd hcq hE;have hpp:=hpp.ext hE;refine⟨hF.drop 4,?_⟩;refine Qb O (Ng (v':=.bool true) (Xp QO QO _ _ _ _ _ hV13.rep (show RX w0 [] _ [Ub QO] [J 6,I [],aQ,aQ] from RX.tree ⟨by omega,by omega⟩ Da (RX.nils) (RX.nils)).rep) (congrArg Value.bool (Nh _))) (Xa Px O O O) ?_;rintro _ w ⟨rfl,hE⟩;have hF:=hF.ext hE;have hV4:=hV4.ext hE;have hV10:=hV10.ext hE;have hV13:=hV13.ext hE
 have hcq:=Cd hcq hE;have hpp:=hpp.ext hE;refine⟨hF.drop 4,?_⟩;refine Cb O (Kc O O) (Cb O (Jc O) (Hc (Ha ?_)));refine Rd (v:=.bool true) O O ?_;exact⟨O,hF.same⟩;refine Af O (v:=λb=>sV b 1 1) hF (Sa (cs:=#[I [97]]) cX vZ rX Pa Pa Ob) ?_;intro b204 w hb204 hF hE;have hV4:=hV4.alloc hE hb204;have hV10:=hV10.alloc hE hb204;have hV13:=hV13.alloc hE hb204;have hcq:=Cd hcq hE;have hpp:=hpp.ext hE;refine⟨hF.drop 3,?_⟩;refine Le O (v:=.slice (pA) (([[97]]:List Str).length) (pc)) (Pb wQ O (hcq 0 Da)) (hF.mid 3 7) (Qb O (Ng (v':=.bool true) (B3 [[97]] [[97]] pA (some ⟨b204,0,none⟩) pc 1 _ _ _ hpp (show RX w0 [] _ [Ud [[97]]] _ from hF.rowX 0 (n:=1) O (RX.strs (ks:=[[97]]) Da) Da O tX).rep) (congrArg Value.bool (decide_eq_true O))) (Xa WS O O O) ?_);rintro _ w ⟨rfl,hE⟩;have hF:=hF.ext hE;have hV4:=hV4.ext hE;have hV10:=hV10.ext hE;have hV13:=hV13.ext hE;have hcq:=Cd hcq hE;have hpp:=hpp.ext hE;refine⟨hF.drop 3,?_⟩;refine Cb O (Kc O O) (Cb O (Hd O) (Cb O (Vb O) (Qa O (v:=.bool true) (λw hC=>Ve (Xi O O) Pa) (Cb O (Kc O O) (Cb O (Hd O) (Cb O (Je O) (Cb O (Tf gX O) (Qa O (v:=.bool true) (λw hC=>Ve (Xi O O) Pa) (Cb O (Kc O O) (Cb O (Hd O) (Wj O (Of zQ oZ O C0 2 O O) (Cb O (Je O) (Qa O (v:=.pointer (some ⟨b1,4,none⟩)) (λw hC=>Jb (i:=1) 4 Ae O O Pa Pa O) ?_)))))))))))));refine Qa O (λw hC=>Ya (l:=[J 3,I [49],aQ,aQ]) zQ oZ O O (hC.part 6 4 O O)) (Cb O (Je O) (Qa O (v:=.pointer (some ⟨b1,36,none⟩)) (λw hC=>Jb (i:=9) 36 Ae O O Pa Pa O) (Qa O (λw hC=>Ya (l:=[J 3,I [57],aQ,aQ]) zQ oZ O O (hC.part 6 36 O O)) (Cb O (Je O) (Qa O (v:=.pointer (some ⟨b1,8,none⟩)) (λw hC=>Jb (i:=2) 8 Ae O O Pa Pa O) (Qa O (λw hC=>Ya (l:=[J 3,I [50],aQ,aQ]) zQ oZ O O (hC.part 6 8 O O)) (Cb O (Je O) (Qa O (v:=.pointer (some ⟨b1,12,none⟩)) (λw hC=>Jb (i:=3) 12 Ae O O Pa Pa O) (Qa O (λw hC=>Ya (l:=[J 3,I [51],aQ,aQ]) zQ oZ O O (hC.part 6 12 O O)) ?_)))))))))
 refine Af O (v:=λb=>sV b 4 4) hF (Sa (cs:=(nA4 49 57 50 51)) dX oZ mX Pa Pa Ob) ?_;intro b205 w hb205 hF hE;have hV4:=hV4.alloc hE hb205;have hV10:=hV10.alloc hE hb205;have hV13:=hV13.alloc hE hb205;have hcq:=Cd hcq hE;have hpp:=hpp.ext hE;refine⟨hF.drop 4,?_⟩;refine Qb O (LK (some ⟨b205,0,none⟩) 4 4 _) (Ra VM O O) ?_;rintro _ w ⟨rfl,hE⟩;have hF:=hF.ext hE;have hV4:=hV4.ext hE;have hV10:=hV10.ext hE;have hV13:=hV13.ext hE;have hcq:=Cd hcq hE;have hpp:=hpp.ext hE;refine⟨hF.drop 4,?_⟩;refine Qb O (Ng (v':=.bool true) (Xp PC PC _ _ _ _ _ hV10.rep (show RX w0 [] _ [Ub PC] [J 5,I [],aQ,sV b205 4 4] from RX.tree ⟨by omega,by omega⟩ Da (RX.nils) (hF.rowX 0 O ((RX.append (ds:=[_]) (RX.num _ Da) (RX.append (ds:=[_]) (RX.num _ Da) (RX.append (ds:=[_]) (RX.num _ Da) (RX.num _ Da))))) Da O tX)).rep) (congrArg Value.bool (Nh _))) (Xa Px O O O) ?_;rintro _ w ⟨rfl,hE⟩;have hF:=hF.ext hE;have hV4:=hV4.ext hE;have hV10:=hV10.ext hE;have hV13:=hV13.ext hE;have hcq:=Cd hcq hE;have hpp:=hpp.ext hE;refine⟨hF.drop 4,?_⟩;refine Cb O (Kc O O) (Cb O (Hd O) (Cb O (Vb O) (Qa O (v:=.bool true) (λw hC=>Ve (Xi O O) Pa) (Cb O (Kc O O) (Cb O (Hd O) (Wj O (Of zQ oZ O C0 0 O O) ?_))))));refine Qb O (QA (none) 0 0 (none) 0 0 _) (Xa HA O O O) ?_;rintro _ w ⟨rfl,hE⟩;have hF:=hF.ext hE;have hV4:=hV4.ext hE;have hV10:=hV10.ext hE;have hV13:=hV13.ext hE;have hcq:=Cd hcq hE;have hpp:=hpp.ext hE;refine⟨hF.drop 4,?_⟩;refine Qb O (Ng (v':=.bool true) (Xp QO QO _ _ _ _ _ hV13.rep (show RX w0 [] _ [Ub QO] [J 6,I [],aQ,aQ] from RX.tree ⟨by omega,by omega⟩ Da (RX.nils) (RX.nils)).rep) (congrArg Value.bool (Nh _))) (Xa Px O O O) ?_;rintro _ w ⟨rfl,hE⟩;have hF:=hF.ext hE;have hV4:=hV4.ext hE;have hV10:=hV10.ext hE;have hV13:=hV13.ext hE
 have hcq:=Cd hcq hE;have hpp:=hpp.ext hE;refine⟨hF.drop 4,?_⟩;refine Cb O (Kc O O) (Cb O (Jc O) (Hc (Ha ?_)));refine Rd (v:=.bool true) O O ?_;exact⟨O,hF.same⟩;refine Af O (v:=λb=>sV b 3 3) hF (Sa (cs:=(nA3 53 50 51)) dX oZ mX Pa Pa Ob) ?_;intro b206 w hb206 hF hE;have hV4:=hV4.alloc hE hb206;have hV10:=hV10.alloc hE hb206;have hV13:=hV13.alloc hE hb206;have hcq:=Cd hcq hE;have hpp:=hpp.ext hE;refine⟨hF.drop 1,?_⟩;refine Af O (v:=λb=>sV b 3 3) hF (Sa (cs:=kA3) cX vZ rX Pa Pa Ob) ?_;intro b207 w hb207 hF hE;have hV4:=hV4.alloc hE hb207;have hV10:=hV10.alloc hE hb207;have hV13:=hV13.alloc hE hb207;have hcq:=Cd hcq hE;have hpp:=hpp.ext hE;refine⟨hF.drop 2,?_⟩;refine Qb O (QA (some ⟨b207,0,none⟩) 3 3 (some ⟨b206,0,none⟩) 3 3 _) (Xa HA O O O) ?_;rintro _ w ⟨rfl,hE⟩;have hF:=hF.ext hE;have hV4:=hV4.ext hE;have hV10:=hV10.ext hE;have hV13:=hV13.ext hE;have hcq:=Cd hcq hE;have hpp:=hpp.ext hE;refine⟨hF.drop 2,?_⟩;refine Qb O (Ng (v':=.bool true) (Xp EK EK _ _ _ _ _ hV4.rep (show RX w0 [] _ [Ub EK] [J 6,I [],sV b207 3 3,sV b206 3 3] from RX.tree ⟨by omega,by omega⟩ Da (hF.rowX 0 O (RX.strs (ks:=[[97],[98],[99]]) Da) Da O tX) (hF.rowX 1 O ((RX.append (ds:=[_]) (RX.num _ Da) (RX.append (ds:=[_]) (RX.num _ Da) (RX.num _ Da)))) Da O tX)).rep) (congrArg Value.bool (Nh _))) (Xa Px O O O) ?_;rintro _ w ⟨rfl,hE⟩;have hF:=hF.ext hE;have hV4:=hV4.ext hE;have hV10:=hV10.ext hE;have hV13:=hV13.ext hE;have hcq:=Cd hcq hE;have hpp:=hpp.ext hE;refine⟨hF.drop 2,?_⟩;refine Cb O (Kc O O) (Cb O (Hd O) (Cb O (Vb O) (Qa O (v:=.bool true) (λw hC=>Ve (Xi O O) Pa) (Cb O (Kc O O) (Cb O (Hd O) (Cb O (Je O) (Cb O (Tf gX O) (Qa O (v:=.bool true) (λw hC=>Ve (Xi O O) Pa) (Cb O (Kc O O) (Cb O (Hd O) (Cb O (Je O) (Qa O (v:=.pointer (some (adc.add (0*17)))) (λw hC=>Ta (i:=0) R2 O hAc O tX tX) (Qa O (v:=.pointer (some ((adc.add (0*17)).add 1))) (λw hC=>Vg (a:=adc.add (0*17)) L8 O) ?_)))))))))))))
 refine Le O (v:=J 3) (Pb aZ O (hcq 1 Da)) (hF.mid 2 7) (Qa O (v:=.bool true) (λw hC=>Ve (Xi O O) Pa) (Cb O (Kc O O) (Cb O (Hd O) (Cb O (Je O) (Qa O (v:=.pointer (some (adc.add (0*17)))) (λw hC=>Ta (i:=0) R2 O hAc O tX tX) (Qa O (v:=.pointer (some ((adc.add (0*17)).add 0))) (λw hC=>Vg (a:=adc.add (0*17)) I8 O) ?_))))));refine Qf ?_ ?_;refine Le O (v:=.slice (pA) (([[97]]:List Str).length) (pc)) (Pb wQ O (hcq 0 Da)) (hF.mid 2 7) (Af O (v:=λb=>sV b 1 1) hF (Sa (cs:=#[I [97]]) cX vZ rX Pa Pa Ob) ?_);intro b208 w hb208 hF hE;have hV4:=hV4.alloc hE hb208;have hV10:=hV10.alloc hE hb208;have hV13:=hV13.alloc hE hb208;have hcq:=Cd hcq hE;have hpp:=hpp.ext hE;refine⟨hF.drop 3,?_⟩;refine Qb O (Ng (v':=.bool true) (B3 [[97]] [[97]] pA (some ⟨b208,0,none⟩) pc 1 _ _ _ hpp (show RX w0 [] _ [Ud [[97]]] _ from hF.rowX 0 (n:=1) O (RX.strs (ks:=[[97]]) Da) Da O tX).rep) (congrArg Value.bool (decide_eq_true O))) (Xa WS O O O) ?_;rintro _ w ⟨rfl,hE⟩;have hF:=hF.ext hE;have hV4:=hV4.ext hE;have hV10:=hV10.ext hE;have hV13:=hV13.ext hE;have hcq:=Cd hcq hE;have hpp:=hpp.ext hE;refine⟨hF.drop 3,?_⟩;refine Cb O (Kc O O) (Cb O (Hd O) (Cb O (Vb O) (Qa O (v:=.bool true) (λw hC=>Ve (Xi O O) Pa) (Cb O (Kc O O) (Cb O (Hd O) (Cb O (Je O) (Cb O (Tf gX O) (Qa O (v:=.bool true) (λw hC=>Ve (Xi O O) Pa) (Cb O (Kc O O) (Cb O (Hd O) (Wj O (Of zQ oZ O C0 2 O O) (Cb O (Je O) (Qa O (v:=.pointer (some ⟨b1,4,none⟩)) (λw hC=>Jb (i:=1) 4 Ae O O Pa Pa O) ?_)))))))))))));refine Qa O (λw hC=>Ya (l:=[J 3,I [49],aQ,aQ]) zQ oZ O O (hC.part 6 4 O O)) (Cb O (Je O) (Qa O (v:=.pointer (some ⟨b1,36,none⟩)) (λw hC=>Jb (i:=9) 36 Ae O O Pa Pa O) (Qa O (λw hC=>Ya (l:=[J 3,I [57],aQ,aQ]) zQ oZ O O (hC.part 6 36 O O)) (Cb O (Je O) (Qa O (v:=.pointer (some ⟨b1,8,none⟩)) (λw hC=>Jb (i:=2) 8 Ae O O Pa Pa O) (Qa O (λw hC=>Ya (l:=[J 3,I [50],aQ,aQ]) zQ oZ O O (hC.part 6 8 O O)) (Cb O (Je O) (Qa O (v:=.pointer (some ⟨b1,12,none⟩)) (λw hC=>Jb (i:=3) 12 Ae O O Pa Pa O) (Qa O (λw hC=>Ya (l:=[J 3,I [51],aQ,aQ]) zQ oZ O O (hC.part 6 12 O O)) ?_)))))))))
 refine Af O (v:=λb=>sV b 4 4) hF (Sa (cs:=(nA4 49 57 50 51)) dX oZ mX Pa Pa Ob) ?_;intro b209 w hb209 hF hE;have hV4:=hV4.alloc hE hb209;have hV10:=hV10.alloc hE hb209;have hV13:=hV13.alloc hE hb209;have hcq:=Cd hcq hE;have hpp:=hpp.ext hE;refine⟨hF.drop 4,?_⟩;refine Qb O (LK (some ⟨b209,0,none⟩) 4 4 _) (Ra VM O O) ?_;rintro _ w ⟨rfl,hE⟩;have hF:=hF.ext hE;have hV4:=hV4.ext hE;have hV10:=hV10.ext hE;have hV13:=hV13.ext hE;have hcq:=Cd hcq hE;have hpp:=hpp.ext hE;refine⟨hF.drop 4,?_⟩;refine Qb O (Ng (v':=.bool true) (Xp PC PC _ _ _ _ _ hV10.rep (show RX w0 [] _ [Ub PC] [J 5,I [],aQ,sV b209 4 4] from RX.tree ⟨by omega,by omega⟩ Da (RX.nils) (hF.rowX 0 O ((RX.append (ds:=[_]) (RX.num _ Da) (RX.append (ds:=[_]) (RX.num _ Da) (RX.append (ds:=[_]) (RX.num _ Da) (RX.num _ Da))))) Da O tX)).rep) (congrArg Value.bool (Nh _))) (Xa Px O O O) ?_;rintro _ w ⟨rfl,hE⟩;have hF:=hF.ext hE;have hV4:=hV4.ext hE;have hV10:=hV10.ext hE;have hV13:=hV13.ext hE;have hcq:=Cd hcq hE;have hpp:=hpp.ext hE;refine⟨hF.drop 4,?_⟩;refine Cb O (Kc O O) (Cb O (Hd O) (Cb O (Vb O) (Qa O (v:=.bool true) (λw hC=>Ve (Xi O O) Pa) (Cb O (Kc O O) (Cb O (Hd O) (Wj O (Of zQ oZ O C0 0 O O) ?_))))));refine Qb O (QA (none) 0 0 (none) 0 0 _) (Xa HA O O O) ?_;rintro _ w ⟨rfl,hE⟩;have hF:=hF.ext hE;have hV4:=hV4.ext hE;have hV10:=hV10.ext hE;have hV13:=hV13.ext hE;have hcq:=Cd hcq hE;have hpp:=hpp.ext hE;refine⟨hF.drop 4,?_⟩;refine Qb O (Ng (v':=.bool true) (Xp QO QO _ _ _ _ _ hV13.rep (show RX w0 [] _ [Ub QO] [J 6,I [],aQ,aQ] from RX.tree ⟨by omega,by omega⟩ Da (RX.nils) (RX.nils)).rep) (congrArg Value.bool (Nh _))) (Xa Px O O O) ?_;rintro _ w ⟨rfl,hE⟩;have hF:=hF.ext hE;have hV4:=hV4.ext hE;have hV10:=hV10.ext hE;have hV13:=hV13.ext hE
 have hcq:=Cd hcq hE;have hpp:=hpp.ext hE;refine⟨hF.drop 4,?_⟩;refine Cb O (Kc O O) (Cb O (Jc O) (Hc (Ha ?_)));refine Rd (v:=.bool true) O O ?_;exact⟨O,hF.same⟩;refine Af O (v:=λb=>sV b 1 1) hF (Sa (cs:=#[I [97]]) cX vZ rX Pa Pa Ob) ?_;intro b210 w hb210 hF hE;have hV4:=hV4.alloc hE hb210;have hV10:=hV10.alloc hE hb210;have hV13:=hV13.alloc hE hb210;have hcq:=Cd hcq hE;have hpp:=hpp.ext hE;refine⟨hF.drop 3,?_⟩;refine Le O (v:=.slice (pA) (([[97]]:List Str).length) (pc)) (Pb wQ O (hcq 0 Da)) (hF.mid 3 7) (Qb O (Ng (v':=.bool true) (B3 [[97]] [[97]] pA (some ⟨b210,0,none⟩) pc 1 _ _ _ hpp (show RX w0 [] _ [Ud [[97]]] _ from hF.rowX 0 (n:=1) O (RX.strs (ks:=[[97]]) Da) Da O tX).rep) (congrArg Value.bool (decide_eq_true O))) (Xa WS O O O) ?_);rintro _ w ⟨rfl,hE⟩;have hF:=hF.ext hE;have hV4:=hV4.ext hE;have hV10:=hV10.ext hE;have hV13:=hV13.ext hE;have hcq:=Cd hcq hE;have hpp:=hpp.ext hE;refine⟨hF.drop 3,?_⟩;refine Cb O (Kc O O) (Cb O (Hd O) (Cb O (Vb O) (Qa O (v:=.bool true) (λw hC=>Ve (Xi O O) Pa) (Cb O (Kc O O) (Cb O (Hd O) (Cb O (Je O) (Cb O (Tf gX O) (Qa O (v:=.bool true) (λw hC=>Ve (Xi O O) Pa) (Cb O (Kc O O) (Cb O (Hd O) (Wj O (Of zQ oZ O C0 2 O O) (Cb O (Je O) (Qa O (v:=.pointer (some ⟨b1,4,none⟩)) (λw hC=>Jb (i:=1) 4 Ae O O Pa Pa O) ?_)))))))))))));refine Qa O (λw hC=>Ya (l:=[J 3,I [49],aQ,aQ]) zQ oZ O O (hC.part 6 4 O O)) (Cb O (Je O) (Qa O (v:=.pointer (some ⟨b1,36,none⟩)) (λw hC=>Jb (i:=9) 36 Ae O O Pa Pa O) (Qa O (λw hC=>Ya (l:=[J 3,I [57],aQ,aQ]) zQ oZ O O (hC.part 6 36 O O)) (Cb O (Je O) (Qa O (v:=.pointer (some ⟨b1,8,none⟩)) (λw hC=>Jb (i:=2) 8 Ae O O Pa Pa O) (Qa O (λw hC=>Ya (l:=[J 3,I [50],aQ,aQ]) zQ oZ O O (hC.part 6 8 O O)) (Cb O (Je O) (Qa O (v:=.pointer (some ⟨b1,12,none⟩)) (λw hC=>Jb (i:=3) 12 Ae O O Pa Pa O) (Qa O (λw hC=>Ya (l:=[J 3,I [51],aQ,aQ]) zQ oZ O O (hC.part 6 12 O O)) ?_)))))))))
 refine Af O (v:=λb=>sV b 4 4) hF (Sa (cs:=(nA4 49 57 50 51)) dX oZ mX Pa Pa Ob) ?_;intro b211 w hb211 hF hE;have hV4:=hV4.alloc hE hb211;have hV10:=hV10.alloc hE hb211;have hV13:=hV13.alloc hE hb211;have hcq:=Cd hcq hE;have hpp:=hpp.ext hE;refine⟨hF.drop 4,?_⟩;refine Qb O (LK (some ⟨b211,0,none⟩) 4 4 _) (Ra VM O O) ?_;rintro _ w ⟨rfl,hE⟩;have hF:=hF.ext hE;have hV4:=hV4.ext hE;have hV10:=hV10.ext hE;have hV13:=hV13.ext hE;have hcq:=Cd hcq hE;have hpp:=hpp.ext hE;refine⟨hF.drop 4,?_⟩;refine Qb O (Ng (v':=.bool true) (Xp PC PC _ _ _ _ _ hV10.rep (show RX w0 [] _ [Ub PC] [J 5,I [],aQ,sV b211 4 4] from RX.tree ⟨by omega,by omega⟩ Da (RX.nils) (hF.rowX 0 O ((RX.append (ds:=[_]) (RX.num _ Da) (RX.append (ds:=[_]) (RX.num _ Da) (RX.append (ds:=[_]) (RX.num _ Da) (RX.num _ Da))))) Da O tX)).rep) (congrArg Value.bool (Nh _))) (Xa Px O O O) ?_;rintro _ w ⟨rfl,hE⟩;have hF:=hF.ext hE;have hV4:=hV4.ext hE;have hV10:=hV10.ext hE;have hV13:=hV13.ext hE;have hcq:=Cd hcq hE;have hpp:=hpp.ext hE;refine⟨hF.drop 4,?_⟩;refine Cb O (Kc O O) (Cb O (Hd O) (Cb O (Vb O) (Qa O (v:=.bool true) (λw hC=>Ve (Xi O O) Pa) (Cb O (Kc O O) (Cb O (Hd O) (Wj O (Of zQ oZ O C0 0 O O) ?_))))));refine Qb O (QA (none) 0 0 (none) 0 0 _) (Xa HA O O O) ?_;rintro _ w ⟨rfl,hE⟩;have hF:=hF.ext hE;have hV4:=hV4.ext hE;have hV10:=hV10.ext hE;have hV13:=hV13.ext hE;have hcq:=Cd hcq hE;have hpp:=hpp.ext hE;refine⟨hF.drop 4,?_⟩;refine Qb O (Ng (v':=.bool true) (Xp QO QO _ _ _ _ _ hV13.rep (show RX w0 [] _ [Ub QO] [J 6,I [],aQ,aQ] from RX.tree ⟨by omega,by omega⟩ Da (RX.nils) (RX.nils)).rep) (congrArg Value.bool (Nh _))) (Xa Px O O O) ?_;rintro _ w ⟨rfl,hE⟩;have hF:=hF.ext hE;have hV4:=hV4.ext hE;have hV10:=hV10.ext hE;have hV13:=hV13.ext hE
 have hcq:=Cd hcq hE;have hpp:=hpp.ext hE;refine⟨hF.drop 4,?_⟩;refine Cb O (Kc O O) (Cb O (Jc O) (Hc (Ha ?_)));refine Rd (v:=.bool true) O O ?_;exact⟨O,hF.same⟩
end Go.Scarf
